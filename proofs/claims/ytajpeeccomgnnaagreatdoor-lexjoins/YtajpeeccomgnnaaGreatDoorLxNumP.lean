/-
  Numbers: plain facts on digits and on what is replaced.
-/
import Derived.Test.YtajpeeccomgnnaaGreatDoorLxEsc
import Derived.Test.YtajpeeccomgnnaaGreatDoorLxBlP
import Derived.Lib.Replace
namespace Go.Proofs.YtajpeeccomgnnaaGreatDoor
set_option linter.all false
open Go Go.RowKit

theorem index_cons_ne {b c : UInt8} {l : List UInt8} (h : b ≠ c) : Lib.index (b :: l) [c] = if Lib.index l [c] == -1 then -1 else Lib.index l [c] + 1 := by
  rw [Lib.index]
  have hp : List.isPrefixOf [c] (b :: l) = false := by simp [List.isPrefixOf]; exact fun e => h e.symm
  rw [hp]; rfl
theorem index_cons_eq {c : UInt8} {l : List UInt8} : Lib.index (c :: l) [c] = 0 := by
  rw [Lib.index]
  have hp : List.isPrefixOf [c] (c :: l) = true := by simp [List.isPrefixOf]
  rw [hp]; rfl
theorem repK_ne {b c d : UInt8} (h : b ≠ c) (l : List UInt8) : ∀ k, Lib.replaceK [c] [d] k (b :: l) = b :: Lib.replaceK [c] [d] k l
  | 0 => rfl
  | k + 1 => by
    have hg := Lib.index_ge l [c]
    unfold Lib.replaceK
    rw [index_cons_ne h]
    by_cases hi : Lib.index l [c] = -1
    · rw [hi]; rfl
    · have h1 : (Lib.index l [c] == -1) = false := by simpa using hi
      have h2 : (Lib.index l [c] + 1 == -1) = false := by simp; omega
      rw [h1]
      simp only [Bool.false_eq_true, if_false]
      rw [h2]
      simp only [Bool.false_eq_true, if_false]
      obtain ⟨j, hj⟩ : ∃ j : Nat, Lib.index l [c] = j := ⟨(Lib.index l [c]).toNat, by omega⟩
      rw [hj, show ((j : Int) + 1).toNat = j + 1 by omega, show ((j : Int)).toNat = j by omega]
      simp [List.take_succ_cons, show j + 1 + 1 = (j + 1) + 1 by omega]
theorem repK_map {c d : UInt8} : ∀ l : List UInt8, Lib.replaceK [c] [d] (Lib.count l [c]) l = l.map fun x => if x = c then d else x
  | [] => by
    have : Lib.count [] [c] = 0 := Lib.count_miss rfl
    rw [this]; rfl
  | b :: l => by
    by_cases h : b = c
    · subst h
      rw [Lib.count_cons_eq, Nat.add_comm, Lib.replaceK_hit [b] [d] _ _ 0 index_cons_eq]
      simp [repK_map l]
    · rw [Lib.count_cons_ne b c l h, repK_ne h, repK_map l, List.map_cons, if_neg h]
theorem rep_real (l : List UInt8) : Lib.replaceAll l [126] [45] = realT l := by
  unfold Lib.replaceAll Lib.replace realT
  rw [if_neg (by decide)]
  have : Lib.replaceNum l [126] (-1) = Lib.count l [126] := by unfold Lib.replaceNum; rw [if_pos (Or.inl (by decide))]
  rw [this, repK_map]
/-- Are all bytes digits? -/
def AllD (l : List UInt8) : Prop := ∀ x ∈ l, 48 ≤ x.toNat ∧ x.toNat ≤ 57
theorem sub_all {s : ByteArray} {k : Nat} (hk : k ≤ s.size) : ∀ (m i : Nat), m = k - i → (∀ j, i ≤ j → j < k → isDig (bt s j) = true) → AllD (sub s i k)
  | 0, i, hm, h => fun x hx => by
    rcases Nat.lt_or_ge i k with c | c
    · omega
    · have : sub s i k = [] := by rw [sub_drop]; apply List.drop_eq_nil_of_le; simp; omega
      rw [this] at hx; cases hx
  | m + 1, i, hm, h => fun x hx => by
    rw [sub_cons (by omega) hk] at hx
    rcases List.mem_cons.1 hx with rfl | hx
    · have := dig_range (h i (Nat.le_refl _) (by omega))
      rw [ofNat_toNat (by omega)]; exact this
    · exact sub_all hk m (i + 1) (by omega) (fun j h1 h2 => h j (by omega) h2) x hx
theorem sub_digs {s : ByteArray} {i : Nat} (hi : i ≤ s.size) : AllD (sub s i (runE isDig s i)) :=
  sub_all (runE_size hi) _ i rfl (fun j h1 h2 => runE_all h1 h2)
theorem rdr_zero (l : List UInt8) : rdr 0 (48 :: l) = rdr 0 l := by
  rw [rdr_cons]; rfl
theorem rdr_strip : ∀ l : List UInt8, rdr 0 (Lib.trimLeftB l 48) = rdr 0 l
  | [] => rfl
  | x :: l => by
    unfold Lib.trimLeftB
    by_cases h : x = 48
    · subst h
      rw [List.dropWhile_cons, if_pos (by simp), rdr_zero]
      exact rdr_strip l
    · rw [List.dropWhile_cons, if_neg (by simpa using h)]
theorem strip_sub (l : List UInt8) : ∀ x ∈ Lib.trimLeftB l 48, x ∈ l := fun x hx => (List.dropWhile_sublist _).mem hx
theorem strip_head {l : List UInt8} {x : UInt8} {r : List UInt8} (h : Lib.trimLeftB l 48 = x :: r) : x ≠ 48 := by
  intro e
  subst e
  have := List.head?_dropWhile_not (p := fun y : UInt8 => y == 48) l
  unfold Lib.trimLeftB at h
  rw [h] at this
  simp at this
theorem strip_len (l : List UInt8) : (Lib.trimLeftB l 48).length ≤ l.length := (List.dropWhile_sublist _).length_le
theorem isNum_of {x : UInt8} {r : List UInt8} (hx : x ≠ 48) (ha : AllD (x :: r)) : isNum (x :: r) = true := by
  unfold isNum
  simp only [List.isEmpty_cons, Bool.not_false, Bool.true_and, Bool.and_eq_true, Bool.not_eq_true', List.head?_cons, List.all_eq_true, decide_eq_true_eq]
  refine ⟨?_, ha⟩
  have : (some x == some (48 : UInt8)) = false := by simpa using hx
  rw [this, Bool.and_false]
theorem prs_strip {l : List UInt8} {x : UInt8} {r : List UInt8} (h : Lib.trimLeftB l 48 = x :: r) (ha : AllD l) : prs (x :: r) = some (rdr 0 l : Int) := by
  have h2 : AllD (x :: r) := fun y hy => ha y (strip_sub l y (h ▸ hy))
  have h3 := h2 x (by simp)
  unfold prs
  rw [if_neg (by
    simp only [List.head?_cons, Option.some.injEq]
    intro e; subst e; simp at h3), if_pos (isNum_of (strip_head h) h2), ← h, rdr_strip]
theorem prs_nought : prs [48] = some 0 := by decide
theorem rdr_none {l : List UInt8} (h : Lib.trimLeftB l 48 = []) : rdr 0 l = 0 := by rw [← rdr_strip, h]; rfl
end Go.Proofs.YtajpeeccomgnnaaGreatDoor
