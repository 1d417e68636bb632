/-
  big.natParse, walked.
-/
import Derived.Test.YticfggljaagcmaaDoorText
import Derived.Shelf.Strings.SlTrimAscii
namespace Go.Proofs.YticfggljaagcmaaDoor
set_option linter.all false
open Go.RowKit Go.Shelf

/-- The ten digits. -/
def tenD : List UInt8 := [48, 49, 50, 51, 52, 53, 54, 55, 56, 57]
set_option maxRecDepth 100000 in
theorem ten_iff (c : UInt8) : tenD.contains c = (decide (48 ≤ c.toNat) && decide (c.toNat ≤ 57)) := by
  have h : ∀ n : Fin 256, tenD.contains (UInt8.ofNat n.val) = (decide (48 ≤ n.val) && decide (n.val ≤ 57)) := by decide
  have := h ⟨c.toNat, c.toNat_lt⟩
  simpa using this
theorem drop_all {p : UInt8 → Bool} {l : List UInt8} (h : l.all p = true) : l.dropWhile p = [] := by
  induction l with
  | nil => rfl
  | cons c l ih =>
    rw [List.all_cons, Bool.and_eq_true] at h
    rw [List.dropWhile_cons, if_pos h.1]; exact ih h.2
theorem drop_some {p : UInt8 → Bool} {l : List UInt8} (h : l.all p = false) : (l.dropWhile p).all p = false := by
  induction l with
  | nil => cases h
  | cons c l ih =>
    rw [List.dropWhile_cons]
    split
    · rename_i hc; rw [List.all_cons, hc, Bool.true_and] at h; exact ih h
    · exact h
theorem trimS_nil {l cs : List UInt8} (h : l.all (cs.contains ·) = true) : Lib.trimS l cs = [] := by
  unfold Lib.trimS Lib.trimRightS Lib.trimLeftS
  have e : l.reverse.dropWhile (cs.contains ·) = [] := drop_all (by rw [List.all_reverse]; exact h)
  rw [e]; rfl
theorem trimS_ne {l cs : List UInt8} (h : l.all (cs.contains ·) = false) : Lib.trimS l cs ≠ [] := by
  unfold Lib.trimS Lib.trimRightS Lib.trimLeftS
  intro e
  have h1 := drop_some (p := (cs.contains ·)) (l := l.reverse) (by rw [List.all_reverse]; exact h)
  have h2 := drop_some (p := (cs.contains ·)) (l := (l.reverse.dropWhile (cs.contains ·)).reverse) (by rw [List.all_reverse]; exact h1)
  rw [e] at h2
  cases h2
theorem trim_all (l : List UInt8) (w : World) (hl : l.length ≤ 1099511627776) :
    Calls Tryd.prog 73 #[.string ⟨l.toArray⟩, .string ⟨#[48, 49, 50, 51, 52, 53, 54, 55, 56, 57]⟩] w fun e w' => e = .returned (.string ⟨(Lib.trimS l tenD).toArray⟩) ∧ Below w.heap.size w w' :=
  Any.strings_Trim_laid Tryd.lays160 (by kernel_rfl) ⟨l.toArray⟩ ⟨#[48, 49, 50, 51, 52, 53, 54, 55, 56, 57]⟩ w (by show l.length ≤ _; omega) (by decide) (ascii_of_all (by decide))

set_option maxHeartbeats 1000000 in
theorem natParse_bad (l : List UInt8) (w : World) (hl : l.length ≤ 1099511627776) (hb : isNum l = false) :
    Calls Tryd.prog 50 #[.string ⟨l.toArray⟩] w fun e w' => e = .returned (.tuple #[.slice none 0 0, .int .i64 11]) ∧ Below w.heap.size w w' := by
  rcases l with _ | ⟨c, l⟩
  · clear hb
    go_enter Tryd.func50, Tryd.ntmps50
    go_wp2
    go_ret2
    exact ⟨rfl, Below.refl _ _⟩
  · have hx : (({ data := (c :: l).toArray } : ByteArray)[0]'(by simp [ByteArray.size])).toNat = c.toNat := rfl
    have ha : Hid (c ≠ 48 ∨ l = [] → (c :: l).all (tenD.contains ·) = false) := by
      refine hid (fun h => ?_)
      unfold isNum at hb
      rw [show ((c :: l).all fun c => decide (48 ≤ c.toNat) && decide (c.toNat ≤ 57)) = (c :: l).all (tenD.contains ·) by congr 1; funext x; exact (ten_iff x).symm] at hb
      rcases hq : (c :: l).all (tenD.contains ·) with _ | _
      · rfl
      · rw [hq] at hb
        rcases h with h | h
        · simp [h] at hb
        · subst h; simp at hb
    clear hb
    have hll : l.length + 1 ≤ 1099511627776 := hl
    by_cases hc : c = 48
    · subst hc
      rcases l with _ | ⟨d, l⟩
      · have hne := trimS_ne (ha.out (.inr rfl))
        clear ha
        rcases hq : Lib.trimS [48] tenD with _ | ⟨x, t⟩
        · exact absurd hq hne
        · clear hne
          have HQ := hid hq
          clear hq
          go_enter Tryd.func50, Tryd.ntmps50
          go_wp2_with (go_at_call 73; refine (trim_all _ _ hl).mono ?_; rintro e w1 ⟨rfl, k1⟩; rw [HQ.out])
          go_ret2
          exact ⟨rfl, k1⟩
      · clear ha
        have h48 : ((48 : UInt8).toNat : Int) = 48 := rfl
        go_enter Tryd.func50, Tryd.ntmps50
        go_wp2
        go_ret2
        exact ⟨rfl, Below.refl _ _⟩
    · have hne := trimS_ne (ha.out (.inl hc))
      have hcn : ¬ (c.toNat : Int) = 48 := by
        intro e
        exact hc (UInt8.toNat_inj.1 (by rw [show (48 : UInt8).toNat = 48 from rfl]; omega))
      clear ha hc
      rcases hq : Lib.trimS (c :: l) tenD with _ | ⟨x, t⟩
      · exact absurd hq hne
      · clear hne
        have HQ := hid hq
        clear hq
        by_cases h1 : 1 < (l.length : Int) + 1
        all_goals
          go_enter Tryd.func50, Tryd.ntmps50
          go_wp2_with (go_at_call 73; refine (trim_all _ _ hl).mono ?_; rintro e w1 ⟨rfl, k1⟩; rw [HQ.out])
          go_ret2
          exact ⟨rfl, k1⟩
end Go.Proofs.YticfggljaagcmaaDoor
