/-
  Reserved words: the pure law.
-/
import Derived.Test.YtkblonfmjlopaaaGreatDoorLxTok
set_option linter.all false
set_option maxRecDepth 1000000
set_option maxHeartbeats 16000000
namespace Go.Proofs.YtkblonfmjlopaaaGreatDoor
open Go Go.RowKit
def wordsL : List UInt8 := [32, 97, 110, 100, 32, 97, 110, 100, 97, 108, 115, 111, 32, 97, 115, 32, 99, 97, 115, 101, 32, 100, 97, 116, 97, 116, 121, 112, 101, 32, 100, 111, 32, 101, 108, 115, 101, 32, 101, 110, 100, 32, 101, 120, 99, 101, 112, 116, 105, 111, 110, 32, 102, 110, 32, 102, 117, 110, 32, 104, 97, 110, 100, 108, 101, 32, 105, 102, 32, 105, 110, 32, 105, 110, 102, 105, 120, 32, 105, 110, 102, 105, 120, 114, 32, 108, 101, 116, 32, 110, 111, 110, 102, 105, 120, 32, 111, 102, 32, 111, 112, 32, 111, 114, 101, 108, 115, 101, 32, 114, 97, 105, 115, 101, 32, 115, 105, 103, 32, 115, 105, 103, 110, 97, 116, 117, 114, 101, 32, 115, 116, 114, 117, 99, 116, 32, 115, 116, 114, 117, 99, 116, 117, 114, 101, 32, 116, 104, 101, 110, 32, 116, 121, 112, 101, 32, 118, 97, 108, 32, 119, 104, 105, 108, 101, 32]
def signsL : List UInt8 := [32, 45, 62, 32, 61, 62, 32, 58, 32, 58, 62, 32, 61, 32, 124, 32, 35, 32]
def resL : List (List UInt8) := [[97, 110, 100], [97, 110, 100, 97, 108, 115, 111], [97, 115], [99, 97, 115, 101], [100, 97, 116, 97, 116, 121, 112, 101], [100, 111], [101, 108, 115, 101], [101, 110, 100], [101, 120, 99, 101, 112, 116, 105, 111, 110], [102, 110], [102, 117, 110], [104, 97, 110, 100, 108, 101], [105, 102], [105, 110], [105, 110, 102, 105, 120], [105, 110, 102, 105, 120, 114], [108, 101, 116], [110, 111, 110, 102, 105, 120], [111, 102], [111, 112], [111, 114, 101, 108, 115, 101], [114, 97, 105, 115, 101], [115, 105, 103], [115, 105, 103, 110, 97, 116, 117, 114, 101], [115, 116, 114, 117, 99, 116], [115, 116, 114, 117, 99, 116, 117, 114, 101], [116, 104, 101, 110], [116, 121, 112, 101], [118, 97, 108], [119, 104, 105, 108, 101], [45, 62], [61, 62], [58], [58, 62], [61], [124], [35], [40], [41], [91], [93], [123], [125], [44], [59], [95]]
def rsv (l : List UInt8) : Bool := resL.contains l
def cands : List UInt8 → List (List UInt8)
  | [] => []
  | c :: l => (if c = 32 then [l.takeWhile (· != 32)] else []) ++ cands l
theorem take_blank {l r X : List UInt8} (hl : l.contains 32 = false) (h : X = l ++ 32 :: r) : X.takeWhile (· != 32) = l := by
  subst h
  induction l with
  | nil => simp
  | cons c l ih =>
    simp only [List.contains_cons, Bool.or_eq_false_iff] at hl
    have hc : (c != 32) = true := by
      have := hl.1; simp only [beq_eq_false_iff_ne, ne_eq] at this; simp only [bne_iff_ne, ne_eq]; exact fun h => this h.symm
    rw [List.cons_append, List.takeWhile_cons, if_pos hc, ih hl.2]
theorem cands_of {l : List UInt8} (hl : l.contains 32 = false) : ∀ W : List UInt8, Lib.contains W (32 :: (l ++ [32])) = true → l ∈ cands W
  | [], h => by simp [Lib.contains, Lib.index] at h
  | c :: W, h => by
    unfold Lib.contains at h; rw [Lib.index] at h
    split at h
    · rename_i hp; obtain ⟨r, hr⟩ := List.isPrefixOf_iff_prefix.1 hp; simp only [List.cons_append, List.append_assoc, List.nil_append, List.cons.injEq] at hr; obtain ⟨rfl, hr⟩ := hr; unfold cands; rw [if_pos rfl, take_blank hl hr.symm]; simp
    · have h2 : Lib.contains W (32 :: (l ++ [32])) = true := by
        unfold Lib.contains
        split at h
        · simp at h
        · rename_i hne; have := Lib.index_ge W (32 :: (l ++ [32])); simp only [beq_iff_eq] at hne; simp only [decide_eq_true_eq]; omega
      have := cands_of hl W h2; unfold cands; exact List.mem_append_right _ this
theorem cands_words : ∀ x ∈ cands wordsL, x = [] ∨ rsv x = true := by decide +kernel
theorem cands_signs : ∀ x ∈ cands signsL, x = [] ∨ rsv x = true := by decide +kernel
theorem one_res : ∀ c ∈ oneL, rsv [c] = true := by decide +kernel
theorem idx_mem {c : UInt8} : ∀ l : List UInt8, (0 ≤ Lib.indexByte l c) ↔ c ∈ l
  | [] => by simp [Lib.indexByte]
  | b :: l => by
    have ih := idx_mem (c := c) l; have hg := Lib.indexByte_ge l c; rw [Lib.indexByte]
    by_cases hb : b = c
    · subst hb; simp
    · have hb' : (b == c) = false := by simpa using hb
      rw [if_neg (by rw [hb']; simp)]
      by_cases hi : Lib.indexByte l c = -1
      · rw [if_pos (by simpa using hi)]
        constructor
        · intro h; omega
        · intro h; simp only [List.mem_cons] at h
          rcases h with h | h
          · exact absurd h.symm hb
          · have := ih.2 h; omega
      · rw [if_neg (by simpa using hi)]
        constructor
        · intro _; exact List.mem_cons_of_mem _ (ih.1 (by omega))
        · intro _; omega
def rsvP (l : List UInt8) : Bool := !l.isEmpty && !decide (0 ≤ Lib.indexByte l 32) && (Lib.contains wordsL (32 :: (l ++ [32])) || Lib.contains signsL (32 :: (l ++ [32])) || decide (l.length = 1) && Lib.contains oneL l)
theorem res_all : ∀ x ∈ resL, rsvP x = true := by decide +kernel
theorem rsv_mem {l : List UInt8} : rsv l = true ↔ l ∈ resL := by
  unfold rsv; exact List.contains_iff_mem
theorem contains_one {W : List UInt8} {c : UInt8} : Lib.contains W [c] = true → c ∈ W := by
  induction W with
  | nil => intro h; simp [Lib.contains, Lib.index] at h
  | cons b W ih =>
    intro h; unfold Lib.contains at h; rw [Lib.index] at h
    split at h
    · rename_i hp; simp at hp; simp [hp]
    · have hg := Lib.index_ge W [c]
      split at h
      · simp at h
      · rename_i hne; simp only [beq_iff_eq] at hne; exact List.mem_cons_of_mem _ (ih (by unfold Lib.contains; simp only [decide_eq_true_eq]; omega))
theorem rsv_eq (l : List UInt8) : rsvP l = rsv l := by
  rcases hr : rsv l with _ | _
  · rcases hp : rsvP l with _ | _
    · rfl
    · exfalso; unfold rsvP at hp; simp only [Bool.and_eq_true, Bool.or_eq_true, Bool.not_eq_true', List.isEmpty_eq_false_iff, decide_eq_false_iff_not, decide_eq_true_eq] at hp; obtain ⟨⟨h0, h1⟩, h2⟩ := hp
      have hl : l.contains 32 = false := by
        rcases hc : l.contains 32 with _ | _
        · rfl
        · exact absurd ((idx_mem l).2 (List.contains_iff_mem.1 hc)) h1
      rcases h2 with (h2 | h2) | h2
      · rcases cands_words l (cands_of hl _ h2) with h | h
        · exact h0 h
        · rw [hr] at h; cases h
      · rcases cands_signs l (cands_of hl _ h2) with h | h
        · exact h0 h
        · rw [hr] at h; cases h
      · obtain ⟨c, rfl⟩ := List.length_eq_one_iff.1 h2.1; have := one_res c (contains_one h2.2); rw [hr] at this; cases this
  · exact res_all l (rsv_mem.1 hr)
def sub (s : ByteArray) (i k : Nat) : List UInt8 := (s.extract i k).data.toList
abbrev Ans := Except (Nat × Nat) (Tok × Nat)
def shortS (s : ByteArray) (i k kind : Nat) : Ans := if 64 < k - i then .error (32, i) else .ok (⟨kind, sub s i k, 0, 0, 0, i⟩, k)
def longS (s : ByteArray) : Nat → Nat → Nat → Ans
  | 0, i, k => shortS s i k 1
  | m + 1, i, k =>
    if bt s k = 46 ∧ isLet (bt s (k + 1)) = true then
      if rsv (sub s (k + 1) (runE isNam s (k + 1))) = true then .error (32, k + 1) else longS s m i (runE isNam s (k + 1))
    else shortS s i k 1
def nameS (s : ByteArray) (i : Nat) : Ans :=
  if rsv (sub s i (runE isNam s i)) = true then .ok (⟨8, sub s i (runE isNam s i), 0, 0, 0, i⟩, runE isNam s i)
  else longS s (s.size - runE isNam s i) i (runE isNam s i)
def numW (s : ByteArray) (i : Nat) : Nat := runE isDig s (if bt s i = 126 then i + 1 else i)
def numF (s : ByteArray) (w : Nat) : Nat := if bt s w = 46 ∧ isDig (bt s (w + 1)) = true then runE isDig s (w + 1) else w
def numX (s : ByteArray) (k : Nat) : Nat := if bt s (k + 1) = 126 then k + 2 else k + 1
def numE (s : ByteArray) (k : Nat) : Nat := if bt s k = 101 then (if isDig (bt s (numX s k)) = true then runE isDig s (numX s k) else k) else k
def numV (s : ByteArray) (i k : Nat) : Int := if bt s i = 126 then -((rdr 0 (sub s (i + 1) k) : Nat) : Int) else ((rdr 0 (sub s i k) : Nat) : Int)
def realT (l : List UInt8) : List UInt8 := l.map fun c => if c = 126 then 45 else c
def numberS (F : List UInt8 → Nat) (s : ByteArray) (i : Nat) : Ans :=
  let k := numE s (numF s (numW s i))
  if k = numW s i then (if 2000 < k - i then .error (32, i) else .ok (⟨4, sub s i k, numV s i k, 0, 0, i⟩, k))
  else if 100 < k - i then .error (32, i) else .ok (⟨5, sub s i k, 0, F (realT (sub s i k)), 0, i⟩, k)
def escS (s : ByteArray) (k : Nat) : Nat × Nat :=
  if bt s k = 110 then (10, 1) else if bt s k = 116 then (9, 1) else if bt s k = 92 ∨ bt s k = 34 then (bt s k, 1)
  else if k + 3 ≤ runE isDig s k then
    (let n := (bt s k - 48) * 100 + (bt s (k + 1) - 48) * 10 + (bt s (k + 2) - 48)
     if n < 256 then (n, 3) else (0, 0))
  else (0, 0)
def quoS (s : ByteArray) : Nat → Nat → List UInt8 → Except (Nat × Nat) (List UInt8 × Nat)
  | 0, _, _ => .error (31, s.size)
  | m + 1, k, out =>
    if s.size ≤ k then .error (31, s.size)
    else if bt s k = 34 then .ok (out, k + 1)
    else if bt s k < 32 ∨ 126 < bt s k then .error (32, k)
    else if bt s k ≠ 92 then quoS s m (k + 1) (out ++ [UInt8.ofNat (bt s k)])
    else if (escS s (k + 1)).2 = 0 then .error (32, k)
    else quoS s m (k + 1 + (escS s (k + 1)).2) (out ++ [UInt8.ofNat (escS s (k + 1)).1])
def quotedS (s : ByteArray) (i : Nat) : Except (Nat × Nat) (List UInt8 × Nat) := quoS s (s.size + 1 - (i + 1)) (i + 1) []
def wordS (F : List UInt8 → Nat) (s : ByteArray) (i : Nat) : Ans :=
  let c := bt s i
  if isLet c = true then nameS s i
  else if isDig c = true ∨ c = 126 ∧ isDig (bt s (i + 1)) = true then numberS F s i
  else if c = 34 then (match quotedS s i with | .error e => .error e | .ok (x, k) => .ok (⟨7, x, 0, 0, 0, i⟩, k))
  else if c = 35 ∧ bt s (i + 1) = 34 then
    (match quotedS s (i + 1) with
     | .error e => .error e
     | .ok (x, k) => if x.length ≠ 1 then .error (32, i) else .ok (⟨6, x, 0, 0, (x[0]?.getD 0).toNat, i⟩, k))
  else if c = 39 then
    (let k := if bt s (i + 1) = 39 then i + 2 else i + 1
     if isLet (bt s k) = true then shortS s i (runE isNam s k) 3 else .error (30, i))
  else if isOne c = true then .ok (⟨8, sub s i (i + 1), 0, 0, 0, i⟩, i + 1)
  else if isSym c = true then shortS s i (runE isSym s i) (if rsv (sub s i (runE isSym s i)) = true then 8 else 2)
  else .error (30, i)
def blankS (s : ByteArray) : Nat → Nat → Nat → Option Nat
  | 0, _, i => some i
  | m + 1, deep, i =>
    if bt s i = 40 ∧ bt s (i + 1) = 42 then blankS s m (deep + 1) (i + 2)
    else if 0 < deep ∧ bt s i = 42 ∧ bt s (i + 1) = 41 then blankS s m (deep - 1) (i + 2)
    else if 0 < deep ∧ s.size ≤ i then none
    else if 0 < deep ∨ i < s.size ∧ (bt s i = 32 ∨ bt s i = 9 ∨ bt s i = 10 ∨ bt s i = 13) then blankS s m deep (i + 1)
    else some i
def blank (s : ByteArray) (i : Nat) : Option Nat := blankS s (s.size + 2 - i) 0 i
def toksS (F : List UInt8 → Nat) (s : ByteArray) : Nat → Nat → List Tok → Except (Nat × Nat) (List Tok)
  | 0, _, ts => .ok ts
  | m + 1, i, ts =>
    match blank s i with
    | none => .error (31, s.size)
    | some k => if s.size ≤ k then .ok ts else
      match wordS F s k with
      | .error e => .error e
      | .ok (t, n) => toksS F s m n (ts ++ [t])
def lexS (F : List UInt8 → Nat) (s : ByteArray) : Except (Nat × Nat) (List Tok) :=
  if 65536 < s.size then .error (2, 0) else toksS F s (s.size + 1) 0 []
/-! ### The scanner's state -/
def St (w : World) (b : Nat) (s : ByteArray) (p : Nat) (ts : List Tok) (base : Nat) : Prop :=
  ∃ la lc, Sc w b s p la ts.length lc 0 0 ∧ Toks w la ts.length lc ts ∧ New w base la (lc * 7) ∧ base ≤ b ∧ (∀ x off, la = some ⟨x, off, none⟩ → b < x ∧ x < w.heap.size) ∧ ts.length ≤ p
def Out (w w' : World) (b : Nat) (s : ByteArray) (ts : List Tok) (base : Nat) (e : Ending) (r : Ans) : Prop :=
  e = .returned (.tuple #[]) ∧ Below base w w' ∧ UsK w w' ∧
  match r with
  | .ok (t, q) => St w' b s q (ts ++ [t]) base
  | .error (c, q) => ∃ p la ln lc, Sc w' b s p la ln lc (c : Nat) (q : Nat)
theorem fail_any (b : Nat) (s : ByteArray) (p : Nat) (la : Option Addr) (ln lc : Nat) (code mat : Int) (c q : Int) (w : World) (base : Nat) (hb : base ≤ b) (h : Sc w b s p la ln lc code mat) :
    Calls Tryz.prog 48 #[.pointer (some ⟨b, 0, none⟩), .int .i64 c, .int .i64 q] w fun e w' => e = .returned (.tuple #[]) ∧ Sc w' b s p la ln lc c q ∧ Below base w w' ∧ UsK w w' := by
  obtain ⟨blt, c0, c1, c2, c3, c4, fr⟩ := h; have fr3 := fr 3; have fr4 := fr 4; go_enter Tryz.func48, Tryz.ntmps48
  go_wp2
  go_end0; have u1 : UsK w (w.setCell ⟨b, 3, none⟩ (.int .i64 c)) := (UsK.refl w).set c3 (fun _ h => by cases h) _; have c4' : (w.setCell ⟨b, 3, none⟩ (.int .i64 c)).cell? ⟨b, 4, none⟩ = some (.int .i64 mat) := by rw [World.cell?_setCell_other _ _ _ _ (by intro h; simp at h)]; exact c4
  refine ⟨rfl, ⟨by simpa using blt, ?_, ?_, ?_, ?_, ?_, fun o => by simpa using fr o⟩, ((Below.refl base w).setCell hb _).setCell hb _, u1.set c4' (fun _ h => by cases h) _⟩
  · rw [World.cell?_setCell_other _ _ _ _ (by intro h; simp at h), World.cell?_setCell_other _ _ _ _ (by intro h; simp at h)]; exact c0
  · rw [World.cell?_setCell_other _ _ _ _ (by intro h; simp at h), World.cell?_setCell_other _ _ _ _ (by intro h; simp at h)]; exact c1
  · rw [World.cell?_setCell_other _ _ _ _ (by intro h; simp at h), World.cell?_setCell_other _ _ _ _ (by intro h; simp at h)]; exact c2
  · rw [World.cell?_setCell_other _ _ _ _ (by intro h; simp at h), World.cell?_setCell_same _ _ _ c3]
  · rw [World.cell?_setCell_same _ _ _ c4']
theorem Sc.below {w w' : World} {b : Nat} {s : ByteArray} {p : Nat} {la : Option Addr} {ln lc : Nat} {code mat : Int} (h : Sc w b s p la ln lc code mat) (k : Below w.heap.size w w') : Sc w' b s p la ln lc code mat :=
  ⟨Nat.lt_of_lt_of_le h.lt k.size, (k.cell (p := ⟨b, 0, none⟩) h.lt).trans h.c0, (k.cell (p := ⟨b, 1, none⟩) h.lt).trans h.c1, (k.cell (p := ⟨b, 2, none⟩) h.lt).trans h.c2, (k.cell (p := ⟨b, 3, none⟩) h.lt).trans h.c3, (k.cell (p := ⟨b, 4, none⟩) h.lt).trans h.c4, fun o => (k.frozen (p := ⟨b, o, none⟩) h.lt).trans (h.fr o)⟩
theorem Toks.below {w w' : World} {a : Option Addr} {n c : Nat} {ts : List Tok} (h : Toks w a n c ts) (k : Below w.heap.size w w') : Toks w' a n c ts := by
  obtain ⟨f, A, e, z, t⟩ := h
  exact ⟨f, ⟨A.le, A.mx, fun j hj => by
    obtain ⟨x, off, ea, hc⟩ := A.cell j hj
    exact ⟨x, off, ea, (k.cell (p := ⟨x, off + j, none⟩) (World.block_lt_of_cell? w _ hc)).trans hc⟩⟩, e, z, fun i u hu => (t i u hu).keep (UsK.below k)⟩
theorem St.below {w w' : World} {b : Nat} {s : ByteArray} {p : Nat} {ts : List Tok} {base : Nat} (h : St w b s p ts base) (k : Below w.heap.size w w') : St w' b s p ts base := by
  obtain ⟨la, lc, h1, h2, h3, h4, h5, h6⟩ := h
  exact ⟨la, lc, h1.below k, h2.below k, fun i hi => by
    obtain ⟨x, off, e, g1, g2⟩ := h3 i hi
    exact ⟨x, off, e, g1, (k.frozen (p := ⟨x, off + i, none⟩) (h5 x off e).2).trans g2⟩, h4, fun x off e => ⟨(h5 x off e).1, Nat.lt_of_lt_of_le (h5 x off e).2 k.size⟩, h6⟩
theorem drewN_below (w : World) (q : Nat) : Below w.heap.size w (w.drewN q) := ⟨rfl, rfl, rfl, Nat.le_refl _, fun _ _ => rfl⟩
theorem Mg.zero (w : World) : Mg w false none 0 0 0 := ⟨fun _ => 0, Us.nil _ _, by omega, .inl rfl, fun _ => rfl, rfl⟩
theorem sub_size {s : ByteArray} {i k : Nat} (h1 : i ≤ k) (h2 : k ≤ s.size) : (s.extract i k).size = k - i := by simp; omega
theorem runN_le (p : Nat → Bool) (s : ByteArray) : ∀ m i, i ≤ runN p s m i
  | 0, i => Nat.le_refl _
  | m + 1, i => by
    unfold runN
    split
    · exact Nat.le_trans (Nat.le_succ i) (runN_le p s m (i + 1))
    · exact Nat.le_refl _
theorem runN_size (p : Nat → Bool) (s : ByteArray) : ∀ m i, i ≤ s.size → runN p s m i ≤ s.size
  | 0, i, h => h
  | m + 1, i, h => by
    unfold runN
    split
    · rename_i hc; exact runN_size p s m (i + 1) hc.1
    · exact h
theorem runE_le (p : Nat → Bool) (s : ByteArray) (i : Nat) : i ≤ runE p s i := runN_le p s _ i
theorem runE_size {p : Nat → Bool} {s : ByteArray} {i : Nat} (h : i ≤ s.size) : runE p s i ≤ s.size := runN_size p s _ i h
theorem x_short_any (b : Nat) (s : ByteArray) (p n kind : Nat) (ts : List Tok) (base : Nat) (w : World) (hs : s.size ≤ 65536) (hn : 0 < n) (hk : p + n ≤ s.size) (h : St w b s p ts base) (hbw : base ≤ w.heap.size) :
    Calls Tryz.prog 54 #[.pointer (some ⟨b, 0, none⟩), .agg #[.int .i64 (kind : Nat), .string ⟨#[]⟩, .bool false, .slice none 0 0, .int .u64 0, .int .i64 0, .int .i64 0], .int .i64 (n : Nat)] w fun e w' => Out w w' b s ts base e (shortS s p (p + n) kind) := by
  obtain ⟨la, lc, h1, h2, h3, h4, h5, h6⟩ := h; have hb1 := below_alloc w (.cells #[.int .i64 (kind : Nat), .string ⟨#[]⟩, .bool false, .slice none 0 0, .int .u64 0, .int .i64 0, .int .i64 0] 75); have h1' := h1.below hb1; have h2' := h2.below hb1
  have h3' : New (w.alloc (.cells #[.int .i64 (kind : Nat), .string ⟨#[]⟩, .bool false, .slice none 0 0, .int .u64 0, .int .i64 0, .int .i64 0] 75)) base la (lc * 7) := fun i hi => by
    obtain ⟨x, off, e, g1, g2⟩ := h3 i hi; exact ⟨x, off, e, g1, (hb1.frozen (p := ⟨x, off + i, none⟩) (h5 x off e).2).trans g2⟩
  have h5' : ∀ x off, la = some ⟨x, off, none⟩ → b < x ∧ x < (w.alloc (.cells #[.int .i64 (kind : Nat), .string ⟨#[]⟩, .bool false, .slice none 0 0, .int .u64 0, .int .i64 0, .int .i64 0] 75)).heap.size := fun x off e => ⟨(h5 x off e).1, Nat.lt_of_lt_of_le (h5 x off e).2 hb1.size⟩; have hbb := hb1.mono hbw; have uk := UsK.below hb1; unfold shortS; have c1 := h1'.c1
  by_cases hl : 64 < n
  · rw [if_pos (by omega)]; have hl' : (64 : Int) < (n : Int) := by omega
    go_enter Tryz.func54, Tryz.ntmps54
    go_wp2_with (go_at_call 48; refine (fail_any _ _ _ _ _ _ _ _ _ _ _ base h4 h1').mono ?_; rintro e w1 ⟨rfl, k1, k2, k3⟩)
    refine bodyPost_ret (results_none rfl _ _ _) rfl ?_; exact ⟨rfl, hbb.trans k2, uk.trans k3, _, _, _, _, k1⟩
  · rw [if_neg (by omega)]; have hl' : ¬ (64 : Int) < (n : Int) := by omega
    go_enter Tryz.func54, Tryz.ntmps54
    go_wp2_with (go_at_call 58; refine (tell_any b s p n la ts.length lc 0 0 kind 0 0 _ _ _ _ _ 0 _ ts base _ (by omega) hk h1' h2' h3' h4 h5' (Mg.zero _) (by omega)).mono ?_; rintro e w1 ⟨la', lc', rfl, k1, k2, k3, k4, k5, k6⟩)
    go_end0; refine ⟨rfl, hbb.trans k5, uk.trans k6, la', lc', ?_, ?_, k3, h4, k4, by simp; omega⟩
    · simpa using k1
    · simpa [sub] using k2
theorem bytes_list (l : List UInt8) : (⟨l.toArray⟩ : ByteArray).data.toList = l := by simp
theorem bytes_blanks (l : List UInt8) : ((⟨#[32]⟩ : ByteArray) ++ ⟨l.toArray⟩ ++ ⟨#[32]⟩).data.toList = 32 :: (l ++ [32]) := by simp
theorem reserved_any (l : List UInt8) (m : Int) (w : World) (hm : w.cell? ⟨3, 0, none⟩ = some (.int .i64 m)) (hl : l.length ≤ 281474976710656) :
    Calls Tryz.prog 60 #[.string ⟨l.toArray⟩] w fun e w' => e = .returned (.bool (rsv l)) ∧ w' = w := by
  have HE := hid (rsv_eq l); have tk1 : True := trivial; have tk2 : True := trivial; have tk3 : True := trivial; have tk4 : True := trivial; have hc1 : ¬ 9223372036854775807 < (⟨#[32]⟩ : ByteArray).size + (⟨l.toArray⟩ : ByteArray).size := by simp [ByteArray.size]; omega
  have hc2 : ¬ 9223372036854775807 < ((⟨#[32]⟩ : ByteArray) ++ ⟨l.toArray⟩).size + (⟨#[32]⟩ : ByteArray).size := by simp [ByteArray.size]; omega
  by_cases hne : l = []
  · subst hne; go_enter Tryz.func60, Tryz.ntmps60
    go_wp2
    go_ret; exact ⟨rfl, rfl⟩
  have hemp : l.isEmpty = false := by simpa using hne
  clear hne
  rcases h1 : decide (0 ≤ Lib.indexByte l 32) with _ | _
  · have H1 := hid h1
    rcases h2 : Lib.contains wordsL (32 :: (l ++ [32])) with _ | _
    · have H2 := hid h2
      rcases h3 : Lib.contains signsL (32 :: (l ++ [32])) with _ | _
      · have H3 := hid h3; clear h1 h2 h3
        by_cases h4 : l.length = 1
        · have h4' : ((l.length : Int) == 1) = true := by simp [h4]
          have HV : Hid (rsvP l = Lib.contains oneL l) := hid (by unfold rsvP; rw [H1.out, H2.out, H3.out]; simp [hemp, h4]); go_enter Tryz.func60, Tryz.ntmps60
          go_wp2_with (first | (have _t := tk1; go_at_call 94; refine (Tryz.strings_Contains_one _ _ _).mono ?_; rintro e w' ⟨rfl, rfl⟩; rw [bytes_list, H1.out]; clear tk1) | (have _t := tk2; go_at_call 94; refine (Tryz.strings_Contains ⟨wordsL.toArray⟩ _ m _ (by decide) (by assumption)).mono ?_; rintro e w' ⟨rfl, rfl⟩; rw [bytes_blanks, bytes_list, H2.out]; clear tk2) | (have _t := tk3; go_at_call 94; refine (Tryz.strings_Contains ⟨signsL.toArray⟩ _ m _ (by decide) (by assumption)).mono ?_; rintro e w' ⟨rfl, rfl⟩; rw [bytes_blanks, bytes_list, H3.out]; clear tk3) | (have _t := tk4; go_at_call 94; refine (Tryz.strings_Contains ⟨oneL.toArray⟩ _ m _ (by decide) (by assumption)).mono ?_; rintro e w' ⟨rfl, rfl⟩; rw [bytes_list, bytes_list]; clear tk4))
          go_ret; exact ⟨by rw [← HE.out, HV.out]; rfl, rfl⟩
        · have h4' : ((l.length : Int) == 1) = false := by simp; omega
          have HV : Hid (rsvP l = false) := hid (by unfold rsvP; rw [H1.out, H2.out, H3.out]; simp [h4]); go_enter Tryz.func60, Tryz.ntmps60
          go_wp2_with (first | (have _t := tk1; go_at_call 94; refine (Tryz.strings_Contains_one _ _ _).mono ?_; rintro e w' ⟨rfl, rfl⟩; rw [bytes_list, H1.out]; clear tk1) | (have _t := tk2; go_at_call 94; refine (Tryz.strings_Contains ⟨wordsL.toArray⟩ _ m _ (by decide) (by assumption)).mono ?_; rintro e w' ⟨rfl, rfl⟩; rw [bytes_blanks, bytes_list, H2.out]; clear tk2) | (have _t := tk3; go_at_call 94; refine (Tryz.strings_Contains ⟨signsL.toArray⟩ _ m _ (by decide) (by assumption)).mono ?_; rintro e w' ⟨rfl, rfl⟩; rw [bytes_blanks, bytes_list, H3.out]; clear tk3))
          go_ret; exact ⟨by rw [← HE.out, HV.out]; rfl, rfl⟩
      · have H3 := hid h3; clear h1 h2 h3; have HV : Hid (rsvP l = true) := hid (by unfold rsvP; rw [H1.out, H2.out, H3.out]; simp [hemp]); go_enter Tryz.func60, Tryz.ntmps60
        go_wp2_with (first | (have _t := tk1; go_at_call 94; refine (Tryz.strings_Contains_one _ _ _).mono ?_; rintro e w' ⟨rfl, rfl⟩; rw [bytes_list, H1.out]; clear tk1) | (have _t := tk2; go_at_call 94; refine (Tryz.strings_Contains ⟨wordsL.toArray⟩ _ m _ (by decide) (by assumption)).mono ?_; rintro e w' ⟨rfl, rfl⟩; rw [bytes_blanks, bytes_list, H2.out]; clear tk2) | (have _t := tk3; go_at_call 94; refine (Tryz.strings_Contains ⟨signsL.toArray⟩ _ m _ (by decide) (by assumption)).mono ?_; rintro e w' ⟨rfl, rfl⟩; rw [bytes_blanks, bytes_list, H3.out]; clear tk3))
        go_ret; exact ⟨by rw [← HE.out, HV.out]; rfl, rfl⟩
    · have H2 := hid h2; clear h1 h2; have HV : Hid (rsvP l = true) := hid (by unfold rsvP; rw [H1.out, H2.out]; simp [hemp]); go_enter Tryz.func60, Tryz.ntmps60
      go_wp2_with (first | (have _t := tk1; go_at_call 94; refine (Tryz.strings_Contains_one _ _ _).mono ?_; rintro e w' ⟨rfl, rfl⟩; rw [bytes_list, H1.out]; clear tk1) | (have _t := tk2; go_at_call 94; refine (Tryz.strings_Contains ⟨wordsL.toArray⟩ _ m _ (by decide) (by assumption)).mono ?_; rintro e w' ⟨rfl, rfl⟩; rw [bytes_blanks, bytes_list, H2.out]; clear tk2))
      go_ret; exact ⟨by rw [← HE.out, HV.out]; rfl, rfl⟩
  · have H1 := hid h1; clear h1; have HV : Hid (rsvP l = false) := hid (by unfold rsvP; rw [H1.out]; simp); go_enter Tryz.func60, Tryz.ntmps60
    go_wp2_with ((have _t := tk1; go_at_call 94; refine (Tryz.strings_Contains_one _ _ _).mono ?_; rintro e w' ⟨rfl, rfl⟩; rw [bytes_list, H1.out]; clear tk1))
    go_ret; exact ⟨by rw [← HE.out, HV.out]; rfl, rfl⟩
theorem ext_sub (s : ByteArray) (i k : Nat) : s.extract i k = ⟨(sub s i k).toArray⟩ := by unfold sub; rw [Array.toArray_toList]
theorem sub_len {s : ByteArray} {i k : Nat} (h1 : i ≤ k) (h2 : k ≤ s.size) : (sub s i k).length = k - i := by
  unfold sub; rw [← Lib.size_eq]; exact sub_size h1 h2
theorem bt_in {s : ByteArray} {i : Nat} (h : bt s i ≠ 0) : i < s.size := by
  rcases Nat.lt_or_ge i s.size with c | c
  · exact c
  · exact absurd (bt_out c) h
theorem let_in {s : ByteArray} {i : Nat} (h : isLet (bt s i) = true) : i < s.size := bt_in (by intro e; rw [e] at h; simp [isLet] at h)
theorem dig_in {s : ByteArray} {i : Nat} (h : isDig (bt s i) = true) : i < s.size := bt_in (by intro e; rw [e] at h; simp [isDig] at h)
theorem let_nam {c : Nat} (h : isLet c = true) : isNam c = true := by unfold isNam; rw [h]; rfl
theorem runE_lt {p : Nat → Bool} {s : ByteArray} {i : Nat} (h : i < s.size) (hp : p (bt s i) = true) : i < runE p s i := by
  rw [runE_step h hp]; exact runE_le p s (i + 1)
theorem x_long_no {s : ByteArray} {k : Nat} (h : s.size ≤ k) : ¬ (bt s k = 46 ∧ isLet (bt s (k + 1)) = true) := fun c => by
  have := bt_out h; omega
theorem longS_fuel (s : ByteArray) (i : Nat) : ∀ m m' k, s.size - k ≤ m → s.size - k ≤ m' → longS s m i k = longS s m' i k := by
  intro m
  induction m with
  | zero =>
    intro m' k h h'; cases m' with
    | zero => rfl
    | succ m' => unfold longS; rw [if_neg (x_long_no (by omega))]
  | succ m ih =>
    intro m' k h h'; cases m' with
    | zero => unfold longS; rw [if_neg (x_long_no (by omega))]
    | succ m' =>
      unfold longS
      by_cases hc : bt s k = 46 ∧ isLet (bt s (k + 1)) = true
      · have h2 : k + 1 < s.size := let_in hc.2; have h3 := runE_lt h2 (let_nam hc.2); rw [if_pos hc, if_pos hc, ih m' (runE isNam s (k + 1)) (by omega) (by omega)]
      · rw [if_neg hc, if_neg hc]
def long (s : ByteArray) (i k : Nat) : Ans := longS s (s.size - k) i k
theorem long_stop {s : ByteArray} {i k : Nat} (h : ¬ (bt s k = 46 ∧ isLet (bt s (k + 1)) = true)) : long s i k = shortS s i k 1 := by
  unfold long; cases s.size - k with
  | zero => rfl
  | succ m => rw [longS, if_neg h]
theorem long_step {s : ByteArray} {i k : Nat} (h : bt s k = 46 ∧ isLet (bt s (k + 1)) = true) :
    long s i k = if rsv (sub s (k + 1) (runE isNam s (k + 1))) = true then .error (32, k + 1) else long s i (runE isNam s (k + 1)) := by
  have h2 : k + 1 < s.size := let_in h.2; have h3 := runE_lt h2 (let_nam h.2); unfold long; obtain ⟨m, hm⟩ : ∃ m, s.size - k = m + 1 := ⟨s.size - k - 1, by omega⟩; rw [hm, longS, if_pos h, longS_fuel s i m (s.size - runE isNam s (k + 1)) _ (by omega) (Nat.le_refl _)]
theorem while_nam (b : Nat) (s : ByteArray) (p n : Nat) (la : Option Addr) (ln lc : Nat) (code mat : Int) (w : World) (hs : s.size ≤ 1099511627776) (hp : p + n ≤ s.size) (h : Sc w b s p la ln lc code mat) :
    Calls Tryz.prog 55 #[.pointer (some ⟨b, 0, none⟩), .int .i64 (n : Nat), .func (.func 56) #[] #[]] w fun e w' => e = .returned (.string ⟨(sub s (p + n) (runE isNam s (p + n))).toArray⟩) ∧ ∃ q, w' = w.drewN q := by
  rw [← ext_sub]; exact while_name b s p n la ln lc code mat w hs hp h
theorem while_dig (b : Nat) (s : ByteArray) (p n : Nat) (la : Option Addr) (ln lc : Nat) (code mat : Int) (w : World) (hs : s.size ≤ 1099511627776) (hp : p + n ≤ s.size) (h : Sc w b s p la ln lc code mat) :
    Calls Tryz.prog 55 #[.pointer (some ⟨b, 0, none⟩), .int .i64 (n : Nat), .func (.func 51) #[] #[]] w fun e w' => e = .returned (.string ⟨(sub s (p + n) (runE isDig s (p + n))).toArray⟩) ∧ ∃ q, w' = w.drewN q := by
  rw [← ext_sub]; exact while_digit b s p n la ln lc code mat w hs hp h
theorem while_sy (b : Nat) (s : ByteArray) (p n : Nat) (la : Option Addr) (ln lc : Nat) (code mat : Int) (w : World) (hs : s.size ≤ 1099511627776) (hp : p + n ≤ s.size) (h : Sc w b s p la ln lc code mat) :
    Calls Tryz.prog 55 #[.pointer (some ⟨b, 0, none⟩), .int .i64 (n : Nat), .func (.func 59) #[] #[]] w fun e w' => e = .returned (.string ⟨(sub s (p + n) (runE isSym s (p + n))).toArray⟩) ∧ ∃ q, w' = w.drewN q := by
  rw [← ext_sub]; exact while_sym b s p n la ln lc code mat w hs hp h
theorem St.drewN {w : World} {b : Nat} {s : ByteArray} {p : Nat} {ts : List Tok} {base : Nat} (h : St w b s p ts base) (q : Nat) : St (w.drewN q) b s p ts base := h.below (drewN_below w q)
theorem Sc.drewN {w : World} {b : Nat} {s : ByteArray} {p : Nat} {la : Option Addr} {ln lc : Nat} {code mat : Int} (h : Sc w b s p la ln lc code mat) (q : Nat) : Sc (w.drewN q) b s p la ln lc code mat := h.below (drewN_below w q)
theorem Out.before {w0 w w' : World} {b : Nat} {s : ByteArray} {ts : List Tok} {base : Nat} {e : Ending} {r : Ans} (h : Out w w' b s ts base e r) (k : Below base w0 w) (u : UsK w0 w) : Out w0 w' b s ts base e r := ⟨h.1, k.trans h.2.1, u.trans h.2.2.1, h.2.2.2⟩
theorem Out.drewN {w w' : World} {b : Nat} {s : ByteArray} {ts : List Tok} {base : Nat} {e : Ending} {r : Ans} {q : Nat} (h : Out (w.drewN q) w' b s ts base e r) : Out w w' b s ts base e r :=
  h.before ⟨rfl, rfl, rfl, Nat.le_refl _, fun _ _ => rfl⟩ (UsK.below (drewN_below w q))
theorem below_drewB {B : Nat} (w : World) (q : Nat) : Below B w (w.drewN q) := ⟨rfl, rfl, rfl, Nat.le_refl _, fun _ _ => rfl⟩
theorem tell_st (b : Nat) (s : ByteArray) (p n kind bits N : Nat) (tx : ByteArray) (sg : Bool) (am : Option Addr) (nm cm : Nat) (z : Int) (at0 : Int) (ts : List Tok) (base : Nat) (w : World)
    (hs : s.size ≤ 65536) (hn : 0 < n) (hp : p + n ≤ s.size) (h : St w b s p ts base) (hm : Mg w sg am nm cm z) :
    Calls Tryz.prog 58 #[.pointer (some ⟨b, 0, none⟩), .agg #[.int .i64 (kind : Nat), .string tx, .bool sg, .slice am nm cm, .int .u64 (bits : Nat), .int .i64 (N : Nat), .int .i64 at0], .int .i64 (n : Nat)] w fun e w' =>
      Out w w' b s ts base e (.ok (⟨kind, sub s p (p + n), z, bits, N, p⟩, p + n)) := by
  obtain ⟨la, lc, h1, h2, h3, h4, h5, h6⟩ := h; refine (tell_any b s p n la ts.length lc 0 0 kind bits N tx sg am nm cm z at0 ts base w (by omega) hp h1 h2 h3 h4 h5 hm (by omega)).mono ?_; rintro e w1 ⟨la', lc', rfl, k1, k2, k3, k4, k5, k6⟩; refine ⟨rfl, k5, k6, la', lc', ?_, ?_, k3, h4, k4, by simp; omega⟩
  · simpa using k1
  · simpa [sub] using k2
theorem mx_drew {w : World} {p : Addr} {v : Option Value} (h : w.cell? p = v) (q : Nat) : (w.drewN q).cell? p = v := by simpa using h
theorem name_any (b : Nat) (s : ByteArray) (p : Nat) (ts : List Tok) (base : Nat) (m : Int) (w : World) (hs : s.size ≤ 65536) (hl : isLet (bt s p) = true) (h : St w b s p ts base) (hbw : base ≤ w.heap.size) (hb1 : 3 < base) (hm : w.cell? ⟨3, 0, none⟩ = some (.int .i64 m)) :
    Calls Tryz.prog 50 #[.pointer (some ⟨b, 0, none⟩)] w fun e w' => Out w w' b s ts base e (nameS s p) := by
  have hp := let_in hl; have hk := runE_lt hp (let_nam hl); have hks := runE_size (p := isNam) (i := p) (s := s) (by omega); have hlen := sub_len (s := s) (i := p) (k := runE isNam s p) (by omega) hks; have h0 := h; obtain ⟨la, lc, h1, h2, h3, h4, h5, h6⟩ := h; unfold nameS
  rcases hr : rsv (sub s p (runE isNam s p)) with _ | _
  · rw [if_neg (by simp)]; obtain ⟨k, hkk⟩ : ∃ k, runE isNam s p = k := ⟨_, rfl⟩; rw [hkk] at hr hk hks hlen ⊢; rw [show longS s (s.size - k) p k = long s p k from rfl]; have HR := hid hr; have HK := hid hkk; have HL := hid hl; clear hl hr hkk; obtain ⟨R, HE⟩ : ∃ R, Hid (long s p k = R) := ⟨_, hid rfl⟩; rw [HE.out]; go_enter Tryz.func50, Tryz.ntmps50; have tk1 : True := trivial; have tk2 : True := trivial
    go_wp2_with (first | (have _t := tk1; go_at_call 55; refine (while_nam b s p 0 la ts.length lc 0 0 _ (by omega) (by omega) h1).mono ?_; rintro e w1 ⟨rfl, q1, rfl⟩; rw [show runE isNam s (p + 0) = k from HK.out]; clear tk1) | (have _t := tk2; go_at_call 60; refine (reserved_any (sub s p k) m _ (mx_drew hm _) (by omega)).mono ?_; rintro e w1 ⟨rfl, rfl⟩; rw [HR.out]; clear tk2))
    go_loopw [2, 3] (fun sv nv wr => (∃ q, wr = w.drewN q) ∧ ∃ n : Nat, nv = .int .i64 (n : Nat) ∧ 0 < n ∧ p + n ≤ s.size ∧ Hid (long s p (p + n) = R)) (fun _ nv _ => s.size - (intOf nv).toNat)
    case atStart => exact ⟨⟨_, rfl⟩, k - p, by first | rfl | rw [hlen], by omega, by omega, by rw [show p + (k - p) = k by omega]; exact HE⟩
    case round =>
      obtain ⟨⟨q, rfl⟩, n, rfl, hn, hpn, HN⟩ := hrel; have tk1 : True := trivial; have tk2 : True := trivial; have tk3 : True := trivial; have tk4 : True := trivial; obtain ⟨c, hc⟩ : ∃ c, bt s (p + n) = c := ⟨_, rfl⟩; have hc6 : c < 256 := hc ▸ bt_lt s _; have HC := hid hc
      by_cases hcp : c = 46
      · subst hcp
        rcases hd : isLet (bt s (p + (n + 1))) with _ | _
        · have HD := hid hd; have HS := hid (long_stop (s := s) (i := p) (k := p + n) (fun x => by rw [show p + n + 1 = p + (n + 1) by omega, hd] at x; exact absurd x.2 (by simp))); clear hd hc
          go_wp2_with (first | (have _t := tk1; go_at_call 47; refine (peek_any b s p (n) la ts.length lc 0 0 _ (by omega) (by omega) (by omega) (h1.drewN _)).mono ?_; rintro e w1 ⟨rfl, _, rfl⟩; rw [HC.out]; clear tk1) | (have _t := tk2; go_at_call 47; refine (peek_any b s p (n + 1) la ts.length lc 0 0 _ (by omega) (by omega) (by omega) (h1.drewN _)).mono ?_; rintro e w1 ⟨rfl, _, rfl⟩; clear tk2) | (go_at_call 49; refine (letter_any _ _ (bt_lt _ _)).mono ?_; rintro e w1 ⟨rfl, rfl⟩; rw [HD.out]) | (go_at_call 54; refine (x_short_any b s p n 1 ts base _ hs hn hpn (h0.drewN _) (by simpa using hbw)).mono ?_; rintro e w1 hO; obtain rfl := hO.1; have HO := hid (Out.drewN hO); clear hO))
          go_end0; rw [← HN.out, HS.out]; exact HO.out
        · have HD := hid hd; have hlt := let_in hd; have hcond : bt s (p + n) = 46 ∧ isLet (bt s (p + n + 1)) = true := ⟨HC.out, by rw [show p + n + 1 = p + (n + 1) by omega]; exact hd⟩; have HS := hid (long_step (s := s) (i := p) (k := p + n) hcond); obtain ⟨k2, hk2⟩ : ∃ k2, runE isNam s (p + n + 1) = k2 := ⟨_, rfl⟩; have hk3 : p + n + 1 < k2 := hk2 ▸ runE_lt (by omega) (let_nam hcond.2); have hk4 : k2 ≤ s.size := hk2 ▸ runE_size (by omega); have hlen2 := sub_len (s := s) (i := p + n + 1) (k := k2) (by omega) hk4; rw [hk2] at HS; have HK2 := hid hk2
          rcases hr2 : rsv (sub s (p + n + 1) k2) with _ | _
          · have HR2 := hid hr2; clear hd hc hcond hk2 hr2 hlt
            go_wp2_with (first | (have _t := tk1; go_at_call 47; refine (peek_any b s p (n) la ts.length lc 0 0 _ (by omega) (by omega) (by omega) (h1.drewN _)).mono ?_; rintro e w1 ⟨rfl, _, rfl⟩; rw [HC.out]; clear tk1) | (have _t := tk2; go_at_call 47; refine (peek_any b s p (n + 1) la ts.length lc 0 0 _ (by omega) (by omega) (by omega) (h1.drewN _)).mono ?_; rintro e w1 ⟨rfl, _, rfl⟩; clear tk2) | (go_at_call 49; refine (letter_any _ _ (bt_lt _ _)).mono ?_; rintro e w1 ⟨rfl, rfl⟩; rw [HD.out]) | (go_at_call 55; refine (while_nam b s p (n + 1) la ts.length lc 0 0 _ (by omega) (by omega) (h1.drewN _)).mono ?_; rintro e w1 ⟨rfl, _, rfl⟩; rw [show p + (n + 1) = p + n + 1 by omega, HK2.out]) | (go_at_call 60; refine (reserved_any (sub s (p + n + 1) k2) m _ (mx_drew hm _) (by omega)).mono ?_; rintro e w1 ⟨rfl, rfl⟩; rw [HR2.out]))
            refine ⟨⟨⟨_, rfl⟩, n + (1 + (k2 - (p + n + 1))), ?_, by omega, by omega, ?_⟩, ?_⟩
            · exact congrArg (Value.int .i64) (by omega)
            · exact hid (by rw [show p + (n + (1 + (k2 - (p + n + 1)))) = k2 by omega, ← HN.out, HS.out, HR2.out]; rfl)
            · simp [intOf]; omega
          · have HR2 := hid hr2; clear hd hc hcond hk2 hr2 hlt; have cc1 := h1.c1
            go_wp2_with (first | (have _t := tk1; go_at_call 47; refine (peek_any b s p (n) la ts.length lc 0 0 _ (by omega) (by omega) (by omega) (h1.drewN _)).mono ?_; rintro e w1 ⟨rfl, _, rfl⟩; rw [HC.out]; clear tk1) | (have _t := tk2; go_at_call 47; refine (peek_any b s p (n + 1) la ts.length lc 0 0 _ (by omega) (by omega) (by omega) (h1.drewN _)).mono ?_; rintro e w1 ⟨rfl, _, rfl⟩; clear tk2) | (go_at_call 49; refine (letter_any _ _ (bt_lt _ _)).mono ?_; rintro e w1 ⟨rfl, rfl⟩; rw [HD.out]) | (go_at_call 55; refine (while_nam b s p (n + 1) la ts.length lc 0 0 _ (by omega) (by omega) (h1.drewN _)).mono ?_; rintro e w1 ⟨rfl, _, rfl⟩; rw [show p + (n + 1) = p + n + 1 by omega, HK2.out]) | (go_at_call 60; refine (reserved_any (sub s (p + n + 1) k2) m _ (mx_drew hm _) (by omega)).mono ?_; rintro e w1 ⟨rfl, rfl⟩; rw [HR2.out]) | (go_at_call 48; refine (fail_any b s p la ts.length lc 0 0 _ _ _ base h4 (h1.drewN _)).mono ?_; rintro e w1 ⟨rfl, f1, f2, f3⟩))
            refine bodyPost_ret (results_none rfl _ _ _) rfl ?_; rw [← HN.out, HS.out, HR2.out, if_pos rfl]; exact ⟨rfl, (below_drewB w _).trans f2, (UsK.below (drewN_below w _)).trans f3, p, la, _, lc, by rw [show ((p + n + 1 : Nat) : Int) = (p : Int) + (n : Int) + 1 by omega]; exact f1⟩
      · have hcb : ((c : Int) == 46) = false := by simp; omega
        have hci : ¬ (c : Int) = 46 := by omega
        have HS := hid (long_stop (s := s) (i := p) (k := p + n) (fun x => hcp (hc ▸ x.1))); clear hc
        go_wp2_with (first | (have _t := tk1; go_at_call 47; refine (peek_any b s p (n) la ts.length lc 0 0 _ (by omega) (by omega) (by omega) (h1.drewN _)).mono ?_; rintro e w1 ⟨rfl, _, rfl⟩; rw [HC.out]; clear tk1) | (go_at_call 54; refine (x_short_any b s p n 1 ts base _ hs hn hpn (h0.drewN _) (by simpa using hbw)).mono ?_; rintro e w1 hO; obtain rfl := hO.1; have HO := hid (Out.drewN hO); clear hO))
        go_end0; rw [← HN.out, HS.out]; exact HO.out
  · rw [if_pos rfl]; obtain ⟨k, hkk⟩ : ∃ k, runE isNam s p = k := ⟨_, rfl⟩; rw [hkk] at hr hk hks hlen ⊢; have HR := hid hr; have HK := hid hkk; clear hl hr hkk; go_enter Tryz.func50, Tryz.ntmps50; have tk1 : True := trivial; have tk2 : True := trivial
    go_wp2_with (first | (have _t := tk1; go_at_call 55; refine (while_nam b s p 0 la ts.length lc 0 0 _ (by omega) (by omega) h1).mono ?_; rintro e w1 ⟨rfl, q1, rfl⟩; rw [show runE isNam s (p + 0) = k from HK.out]; clear tk1) | (have _t := tk2; go_at_call 60; refine (reserved_any (sub s p k) m _ (mx_drew hm _) (by omega)).mono ?_; rintro e w1 ⟨rfl, rfl⟩; rw [HR.out]; clear tk2) | (go_at_call 58; refine (tell_st b s p (k - p) 8 0 0 _ _ _ _ _ 0 _ ts base _ hs (by omega) (by omega) (h0.drewN _) (Mg.zero _)).mono ?_; rintro e w1 hO; obtain rfl := hO.1; have HO := hid (Out.drewN hO); clear hO))
    refine bodyPost_ret (results_none rfl _ _ _) rfl ?_; have h := HO.out; rw [show p + (k - p) = k by omega] at h; exact h
end Go.Proofs.YtkblonfmjlopaaaGreatDoor
