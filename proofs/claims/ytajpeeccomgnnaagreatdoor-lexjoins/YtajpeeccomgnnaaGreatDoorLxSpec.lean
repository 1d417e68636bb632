/-
  What the lexer answers: pure.
-/
import Derived.Test.YtajpeeccomgnnaaGreatDoorLxTok
import Derived.Test.YtajpeeccomgnnaaGreatDoorLxRes
namespace Go.Proofs.YtajpeeccomgnnaaGreatDoor
set_option linter.all false
open Go Go.RowKit

/-- A part of a text. -/
def sub (s : ByteArray) (i k : Nat) : List UInt8 := (s.extract i k).data.toList
/-- A word and where it ends, or an error's number and place. -/
abbrev Ans := Except (Nat × Nat) (Tok × Nat)
/-- A word, unless it is too long. -/
def shortS (s : ByteArray) (i k kind : Nat) : Ans := if 64 < k - i then .error (32, i) else .ok (⟨kind, sub s i k, 0, 0, 0, i⟩, k)
/-- A name that may go on behind a point. -/
def longS (s : ByteArray) : Nat → Nat → Nat → Ans
  | 0, i, k => shortS s i k 1
  | m + 1, i, k =>
    if bt s k = 46 ∧ isLet (bt s (k + 1)) = true then
      if rsv (sub s (k + 1) (runE isNam s (k + 1))) = true then .error (32, k + 1) else longS s m i (runE isNam s (k + 1))
    else shortS s i k 1
def nameS (s : ByteArray) (i : Nat) : Ans :=
  if rsv (sub s i (runE isNam s i)) = true then .ok (⟨8, sub s i (runE isNam s i), 0, 0, 0, i⟩, runE isNam s i)
  else longS s (s.size - runE isNam s i) i (runE isNam s i)
/-- Where a number's digits end. -/
def numW (s : ByteArray) (i : Nat) : Nat := runE isDig s (if bt s i = 126 then i + 1 else i)
def numF (s : ByteArray) (w : Nat) : Nat := if bt s w = 46 ∧ isDig (bt s (w + 1)) = true then runE isDig s (w + 1) else w
def numX (s : ByteArray) (k : Nat) : Nat := if bt s (k + 1) = 126 then k + 2 else k + 1
def numE (s : ByteArray) (k : Nat) : Nat := if bt s k = 101 then (if isDig (bt s (numX s k)) = true then runE isDig s (numX s k) else k) else k
/-- An integer's value. -/
def numV (s : ByteArray) (i k : Nat) : Int := if bt s i = 126 then -((rdr 0 (sub s (i + 1) k) : Nat) : Int) else ((rdr 0 (sub s i k) : Nat) : Int)
/-- A real's text as the library reads it. -/
def realT (l : List UInt8) : List UInt8 := l.map fun c => if c = 126 then 45 else c
def numberS (F : List UInt8 → Nat) (s : ByteArray) (i : Nat) : Ans :=
  let k := numE s (numF s (numW s i))
  if k = numW s i then (if 2000 < k - i then .error (32, i) else .ok (⟨4, sub s i k, numV s i k, 0, 0, i⟩, k))
  else if 100 < k - i then .error (32, i) else .ok (⟨5, sub s i k, 0, F (realT (sub s i k)), 0, i⟩, k)
/-- What stands behind a backslash. -/
def escS (s : ByteArray) (k : Nat) : Nat × Nat :=
  if bt s k = 110 then (10, 1) else if bt s k = 116 then (9, 1) else if bt s k = 92 ∨ bt s k = 34 then (bt s k, 1)
  else if k + 3 ≤ runE isDig s k then
    (let n := (bt s k - 48) * 100 + (bt s (k + 1) - 48) * 10 + (bt s (k + 2) - 48)
     if n < 256 then (n, 3) else (0, 0))
  else (0, 0)
/-- What stands between quotes; the place is behind the first. -/
def quoS (s : ByteArray) : Nat → Nat → List UInt8 → Except (Nat × Nat) (List UInt8 × Nat)
  | 0, _, _ => .error (31, s.size)
  | m + 1, k, out =>
    if s.size ≤ k then .error (31, s.size)
    else if bt s k = 34 then .ok (out, k + 1)
    else if bt s k < 32 ∨ 126 < bt s k then .error (32, k)
    else if bt s k ≠ 92 then quoS s m (k + 1) (out ++ [UInt8.ofNat (bt s k)])
    else if (escS s (k + 1)).2 = 0 then .error (32, k)
    else quoS s m (k + 1 + (escS s (k + 1)).2) (out ++ [UInt8.ofNat (escS s (k + 1)).1])
def quotedS (s : ByteArray) (i : Nat) : Except (Nat × Nat) (List UInt8 × Nat) := quoS s (s.size + 1 - (i + 1)) (i + 1) []
def wordS (F : List UInt8 → Nat) (s : ByteArray) (i : Nat) : Ans :=
  let c := bt s i
  if isLet c = true then nameS s i
  else if isDig c = true ∨ c = 126 ∧ isDig (bt s (i + 1)) = true then numberS F s i
  else if c = 34 then (match quotedS s i with | .error e => .error e | .ok (x, k) => .ok (⟨7, x, 0, 0, 0, i⟩, k))
  else if c = 35 ∧ bt s (i + 1) = 34 then
    (match quotedS s (i + 1) with
     | .error e => .error e
     | .ok (x, k) => if x.length ≠ 1 then .error (32, i) else .ok (⟨6, x, 0, 0, (x[0]?.getD 0).toNat, i⟩, k))
  else if c = 39 then
    (let k := if bt s (i + 1) = 39 then i + 2 else i + 1
     if isLet (bt s k) = true then shortS s i (runE isNam s k) 3 else .error (30, i))
  else if isOne c = true then .ok (⟨8, sub s i (i + 1), 0, 0, 0, i⟩, i + 1)
  else if isSym c = true then shortS s i (runE isSym s i) (if rsv (sub s i (runE isSym s i)) = true then 8 else 2)
  else .error (30, i)
/-- The first place that is neither blank nor remark; none: the text ends within a remark. -/
def blankS (s : ByteArray) : Nat → Nat → Nat → Option Nat
  | 0, _, i => some i
  | m + 1, deep, i =>
    if bt s i = 40 ∧ bt s (i + 1) = 42 then blankS s m (deep + 1) (i + 2)
    else if 0 < deep ∧ bt s i = 42 ∧ bt s (i + 1) = 41 then blankS s m (deep - 1) (i + 2)
    else if 0 < deep ∧ s.size ≤ i then none
    else if 0 < deep ∨ i < s.size ∧ (bt s i = 32 ∨ bt s i = 9 ∨ bt s i = 10 ∨ bt s i = 13) then blankS s m deep (i + 1)
    else some i
def blank (s : ByteArray) (i : Nat) : Option Nat := blankS s (s.size + 2 - i) 0 i
/-- All words from a place on, behind those that there are. -/
def toksS (F : List UInt8 → Nat) (s : ByteArray) : Nat → Nat → List Tok → Except (Nat × Nat) (List Tok)
  | 0, _, ts => .ok ts
  | m + 1, i, ts =>
    match blank s i with
    | none => .error (31, s.size)
    | some k => if s.size ≤ k then .ok ts else
      match wordS F s k with
      | .error e => .error e
      | .ok (t, n) => toksS F s m n (ts ++ [t])
/-- The lexer. -/
def lexS (F : List UInt8 → Nat) (s : ByteArray) : Except (Nat × Nat) (List Tok) :=
  if 65536 < s.size then .error (2, 0) else toksS F s (s.size + 1) 0 []

/-! ### The scanner's state -/
/-- A scanner between two words. -/
def St (w : World) (b : Nat) (s : ByteArray) (p : Nat) (ts : List Tok) (base : Nat) : Prop :=
  ∃ la lc, Sc w b s p la ts.length lc 0 0 ∧ Toks w la ts.length lc ts ∧ New w base la (lc * 7) ∧ base ≤ b ∧ (∀ x off, la = some ⟨x, off, none⟩ → b < x ∧ x < w.heap.size) ∧ ts.length ≤ p
/-- What a scanner holds behind a word. -/
def Out (w w' : World) (b : Nat) (s : ByteArray) (ts : List Tok) (base : Nat) (e : Ending) (r : Ans) : Prop :=
  e = .returned (.tuple #[]) ∧ Below base w w' ∧ UsK w w' ∧
  match r with
  | .ok (t, q) => St w' b s q (ts ++ [t]) base
  | .error (c, q) => ∃ p la ln lc, Sc w' b s p la ln lc (c : Nat) (q : Nat)

set_option maxHeartbeats 1000000 in
theorem fail_any (b : Nat) (s : ByteArray) (p : Nat) (la : Option Addr) (ln lc : Nat) (code mat : Int) (c q : Int) (w : World) (base : Nat) (hb : base ≤ b) (h : Sc w b s p la ln lc code mat) :
    Calls Tryz.prog 24 #[.pointer (some ⟨b, 0, none⟩), .int .i64 c, .int .i64 q] w fun e w' => e = .returned (.tuple #[]) ∧ Sc w' b s p la ln lc c q ∧ Below base w w' ∧ UsK w w' := by
  obtain ⟨blt, c0, c1, c2, c3, c4, fr⟩ := h
  have fr3 := fr 3
  have fr4 := fr 4
  go_enter Tryz.func24, Tryz.ntmps24
  go_wp2
  go_end0
  have u1 : UsK w (w.setCell ⟨b, 3, none⟩ (.int .i64 c)) := (UsK.refl w).set c3 (fun _ h => by cases h) _
  have c4' : (w.setCell ⟨b, 3, none⟩ (.int .i64 c)).cell? ⟨b, 4, none⟩ = some (.int .i64 mat) := by rw [World.cell?_setCell_other _ _ _ _ (by intro h; simp at h)]; exact c4
  refine ⟨rfl, ⟨by simpa using blt, ?_, ?_, ?_, ?_, ?_, fun o => by simpa using fr o⟩, ((Below.refl base w).setCell hb _).setCell hb _, u1.set c4' (fun _ h => by cases h) _⟩
  · rw [World.cell?_setCell_other _ _ _ _ (by intro h; simp at h), World.cell?_setCell_other _ _ _ _ (by intro h; simp at h)]; exact c0
  · rw [World.cell?_setCell_other _ _ _ _ (by intro h; simp at h), World.cell?_setCell_other _ _ _ _ (by intro h; simp at h)]; exact c1
  · rw [World.cell?_setCell_other _ _ _ _ (by intro h; simp at h), World.cell?_setCell_other _ _ _ _ (by intro h; simp at h)]; exact c2
  · rw [World.cell?_setCell_other _ _ _ _ (by intro h; simp at h), World.cell?_setCell_same _ _ _ c3]
  · rw [World.cell?_setCell_same _ _ _ c4']

theorem Sc.below {w w' : World} {b : Nat} {s : ByteArray} {p : Nat} {la : Option Addr} {ln lc : Nat} {code mat : Int} (h : Sc w b s p la ln lc code mat) (k : Below w.heap.size w w') : Sc w' b s p la ln lc code mat :=
  ⟨Nat.lt_of_lt_of_le h.lt k.size, (k.cell (p := ⟨b, 0, none⟩) h.lt).trans h.c0, (k.cell (p := ⟨b, 1, none⟩) h.lt).trans h.c1, (k.cell (p := ⟨b, 2, none⟩) h.lt).trans h.c2, (k.cell (p := ⟨b, 3, none⟩) h.lt).trans h.c3, (k.cell (p := ⟨b, 4, none⟩) h.lt).trans h.c4, fun o => (k.frozen (p := ⟨b, o, none⟩) h.lt).trans (h.fr o)⟩
theorem Toks.below {w w' : World} {a : Option Addr} {n c : Nat} {ts : List Tok} (h : Toks w a n c ts) (k : Below w.heap.size w w') : Toks w' a n c ts := by
  obtain ⟨f, A, e, z, t⟩ := h
  exact ⟨f, ⟨A.le, A.mx, fun j hj => by
    obtain ⟨x, off, ea, hc⟩ := A.cell j hj
    exact ⟨x, off, ea, (k.cell (p := ⟨x, off + j, none⟩) (World.block_lt_of_cell? w _ hc)).trans hc⟩⟩, e, z, fun i u hu => (t i u hu).keep (UsK.below k)⟩
theorem St.below {w w' : World} {b : Nat} {s : ByteArray} {p : Nat} {ts : List Tok} {base : Nat} (h : St w b s p ts base) (k : Below w.heap.size w w') : St w' b s p ts base := by
  obtain ⟨la, lc, h1, h2, h3, h4, h5, h6⟩ := h
  exact ⟨la, lc, h1.below k, h2.below k, fun i hi => by
    obtain ⟨x, off, e, g1, g2⟩ := h3 i hi
    exact ⟨x, off, e, g1, (k.frozen (p := ⟨x, off + i, none⟩) (h5 x off e).2).trans g2⟩, h4, fun x off e => ⟨(h5 x off e).1, Nat.lt_of_lt_of_le (h5 x off e).2 k.size⟩, h6⟩
theorem drewN_below (w : World) (q : Nat) : Below w.heap.size w (w.drewN q) := ⟨rfl, rfl, rfl, Nat.le_refl _, fun _ _ => rfl⟩
theorem Mg.zero (w : World) : Mg w false none 0 0 0 := ⟨fun _ => 0, Us.nil _ _, by omega, .inl rfl, fun _ => rfl, rfl⟩
theorem sub_size {s : ByteArray} {i k : Nat} (h1 : i ≤ k) (h2 : k ≤ s.size) : (s.extract i k).size = k - i := by simp; omega
theorem runN_le (p : Nat → Bool) (s : ByteArray) : ∀ m i, i ≤ runN p s m i
  | 0, i => Nat.le_refl _
  | m + 1, i => by
    unfold runN
    split
    · exact Nat.le_trans (Nat.le_succ i) (runN_le p s m (i + 1))
    · exact Nat.le_refl _
theorem runN_size (p : Nat → Bool) (s : ByteArray) : ∀ m i, i ≤ s.size → runN p s m i ≤ s.size
  | 0, i, h => h
  | m + 1, i, h => by
    unfold runN
    split
    · rename_i hc; exact runN_size p s m (i + 1) hc.1
    · exact h
theorem runE_le (p : Nat → Bool) (s : ByteArray) (i : Nat) : i ≤ runE p s i := runN_le p s _ i
theorem runE_size {p : Nat → Bool} {s : ByteArray} {i : Nat} (h : i ≤ s.size) : runE p s i ≤ s.size := runN_size p s _ i h

set_option maxHeartbeats 2000000 in
theorem short_any (b : Nat) (s : ByteArray) (p n kind : Nat) (ts : List Tok) (base : Nat) (w : World) (hs : s.size ≤ 65536) (hn : 0 < n) (hk : p + n ≤ s.size) (h : St w b s p ts base) (hbw : base ≤ w.heap.size) :
    Calls Tryz.prog 30 #[.pointer (some ⟨b, 0, none⟩), .agg #[.int .i64 (kind : Nat), .string ⟨#[]⟩, .bool false, .slice none 0 0, .int .u64 0, .int .i64 0, .int .i64 0], .int .i64 (n : Nat)] w fun e w' => Out w w' b s ts base e (shortS s p (p + n) kind) := by
  obtain ⟨la, lc, h1, h2, h3, h4, h5, h6⟩ := h
  have hb1 := below_alloc w (.cells #[.int .i64 (kind : Nat), .string ⟨#[]⟩, .bool false, .slice none 0 0, .int .u64 0, .int .i64 0, .int .i64 0] 38)
  have h1' := h1.below hb1
  have h2' := h2.below hb1
  have h3' : New (w.alloc (.cells #[.int .i64 (kind : Nat), .string ⟨#[]⟩, .bool false, .slice none 0 0, .int .u64 0, .int .i64 0, .int .i64 0] 38)) base la (lc * 7) := fun i hi => by
    obtain ⟨x, off, e, g1, g2⟩ := h3 i hi
    exact ⟨x, off, e, g1, (hb1.frozen (p := ⟨x, off + i, none⟩) (h5 x off e).2).trans g2⟩
  have h5' : ∀ x off, la = some ⟨x, off, none⟩ → b < x ∧ x < (w.alloc (.cells #[.int .i64 (kind : Nat), .string ⟨#[]⟩, .bool false, .slice none 0 0, .int .u64 0, .int .i64 0, .int .i64 0] 38)).heap.size := fun x off e => ⟨(h5 x off e).1, Nat.lt_of_lt_of_le (h5 x off e).2 hb1.size⟩
  have hbb := hb1.mono hbw
  have uk := UsK.below hb1
  unfold shortS
  have c1 := h1'.c1
  by_cases hl : 64 < n
  · rw [if_pos (by omega)]
    have hl' : (64 : Int) < (n : Int) := by omega
    go_enter Tryz.func30, Tryz.ntmps30
    go_wp2_with (go_at_call 24; refine (fail_any _ _ _ _ _ _ _ _ _ _ _ base h4 h1').mono ?_; rintro e w1 ⟨rfl, k1, k2, k3⟩)
    refine bodyPost_ret (results_none rfl _ _ _) rfl ?_
    exact ⟨rfl, hbb.trans k2, uk.trans k3, _, _, _, _, k1⟩
  · rw [if_neg (by omega)]
    have hl' : ¬ (64 : Int) < (n : Int) := by omega
    go_enter Tryz.func30, Tryz.ntmps30
    go_wp2_with (go_at_call 34; refine (tell_any b s p n la ts.length lc 0 0 kind 0 0 _ _ _ _ _ 0 _ ts base _ (by omega) hk h1' h2' h3' h4 h5' (Mg.zero _) (by omega)).mono ?_; rintro e w1 ⟨la', lc', rfl, k1, k2, k3, k4, k5, k6⟩)
    go_end0
    refine ⟨rfl, hbb.trans k5, uk.trans k6, la', lc', ?_, ?_, k3, h4, k4, by simp; omega⟩
    · simpa using k1
    · simpa [sub] using k2
end Go.Proofs.YtajpeeccomgnnaaGreatDoor
