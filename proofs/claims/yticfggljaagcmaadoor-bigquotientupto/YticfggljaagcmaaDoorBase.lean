/-
  Words for arrays of limbs: what a slice of uint32 holds, what is new memory, what a magnitude is worth. Plain Lean over the model's worlds; no program in sight. No condition.
-/
import Derived.WalkKit
import Derived.WalkSpells
import Derived.WalkLawsBesides
import Derived.Deep.LoopGhost
namespace Go.Proofs.YticfggljaagcmaaDoor
set_option linter.all false
open Go.RowKit

/-- A fact kept from the walk's rewriting. -/
theorem hid {p : Prop} (h : p) : Hid p := h

/-- 2 to the power 32 n. -/
def pw : Nat → Nat
  | 0 => 1
  | n + 1 => 4294967296 * pw n
/-- What n limbs are worth. -/
def val (f : Nat → Nat) : Nat → Nat
  | 0 => 0
  | n + 1 => val f n + f n * pw n
/-- The limbs that are left when the noughts at the end are taken off. -/
def nrm (f : Nat → Nat) : Nat → Nat
  | 0 => 0
  | n + 1 => if f n = 0 then nrm f n else n + 1
/-- f, but x at k. -/
def upd (f : Nat → Nat) (k x : Nat) : Nat → Nat := fun i => if i = k then x else f i
/-- Every limb is one. -/
def Lm (f : Nat → Nat) (n : Nat) : Prop := ∀ i, i < n → f i ≤ 4294967295

theorem pw_pos (n : Nat) : 0 < pw n := by
  induction n with
  | zero => simp [pw]
  | succ n ih => simp only [pw]; omega
theorem pw_succ (n : Nat) : pw (n + 1) = 4294967296 * pw n := rfl
theorem pw_add (n m : Nat) : pw (n + m) = pw n * pw m := by
  induction m with
  | zero => simp [pw]
  | succ m ih => rw [← Nat.add_assoc, pw_succ, pw_succ, ih, Nat.mul_left_comm]
theorem val_succ (f : Nat → Nat) (n : Nat) : val f (n + 1) = val f n + f n * pw n := rfl
theorem val_congr {f g : Nat → Nat} {n : Nat} (h : ∀ i, i < n → f i = g i) : val f n = val g n := by
  induction n with
  | zero => rfl
  | succ n ih => rw [val_succ, val_succ, ih (fun i hi => h i (by omega)), h n (by omega)]
theorem val_lt {f : Nat → Nat} {n : Nat} (h : Lm f n) : val f n < pw n := by
  induction n with
  | zero => simp [val, pw]
  | succ n ih =>
    have h1 := ih (fun i hi => h i (by omega))
    have h2 : f n * pw n ≤ 4294967295 * pw n := Nat.mul_le_mul_right _ (h n (by omega))
    rw [val_succ, pw_succ]; omega
theorem Lm.mono {f : Nat → Nat} {n m : Nat} (h : Lm f n) (hm : m ≤ n) : Lm f m := fun i hi => h i (by omega)
theorem upd_same (f : Nat → Nat) (k x : Nat) : upd f k x k = x := by simp [upd]
theorem upd_other (f : Nat → Nat) (k x i : Nat) (h : i ≠ k) : upd f k x i = f i := by simp [upd, h]
theorem Lm.upd {f : Nat → Nat} {n k x : Nat} (h : Lm f n) (hx : x ≤ 4294967295) : Lm (upd f k x) n := by
  intro i hi
  by_cases e : i = k
  · subst e; rw [upd_same]; exact hx
  · rw [upd_other _ _ _ _ e]; exact h i hi
theorem val_upd_ge (f : Nat → Nat) (k x n : Nat) (h : n ≤ k) : val (upd f k x) n = val f n :=
  val_congr fun i hi => upd_other _ _ _ _ (by omega)
theorem val_upd_at (f : Nat → Nat) (k x : Nat) : val (upd f k x) (k + 1) = val f k + x * pw k := by
  rw [val_succ, val_upd_ge _ _ _ _ (Nat.le_refl _), upd_same]
/-- A limb is turned: so much more or less. -/
theorem val_upd (f : Nat → Nat) (k x n : Nat) (h : k < n) : val (upd f k x) n + f k * pw k = val f n + x * pw k := by
  induction n with
  | zero => omega
  | succ n ih =>
    rw [val_succ, val_succ]
    by_cases e : k = n
    · subst e; rw [val_upd_ge _ _ _ _ (Nat.le_refl _), upd_same]; omega
    · rw [upd_other _ _ _ _ (by omega)]; have := ih (by omega); omega

theorem nrm_le (f : Nat → Nat) (n : Nat) : nrm f n ≤ n := by
  induction n with
  | zero => exact Nat.le_refl _
  | succ n ih => unfold nrm; split <;> omega
theorem val_nrm (f : Nat → Nat) (n : Nat) : val f (nrm f n) = val f n := by
  induction n with
  | zero => rfl
  | succ n ih =>
    unfold nrm
    split
    · rename_i h; rw [ih, val_succ, h]; omega
    · rfl
theorem nrm_top (f : Nat → Nat) (n : Nat) : nrm f n = 0 ∨ f (nrm f n - 1) ≠ 0 := by
  induction n with
  | zero => exact .inl rfl
  | succ n ih =>
    unfold nrm
    split
    · exact ih
    · rename_i h; right; simpa using h
/-- No nought at the end. -/
def Nm (f : Nat → Nat) (n : Nat) : Prop := n = 0 ∨ f (n - 1) ≠ 0
theorem nrm_nm (f : Nat → Nat) (n : Nat) : Nm f (nrm f n) := nrm_top f n
theorem Nm.congr {f g : Nat → Nat} {n : Nat} (h : Nm f n) (e : ∀ i, i < n → g i = f i) : Nm g n := by
  rcases h with h | h
  · exact .inl h
  · cases n with
    | zero => exact .inl rfl
    | succ n => right; rw [e _ (by simp)]; exact h
theorem Nm.nrm {f : Nat → Nat} {n : Nat} (h : Nm f n) : nrm f n = n := by
  cases n with
  | zero => rfl
  | succ n =>
    rcases h with h | h
    · omega
    · unfold YticfggljaagcmaaDoor.nrm; rw [if_neg (by simpa using h)]
theorem Nm.ge {f : Nat → Nat} {n : Nat} (h : Nm f (n + 1)) : pw n ≤ val f (n + 1) := by
  rcases h with h | h
  · omega
  · simp at h
    rw [val_succ]
    have : 1 * pw n ≤ f n * pw n := Nat.mul_le_mul_right _ (by omega)
    omega
theorem Nm.zero {f : Nat → Nat} {n : Nat} (h : Nm f n) : val f n = 0 ↔ n = 0 := by
  constructor
  · intro h0
    cases n with
    | zero => rfl
    | succ n => have := h.ge; have := pw_pos n; omega
  · rintro rfl; rfl
theorem pw_mono {n m : Nat} (h : n ≤ m) : pw n ≤ pw m := by
  induction m with
  | zero => have : n = 0 := by omega
            subst this; exact Nat.le_refl _
  | succ m ih =>
    by_cases e : n = m + 1
    · subst e; exact Nat.le_refl _
    · have := ih (by omega); rw [pw_succ]; omega
/-- A number without noughts at its end that is small has few limbs. -/
theorem Nm.few {f : Nat → Nat} {n m : Nat} (h : Nm f n) (hv : val f n < pw m) : n ≤ m := by
  cases n with
  | zero => omega
  | succ n =>
    have h1 := h.ge
    by_cases hc : n + 1 ≤ m
    · exact hc
    · have := pw_mono (show m ≤ n by omega); omega
/-- A number is told by its limbs. -/
theorem val_inj {f g : Nat → Nat} {n : Nat} (hf : Lm f n) (hg : Lm g n) (h : val f n = val g n) : ∀ i, i < n → f i = g i := by
  induction n with
  | zero => intro i hi; omega
  | succ n ih =>
    have h1 := val_lt (hf.mono (Nat.le_succ n))
    have h2 := val_lt (hg.mono (Nat.le_succ n))
    rw [val_succ, val_succ] at h
    have e : f n = g n := by
      rcases Nat.lt_trichotomy (f n) (g n) with c | c | c
      · have : (f n + 1) * pw n ≤ g n * pw n := Nat.mul_le_mul_right _ c
        rw [Nat.succ_mul] at this; omega
      · exact c
      · have : (g n + 1) * pw n ≤ f n * pw n := Nat.mul_le_mul_right _ c
        rw [Nat.succ_mul] at this; omega
    have h3 : val f n = val g n := by rw [e] at h; omega
    intro i hi
    by_cases ei : i = n
    · subst ei; exact e
    · exact ih (hf.mono (Nat.le_succ n)) (hg.mono (Nat.le_succ n)) h3 i (by omega)

/-! ### In memory -/
/-- A slice's cells, up to its capacity. -/
structure Us (w : World) (a : Option Addr) (n c : Nat) (h : Nat → Nat) : Prop where
  le : n ≤ c
  mx : c ≤ maxLen
  lm : Lm h c
  cell : ∀ i, i < c → ∃ b off, a = some ⟨b, off, none⟩ ∧ w.cell? ⟨b, off + i, none⟩ = some (.int .u32 (h i : Nat))
/-- It may be written, and lies from block 'base' on. -/
def New (w : World) (base : Nat) (a : Option Addr) (c : Nat) : Prop :=
  ∀ i, i < c → ∃ b off, a = some ⟨b, off, none⟩ ∧ base ≤ b ∧ w.frozen? ⟨b, off + i, none⟩ = false

theorem Us.cut {w : World} {a : Option Addr} {n c : Nat} {h : Nat → Nat} (k : Us w a n c h) {m d : Nat} (h1 : m ≤ d) (h2 : d ≤ c) : Us w a m d h :=
  ⟨h1, Nat.le_trans h2 k.mx, k.lm.mono h2, fun i hi => k.cell i (by omega)⟩
theorem New.cut {w : World} {base : Nat} {a : Option Addr} {c d : Nat} (k : New w base a c) (h : d ≤ c) : New w base a d :=
  fun i hi => k i (by omega)
theorem New.mono {w : World} {base base' : Nat} {a : Option Addr} {c : Nat} (k : New w base a c) (h : base' ≤ base) : New w base' a c :=
  fun i hi => let ⟨b, off, e, h1, h2⟩ := k i hi; ⟨b, off, e, by omega, h2⟩
theorem Us.below {w w' : World} {a : Option Addr} {n c : Nat} {h : Nat → Nat} (k : Us w a n c h) {B : Nat} (hb : Below B w w') (hB : w.heap.size ≤ B) : Us w' a n c h :=
  ⟨k.le, k.mx, k.lm, fun i hi => by
    obtain ⟨b, off, e, hc⟩ := k.cell i hi
    have hlt := World.block_lt_of_cell? w _ hc
    exact ⟨b, off, e, by rw [hb.cell (p := ⟨b, off + i, none⟩) (by simp at hlt ⊢; omega)]; exact hc⟩⟩
theorem Us.lt {w : World} {a : Option Addr} {n c : Nat} {h : Nat → Nat} (k : Us w a n c h) {b off : Nat} (e : a = some ⟨b, off, none⟩) (hc : 0 < c) : b < w.heap.size := by
  obtain ⟨b', off', e', h'⟩ := k.cell 0 hc
  rw [e] at e'
  simp only [Option.some.injEq, Addr.mk.injEq, and_true] at e'
  obtain ⟨rfl, rfl⟩ := e'
  exact World.block_lt_of_cell? w _ h'
/-- What is new stays so, and stays writable. -/
theorem New.below {w w' : World} {base B : Nat} {a : Option Addr} {n c : Nat} {h : Nat → Nat} (k : New w base a c) (u : Us w a n c h) (hb : Below B w w') (hB : w.heap.size ≤ B) : New w' base a c :=
  fun i hi => by
    obtain ⟨b, off, e, h1, h2⟩ := k i hi
    have hlt := u.lt e (by omega)
    exact ⟨b, off, e, h1, by rw [hb.frozen (p := ⟨b, off + i, none⟩) (by simp; omega)]; exact h2⟩
theorem Us.nil (w : World) (h : Nat → Nat) : Us w none 0 0 h := ⟨Nat.le_refl _, Nat.zero_le _, fun _ hi => by omega, fun _ hi => by omega⟩
theorem New.nil (w : World) (base : Nat) (a : Option Addr) : New w base a 0 := fun _ hi => by omega
/-- The cells of a block of one's own, from a place on. -/
def Cs (w : World) (g off n : Nat) (h : Nat → Nat) : Prop := ∀ i, i < n → w.cell? ⟨g, off + i, none⟩ = some (.int .u32 (h i : Nat))
def Fr (w : World) (g off n : Nat) : Prop := ∀ i, i < n → w.frozen? ⟨g, off + i, none⟩ = false
theorem Cs.below {w w' : World} {g off n B : Nat} {h : Nat → Nat} (k : Cs w g off n h) (hb : Below B w w') (hg : g < B) : Cs w' g off n h :=
  fun i hi => by rw [hb.cell (p := ⟨g, off + i, none⟩) hg]; exact k i hi
theorem Fr.below {w w' : World} {g off n B : Nat} (k : Fr w g off n) (hb : Below B w w') (hg : g < B) : Fr w' g off n :=
  fun i hi => by rw [hb.frozen (p := ⟨g, off + i, none⟩) hg]; exact k i hi
theorem Cs.set {w : World} {g off n : Nat} {h : Nat → Nat} (k : Cs w g off n h) {j : Nat} (hj : j < n) (x : Nat) : Cs (w.setCell ⟨g, off + j, none⟩ (.int .u32 (x : Nat))) g off n (upd h j x) := by
  intro i hi
  by_cases e : i = j
  · subst e; rw [upd_same]; exact World.cell?_setCell_same _ _ _ (k i hi)
  · rw [upd_other _ _ _ _ e, World.cell?_setCell_other _ _ _ _ (by intro h; simp only [Addr.mk.injEq, and_true, true_and] at h; omega)]; exact k i hi
theorem Fr.set {w : World} {g off n : Nat} (k : Fr w g off n) (p : Addr) (x : Value) : Fr (w.setCell p x) g off n :=
  fun i hi => by rw [World.frozen?_setCell]; exact k i hi
theorem Cs.other {w : World} {g off n : Nat} {h : Nat → Nat} (k : Cs w g off n h) (p : Addr) (hp : p.block ≠ g) (x : Value) : Cs (w.setCell p x) g off n h := by
  intro i hi
  rw [World.cell?_setCell_other _ _ _ _ (by intro h; subst h; exact hp rfl)]; exact k i hi
theorem Cs.us {w : World} {g off n c : Nat} {h : Nat → Nat} (k : Cs w g off c h) (hn : n ≤ c) (hm : c ≤ maxLen) (hl : Lm h c) : Us w (some ⟨g, off, none⟩) n c h :=
  ⟨hn, hm, hl, fun i hi => ⟨g, off, rfl, k i hi⟩⟩
theorem Us.cs {w : World} {g off n c : Nat} {h : Nat → Nat} (k : Us w (some ⟨g, off, none⟩) n c h) : Cs w g off c h := by
  intro i hi
  obtain ⟨b, o, e, hc⟩ := k.cell i hi
  simp only [Option.some.injEq, Addr.mk.injEq, and_true] at e
  obtain ⟨rfl, rfl⟩ := e
  exact hc
theorem New.fr {w : World} {base g off c : Nat} (k : New w base (some ⟨g, off, none⟩) c) : Fr w g off c := by
  intro i hi
  obtain ⟨b, o, e, _, hc⟩ := k i hi
  simp only [Option.some.injEq, Addr.mk.injEq, and_true] at e
  obtain ⟨rfl, rfl⟩ := e
  exact hc
theorem Fr.new {w : World} {base g off c : Nat} (k : Fr w g off c) (hg : base ≤ g) : New w base (some ⟨g, off, none⟩) c :=
  fun i hi => ⟨g, off, rfl, hg, k i hi⟩
end Go.Proofs.YticfggljaagcmaaDoor
