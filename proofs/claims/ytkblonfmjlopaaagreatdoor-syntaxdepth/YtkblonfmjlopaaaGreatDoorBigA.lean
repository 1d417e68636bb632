/-
  Big integers, the part that the lexer reaches: what stands in the claims of chapter 01, turned to this seat by program.
-/
import Derived.WalkKit
import Derived.WalkSpells
import Derived.WalkLawsBesides
import Derived.Deep.LoopGhost
import Derived.Deep.AppendSrc
import Derived.Deep.Light
import Derived.RegionTactic
import Derived.BigQuiet
import Derived.Deep.QuietTactic
import Derived.Deep.CutBlock
import Derived.Deep.RegionWith
import Derived.Lib.ItoaNum
import Derived.Lib.SlTrimSet
import Derived.Shelf.Strings.SlTrimAscii
import Derived.Laws.IdiomCopy
import Derived.Lib.ConvBytes
import Derived.Deep.RegionHeld3
import Derived.Deep.DeepCutAuto
import Derived.Test.YtkblonfmjlopaaaGreatDoorRows
import Derived.Test.YtkblonfmjlopaaaGreatDoorShelf
set_option linter.all false
set_option maxRecDepth 1000000
set_option maxHeartbeats 16000000
namespace Go.Proofs.YtkblonfmjlopaaaGreatDoor
open Go Go.RowKit
/-! Base -/
theorem hid {p : Prop} (h : p) : Hid p := h
def pw : Nat → Nat
  | 0 => 1
  | n + 1 => 4294967296 * pw n
def val (f : Nat → Nat) : Nat → Nat
  | 0 => 0
  | n + 1 => val f n + f n * pw n
def nrm (f : Nat → Nat) : Nat → Nat
  | 0 => 0
  | n + 1 => if f n = 0 then nrm f n else n + 1
def upd (f : Nat → Nat) (k x : Nat) : Nat → Nat := fun i => if i = k then x else f i
def Lm (f : Nat → Nat) (n : Nat) : Prop := ∀ i, i < n → f i ≤ 4294967295
theorem pw_pos (n : Nat) : 0 < pw n := by
  induction n with
  | zero => simp [pw]
  | succ n ih => simp only [pw]; omega
theorem pw_succ (n : Nat) : pw (n + 1) = 4294967296 * pw n := rfl
theorem val_succ (f : Nat → Nat) (n : Nat) : val f (n + 1) = val f n + f n * pw n := rfl
theorem val_congr {f g : Nat → Nat} {n : Nat} (h : ∀ i, i < n → f i = g i) : val f n = val g n := by
  induction n with
  | zero => rfl
  | succ n ih => rw [val_succ, val_succ, ih (fun i hi => h i (by omega)), h n (by omega)]
theorem Lm.mono {f : Nat → Nat} {n m : Nat} (h : Lm f n) (hm : m ≤ n) : Lm f m := fun i hi => h i (by omega)
theorem upd_same (f : Nat → Nat) (k x : Nat) : upd f k x k = x := by simp [upd]
theorem upd_other (f : Nat → Nat) (k x i : Nat) (h : i ≠ k) : upd f k x i = f i := by simp [upd, h]
theorem Lm.upd {f : Nat → Nat} {n k x : Nat} (h : Lm f n) (hx : x ≤ 4294967295) : Lm (upd f k x) n := by
  intro i hi
  by_cases e : i = k
  · subst e; rw [upd_same]; exact hx
  · rw [upd_other _ _ _ _ e]; exact h i hi
theorem val_upd_ge (f : Nat → Nat) (k x n : Nat) (h : n ≤ k) : val (upd f k x) n = val f n :=
  val_congr fun i hi => upd_other _ _ _ _ (by omega)
theorem val_upd_at (f : Nat → Nat) (k x : Nat) : val (upd f k x) (k + 1) = val f k + x * pw k := by
  rw [val_succ, val_upd_ge _ _ _ _ (Nat.le_refl _), upd_same]
theorem val_nrm (f : Nat → Nat) (n : Nat) : val f (nrm f n) = val f n := by
  induction n with
  | zero => rfl
  | succ n ih =>
    unfold nrm
    split
    · rename_i h; rw [ih, val_succ, h]; omega
    · rfl
def Nm (f : Nat → Nat) (n : Nat) : Prop := n = 0 ∨ f (n - 1) ≠ 0
theorem Nm.congr {f g : Nat → Nat} {n : Nat} (h : Nm f n) (e : ∀ i, i < n → g i = f i) : Nm g n := by
  rcases h with h | h
  · exact .inl h
  · cases n with
    | zero => exact .inl rfl
    | succ n => right; rw [e _ (by simp)]; exact h
theorem Nm.ge {f : Nat → Nat} {n : Nat} (h : Nm f (n + 1)) : pw n ≤ val f (n + 1) := by
  rcases h with h | h
  · omega
  · simp at h; rw [val_succ]; have : 1 * pw n ≤ f n * pw n := Nat.mul_le_mul_right _ (by omega); omega
theorem Nm.zero {f : Nat → Nat} {n : Nat} (h : Nm f n) : val f n = 0 ↔ n = 0 := by
  constructor
  · intro h0; cases n with
    | zero => rfl
    | succ n => have := h.ge; have := pw_pos n; omega
  · rintro rfl; rfl
structure Us (w : World) (a : Option Addr) (n c : Nat) (h : Nat → Nat) : Prop where
  le : n ≤ c
  mx : c ≤ maxLen
  lm : Lm h c
  cell : ∀ i, i < c → ∃ b off, a = some ⟨b, off, none⟩ ∧ w.cell? ⟨b, off + i, none⟩ = some (.int .u32 (h i : Nat))
def New (w : World) (base : Nat) (a : Option Addr) (c : Nat) : Prop :=
  ∀ i, i < c → ∃ b off, a = some ⟨b, off, none⟩ ∧ base ≤ b ∧ w.frozen? ⟨b, off + i, none⟩ = false
theorem New.mono {w : World} {base base' : Nat} {a : Option Addr} {c : Nat} (k : New w base a c) (h : base' ≤ base) : New w base' a c :=
  fun i hi => let ⟨b, off, e, h1, h2⟩ := k i hi; ⟨b, off, e, by omega, h2⟩
theorem Us.below {w w' : World} {a : Option Addr} {n c : Nat} {h : Nat → Nat} (k : Us w a n c h) {B : Nat} (hb : Below B w w') (hB : w.heap.size ≤ B) : Us w' a n c h :=
  ⟨k.le, k.mx, k.lm, fun i hi => by
    obtain ⟨b, off, e, hc⟩ := k.cell i hi; have hlt := World.block_lt_of_cell? w _ hc
    exact ⟨b, off, e, by rw [hb.cell (p := ⟨b, off + i, none⟩) (by simp at hlt ⊢; omega)]; exact hc⟩⟩
theorem Us.lt {w : World} {a : Option Addr} {n c : Nat} {h : Nat → Nat} (k : Us w a n c h) {b off : Nat} (e : a = some ⟨b, off, none⟩) (hc : 0 < c) : b < w.heap.size := by
  obtain ⟨b', off', e', h'⟩ := k.cell 0 hc; rw [e] at e'; simp only [Option.some.injEq, Addr.mk.injEq, and_true] at e'; obtain ⟨rfl, rfl⟩ := e'; exact World.block_lt_of_cell? w _ h'
theorem New.below {w w' : World} {base B : Nat} {a : Option Addr} {n c : Nat} {h : Nat → Nat} (k : New w base a c) (u : Us w a n c h) (hb : Below B w w') (hB : w.heap.size ≤ B) : New w' base a c :=
  fun i hi => by
    obtain ⟨b, off, e, h1, h2⟩ := k i hi; have hlt := u.lt e (by omega); exact ⟨b, off, e, h1, by rw [hb.frozen (p := ⟨b, off + i, none⟩) (by simp; omega)]; exact h2⟩
theorem Us.nil (w : World) (h : Nat → Nat) : Us w none 0 0 h := ⟨Nat.le_refl _, Nat.zero_le _, fun _ hi => by omega, fun _ hi => by omega⟩
theorem New.nil (w : World) (base : Nat) (a : Option Addr) : New w base a 0 := fun _ hi => by omega
def Cs (w : World) (g off n : Nat) (h : Nat → Nat) : Prop := ∀ i, i < n → w.cell? ⟨g, off + i, none⟩ = some (.int .u32 (h i : Nat))
theorem Cs.set {w : World} {g off n : Nat} {h : Nat → Nat} (k : Cs w g off n h) {j : Nat} (hj : j < n) (x : Nat) : Cs (w.setCell ⟨g, off + j, none⟩ (.int .u32 (x : Nat))) g off n (upd h j x) := by
  intro i hi
  by_cases e : i = j
  · subst e; rw [upd_same]; exact World.cell?_setCell_same _ _ _ (k i hi)
  · rw [upd_other _ _ _ _ e, World.cell?_setCell_other _ _ _ _ (by intro h; simp only [Addr.mk.injEq, and_true, true_and] at h; omega)]; exact k i hi
theorem Cs.us {w : World} {g off n c : Nat} {h : Nat → Nat} (k : Cs w g off c h) (hn : n ≤ c) (hm : c ≤ maxLen) (hl : Lm h c) : Us w (some ⟨g, off, none⟩) n c h :=
  ⟨hn, hm, hl, fun i hi => ⟨g, off, rfl, k i hi⟩⟩
theorem Us.cs {w : World} {g off n c : Nat} {h : Nat → Nat} (k : Us w (some ⟨g, off, none⟩) n c h) : Cs w g off c h := by
  intro i hi; obtain ⟨b, o, e, hc⟩ := k.cell i hi; simp only [Option.some.injEq, Addr.mk.injEq, and_true] at e; obtain ⟨rfl, rfl⟩ := e; exact hc
/-! App -/
structure Arr (w : World) (a : Option Addr) (n c : Nat) (h : Nat → Value) : Prop where
  le : n ≤ c
  mx : c ≤ maxLen
  cell : ∀ i, i < c → ∃ b off, a = some ⟨b, off, none⟩ ∧ w.cell? ⟨b, off + i, none⟩ = some (h i)
def cat (h : Nat → Value) (n : Nat) (g : Nat → Value) (m : Nat) (r : Nat → Value) : Nat → Value :=
  fun j => if j < n then h j else if j < n + m then g (j - n) else r j
theorem Arr.addr {w : World} {a : Option Addr} {n c : Nat} {h : Nat → Value} (k : Arr w a n c h) (hc : 0 < c) : ∃ b off, a = some ⟨b, off, none⟩ ∧ ∀ i, i < c → w.cell? ⟨b, off + i, none⟩ = some (h i) := by
  obtain ⟨b, off, e, _⟩ := k.cell 0 hc; refine ⟨b, off, e, fun i hi => ?_⟩; obtain ⟨b', off', e', h'⟩ := k.cell i hi; rw [e] at e'; simp only [Option.some.injEq, Addr.mk.injEq, and_true] at e'; obtain ⟨rfl, rfl⟩ := e'; exact h'
theorem Arr.below {w w' : World} {a : Option Addr} {n c : Nat} {h : Nat → Value} (k : Arr w a n c h) {B : Nat} (hb : Below B w w') (hB : w.heap.size ≤ B) : Arr w' a n c h :=
  ⟨k.le, k.mx, fun i hi => by
    obtain ⟨b, off, e, hc⟩ := k.cell i hi; have hlt := World.block_lt_of_cell? w _ hc
    exact ⟨b, off, e, by rw [hb.cell (p := ⟨b, off + i, none⟩) (by simp at hlt ⊢; omega)]; exact hc⟩⟩
theorem Arr.congr {w : World} {a : Option Addr} {n c : Nat} {h g : Nat → Value} (k : Arr w a n c h) (e : ∀ i, i < c → h i = g i) : Arr w a n c g :=
  ⟨k.le, k.mx, fun i hi => by rw [← e i hi]; exact k.cell i hi⟩
theorem Us.arr {w : World} {a : Option Addr} {n c : Nat} {h : Nat → Nat} (k : Us w a n c h) : Arr w a n c (fun i => .int .u32 (h i : Nat)) := ⟨k.le, k.mx, k.cell⟩
theorem Arr.us {w : World} {a : Option Addr} {n c : Nat} {h : Nat → Nat} (k : Arr w a n c (fun i => .int .u32 (h i : Nat))) (l : Lm h c) : Us w a n c h := ⟨k.le, k.mx, l, k.cell⟩
theorem lst_get {α : Type} (h : Nat → α) (n j : Nat) (u : α) (e : ((List.range n).map h)[j]? = some u) : j < n ∧ u = h j := by
  rw [List.getElem?_map] at e
  by_cases hj : j < n
  · rw [List.getElem?_range hj] at e; simp at e; exact ⟨hj, e.symm⟩
  · rw [List.getElem?_eq_none (by simpa using hj)] at e; simp at e
theorem Arr.empty (w : World) (a : Option Addr) (h : Nat → Value) : Arr w a 0 0 h := ⟨Nat.le_refl _, Nat.zero_le _, fun _ hi => by omega⟩
theorem below_alloc (w : World) (o : Obj) : Below w.heap.size w (w.alloc o) := (Below.refl _ _).alloc (Nat.le_refl _) _
theorem Us.alloc {w : World} {a : Option Addr} {n c : Nat} {h : Nat → Nat} (k : Us w a n c h) (o : Obj) : Us (w.alloc o) a n c h := k.below (below_alloc w o) (Nat.le_refl _)
theorem cat_us {w : World} {a : Option Addr} {n c n' m : Nat} {h g : Nat → Nat} {r : Nat → Value} {z : Nat} (hz : z ≤ 4294967295) (lh : Lm h n) (lg : Lm g m) (hr : r = (fun i => .int .u32 (h i : Nat)) ∧ Lm h c ∨ r = fun _ => .int .u32 (z : Nat))
    (k : Arr w a n' c (cat (fun i => .int .u32 (h i : Nat)) n (fun i => .int .u32 (g i : Nat)) m r)) : ∃ f : Nat → Nat, Us w a n' c f ∧ (∀ i, i < n → f i = h i) ∧ ∀ i, i < m → f (n + i) = g i := by
  obtain ⟨q, rfl, lq⟩ : ∃ q : Nat → Nat, (r = fun i => Value.int .u32 (q i : Nat)) ∧ Lm q c := by
    rcases hr with ⟨h1, h2⟩ | h1
    · exact ⟨h, h1, h2⟩
    · exact ⟨fun _ => z, h1, fun _ _ => hz⟩
  refine ⟨fun j => if j < n then h j else if j < n + m then g (j - n) else q j, (k.congr ?_).us ?_, fun i hi => by simp [hi], fun i hi => by dsimp only; rw [if_neg (by omega), if_pos (by omega), Nat.add_sub_cancel_left]⟩
  · intro i hi; unfold cat; dsimp only
    split
    · rfl
    · split <;> rfl
  · intro i hi; dsimp only
    split
    · exact lh i ‹_›
    · split
      · exact lg _ (by omega)
      · exact lq i hi
section
variable {P : Program}
theorem Arr.first {w : World} {a : Option Addr} {n c : Nat} {h : Nat → Value} (k : Arr w a n c h) (size : Nat) (hs : size = 1) : (Builtin.firstCells size n (.slice a n c)).run P w = .ok ((List.range n).map h).toArray w := by
  subst hs
  by_cases hn : n = 0
  · subst hn; cases a with
    | none => rw [run_firstCells_none]; rfl
    | some ad => exact run_firstCells_some w 1 0 ad 0 c _ (by simp) (fun j v e => by simp at e)
  · have := k.le; obtain ⟨b, off, rfl, hc⟩ := k.addr (by omega); refine run_firstCells_some w 1 n _ n c _ (by simp) (fun j v e => ?_); obtain ⟨hj, rfl⟩ := lst_get _ _ _ _ e; rw [Addr.add_lit]; exact hc j (by omega)
theorem Arr.src {w : World} {a : Option Addr} {n c : Nat} {h : Nat → Value} (k : Arr w a n c h) {tx e' : TypeId} (ht : P.underlying tx = some (.slice e')) (one : ∀ i, i < n → (h i).oneCell' = true) : Src P 1 tx (.slice a n c) n ((List.range n).map h) w :=
  ⟨.inl ⟨e', ht⟩, fun _ => rfl, k.first 1 rfl, Arr.first (w := w.drew) ⟨k.le, k.mx, fun i hi => by simpa using k.cell i hi⟩ 1 rfl, by simp, fun u hu => by
    obtain ⟨i, hi, rfl⟩ := List.mem_map.1 hu
    exact one i (by simpa using hi)⟩
theorem setCells_below {B : Nat} (b : Nat) (hB : B ≤ b) : ∀ (vs : List Value) (o : Nat) (w : World), Below B w (w.setCells b o vs)
  | [], _, w => Below.refl _ _
  | v :: r, o, w => ((Below.refl B w).setCell (p := ⟨b, o, none⟩) hB v).trans (setCells_below b hB r (o + 1) _)
theorem size_zero1 (z : Value) (h : z.cells = #[z]) (n j : Nat) (hj : j < n) : (Builtin.zeroCells z.cells n)[j]? = some z := by
  rw [h]; unfold Builtin.zeroCells; simp [hj, Nat.mod_one]
theorem run_append_arr (w : World) (t tx ty e e' : TypeId) (z : Value) (bytes : Nat) (ht : P.underlying t = some (.slice e)) (htx : P.underlying tx = some (.slice e'))
    (hi : (P.info? e).map (fun i => (i.zero, i.size, i.bytes)) = some (some z, 1, bytes)) (hz : z.cells = #[z]) (base : Nat) (hbase : base ≤ w.heap.size)
    (a ao : Option Addr) (n c m d : Nat) (h g : Nat → Value) (A : Arr w a n c h) (N : New w base a c) (S : Arr w ao m d g) (one : ∀ i, i < m → (g i).oneCell' = true)
    (hlen : (n + m) * (2 * bytes) ≤ 281474976710656) (h63 : n + m ≤ 140737488355328) :
    ∃ a' c' r w', (Builtin.append_ #[t, tx] ty #[.slice a n c, .slice ao m d]).run P w = .ok (.slice a' (n + m) c') w' ∧ (r = h ∧ c' = c ∨ r = fun _ => z) ∧
      Arr w' a' (n + m) c' (cat h n g m r) ∧ New w' base a' c' ∧ Below base w w' := by
  obtain ⟨i, hi0, hiz, his, hib⟩ := info_parts hi; have src := S.src (P := P) htx one
  by_cases hroom : n + m ≤ c
  · by_cases hc0 : c = 0
    · subst hc0; have hn0 : n = 0 := by omega
      have hm0 : m = 0 := by omega
      subst hn0; subst hm0; refine ⟨a, 0, h, w, ?_, .inl ⟨rfl, rfl⟩, ⟨Nat.le_refl _, Nat.zero_le _, fun _ hi => by omega⟩, fun _ hi => by omega, Below.refl _ _⟩; have f0 := S.first (P := P) 1 rfl; simp at f0
      rcases hx : a with _ | ad
      · simp [Builtin.append_, run_underlying ht, run_underlying htx, sizeOf, typeInfo, hi0, Builtin.lenOf, his]; simp [f0]
      · simp [Builtin.append_, run_underlying ht, run_underlying htx, sizeOf, typeInfo, hi0, Builtin.lenOf, his]; simp [f0, storeCells]
    · obtain ⟨b, off, rfl, hc⟩ := A.addr (by omega)
      have hrun := run_append_room_src (P := P) w t tx ty e i ht hi0 b off n c (.slice ao m d) m ((List.range m).map g) (by rw [his]; exact src) hroom
        (fun j hj => by rw [his, Nat.mul_one, Nat.add_assoc, hc (n + j) (by simp at hj; omega)]; rfl)
        (fun j hj => by
          obtain ⟨b', off', e', _, hf⟩ := N (n + j) (by simp at hj; omega); simp only [Option.some.injEq, Addr.mk.injEq, and_true] at e'; obtain ⟨rfl, rfl⟩ := e'
          rw [his, Nat.mul_one, Nat.add_assoc]; exact hf)
      rw [his, Nat.mul_one] at hrun; obtain ⟨b', off', e', hb, _⟩ := N 0 (by omega); simp only [Option.some.injEq, Addr.mk.injEq, and_true] at e'; obtain ⟨rfl, rfl⟩ := e'; refine ⟨_, _, h, _, hrun, .inl ⟨rfl, rfl⟩, ⟨hroom, A.mx, fun j hj => ⟨b, off, rfl, ?_⟩⟩, fun j hj => ?_, setCells_below b hb _ _ _⟩
      · unfold cat
        split
        · rw [World.cell?_setCells_out _ _ _ _ _ (fun _ _ => .inl (by simp; omega))]; exact hc j hj
        · split
          · have := World.cell?_setCells_in b ((List.range m).map g) (off + n) w (fun k hk => by rw [Nat.add_assoc, hc (n + k) (by simp at hk; omega)]; rfl) (j - n) (by simp; omega); rw [show off + n + (j - n) = off + j by omega] at this; rw [this]; simp
          · rw [World.cell?_setCells_out _ _ _ _ _ (fun _ _ => .inr (by simp; omega))]; exact hc j hj
      · obtain ⟨b', off', e', h1, h2⟩ := N j hj; exact ⟨b', off', e', h1, by rw [World.frozen?_setCells]; exact h2⟩
  · have hgrow : c < n + m := by omega
    have hrun := run_append_grow_src (P := P) w t tx ty e i z ht hi0 hiz a n c ((List.range n).map h) (Arr.first (w := w.drew) ⟨A.le, A.mx, fun i hi => by simpa using A.cell i hi⟩ i.size his) (.slice ao m d) m ((List.range m).map g) (by rw [his]; exact src) hgrow
      (by omega) (by
        have h1 := nextslicecap_le hgrow; have h2 : Builtin.nextslicecap (n + m) c * i.bytes ≤ 2 * (n + m) * i.bytes := Nat.mul_le_mul_right _ h1; have h3 : 2 * (n + m) * i.bytes = (n + m) * (2 * bytes) := by rw [hib, Nat.mul_comm 2, Nat.mul_assoc]
        omega)
    have hge := grownCap_ge w (n + m) c e; have hle := grownCap_le_maxLen w (n + m) c e (by unfold maxLen; omega)
    have hcell : ∀ j, j < grownCap w (n + m) c e → (((List.range n).map h ++ (List.range m).map g).toArray ++ Builtin.zeroCells z.cells (grownCap w (n + m) c e - (n + m)))[j]? = some (cat h n g m (fun _ => z) j) := by
      intro j hj; unfold cat; rw [Array.getElem?_append]
      split
      · rename_i h1; simp at h1; simp only [List.getElem?_toArray, List.getElem?_append, List.length_map, List.length_range]
        split
        · simp [*]
        · rename_i h2; simp [show j - n < m by omega]
      · rename_i h1; simp at h1; rw [if_neg (by omega), if_neg (by omega)]; exact size_zero1 z hz _ _ (by simp; omega)
    refine ⟨_, _, fun _ => z, _, hrun, .inr rfl, ⟨hge, hle, fun j hj => ⟨w.heap.size, 0, rfl, ?_⟩⟩, fun j hj => ⟨w.heap.size, 0, rfl, hbase, ?_⟩, ((Below.refl _ _).drew).alloc hbase _⟩
    · rw [Nat.zero_add]; have := World.cell?_alloc_new w.drew (((List.range n).map h ++ (List.range m).map g).toArray ++ Builtin.zeroCells z.cells (grownCap w (n + m) c e - (n + m))) e j; exact this.trans (hcell j hj)
    · exact World.frozen?_alloc_new w.drew _ _ _
theorem wpList_append_arr {ops : Array Oper} {rest : List Oper} {o : Oper} {act : Act} {Q : Exit → Act → World → Prop} (w : World) (hgd : o.guard = none) (s x : Operand) (t tx : TypeId)
    (ho : o.op = .call { callee := .builtin .append, args := #[s, x], argTypes := #[t, tx] })
    (e e' : TypeId) (z : Value) (bytes : Nat) (ht : P.underlying t = some (.slice e)) (htx : P.underlying tx = some (.slice e'))
    (hi : (P.info? e).map (fun i => (i.zero, i.size, i.bytes)) = some (some z, 1, bytes)) (hz : z.cells = #[z]) (base : Nat) (hbase : base ≤ w.heap.size)
    (a ao : Option Addr) (n c m d : Nat) (h g : Nat → Value) (hs : act.eval s = .slice a n c) (hx : act.eval x = .slice ao m d) (A : Arr w a n c h) (N : New w base a c) (S : Arr w ao m d g) (one : ∀ i, i < m → (g i).oneCell' = true)
    (hlen : (n + m) * (2 * bytes) ≤ 281474976710656) (h63 : n + m ≤ 140737488355328)
    (hK : ∀ a' c' r w', (r = h ∧ c' = c ∨ r = fun _ => z) → Arr w' a' (n + m) c' (cat h n g m r) → New w' base a' c' → Below base w w' → wpList P ops Q rest (act.put o.dst (.slice a' (n + m) c')) w') :
    wpList P ops Q (o :: rest) act w := by
  refine wpList_plain hgd fun K hK' => ?_; obtain ⟨a', c', r, w', hrun, h1, h2, h3, h4⟩ := run_append_arr (P := P) w t tx o.type e e' z bytes ht htx hi hz base hbase a ao n c m d h g A N S one hlen h63; unfold Oper.wp; simp [execOp, ho, resolve, invoke, builtin, hs, hx, hrun, Result.andThen]; exact hK' _ _ (hK a' c' r w' h1 h2 h3 h4)
theorem wpList_append_u32 {ops : Array Oper} {rest : List Oper} {o : Oper} {act : Act} {Q : Exit → Act → World → Prop} (w : World) (hgd : o.guard = none) (s x : Operand) (t tx : TypeId)
    (ho : o.op = .call { callee := .builtin .append, args := #[s, x], argTypes := #[t, tx] })
    (e : TypeId) (ht : P.underlying t = some (.slice e)) (htx : P.underlying tx = some (.slice e))
    (hi : (P.info? e).map (fun i => (i.zero, i.size, i.bytes)) = some (some (.int .u32 0), 1, 4)) (base : Nat) (hbase : base ≤ w.heap.size)
    (a ao : Option Addr) (n c m d : Nat) (h g : Nat → Nat) (hs : act.eval s = .slice a n c) (hx : act.eval x = .slice ao m d) (A : Us w a n c h) (N : New w base a c) (S : Us w ao m d g)
    (hlen : n + m ≤ 35184372088832)
    (hK : ∀ a' c' f w', Us w' a' (n + m) c' f → (∀ i, i < n → f i = h i) → (∀ i, i < m → f (n + i) = g i) → New w' base a' c' → Below base w w' → wpList P ops Q rest (act.put o.dst (.slice a' (n + m) c')) w') :
    wpList P ops Q (o :: rest) act w :=
  wpList_append_arr w hgd s x t tx ho e e (.int .u32 0) 4 ht htx hi rfl base hbase a ao n c m d _ _ hs hx A.arr N S.arr (fun _ _ => rfl) (by omega) (by omega)
    fun a' c' r w' hr hA hN hB => by
      have hr' : r = (fun i => Value.int .u32 (h i : Nat)) ∧ Lm h c' ∨ r = fun _ => Value.int .u32 ((0 : Nat) : Int) := by
        rcases hr with ⟨h1, h2⟩ | h1
        · subst h2; exact .inl ⟨h1, A.lm⟩
        · exact .inr h1
      obtain ⟨f, h1, h2, h3⟩ := cat_us (Nat.zero_le _) (A.lm.mono A.le) (S.lm.mono S.le) hr' hA; exact hK a' c' f w' h1 h2 h3 hN hB
end
/-! Own -/
theorem Tryz.info171 : (Tryz.prog.info? 171).map (fun i => (i.zero, i.size, i.bytes)) = some (some (.int .u32 0), 1, 4) := by kernel_rfl
theorem Us.mono {w : World} {a : Option Addr} {n n' c : Nat} {h : Nat → Nat} (k : Us w a n c h) (hn : n' ≤ n) : Us w a n' c h := ⟨Nat.le_trans hn k.le, k.mx, k.lm, k.cell⟩
theorem clone_any (a : Option Addr) (n c : Nat) (h : Nat → Nat) (w : World) (hn : n ≤ 4398046511104) (hu : Us w a n c h) (hz : a = none → n = 0 ∧ c = 0) :
    Calls Tryz.prog 156 #[.slice a n c] w fun e w' => ∃ a' c' f, e = .returned (.slice a' n c') ∧ Us w' a' n c' f ∧ New w' w.heap.size a' c' ∧ Below w.heap.size w w' ∧ (∀ i, i < n → f i = h i) := by
  have hu1 := hu.alloc (.cells #[] 171); cases a with
  | none =>
    obtain ⟨rfl, rfl⟩ := hz rfl; have he := fun w => Lib.run_eql_slice_nil (P := Tryz.prog) w 70 171 none 0 0 0 0 Tryz.underlying70; go_enter Tryz.func156, Tryz.ntmps156
    go_wp2
    go_ret; exact ⟨none, 0, ⟨rfl, ⟨h, hu⟩, New.nil _ _ _, Below.refl _ _⟩⟩
  | some ad =>
    have he := fun w => Lib.run_eql_slice_nil (P := Tryz.prog) w 70 171 (some ad) n c 0 0 Tryz.underlying70; go_enter Tryz.func156, Tryz.ntmps156
    go_wp2_with (at_builtin; refine wpList_append_u32 _ rfl _ _ 70 70 rfl 171 Tryz.underlying70 Tryz.underlying70 Tryz.info171 w.heap.size (by simp) _ _ _ _ _ _ _ _ rfl rfl ((Arr.empty _ _ (fun _ => .int .u32 ((0 : Nat) : Int))).us (fun _ hi => by omega)) (New.nil _ _ _) hu1 (by omega) ?_)
    intro a' c' f w1 h1 h3 h4 h5; have H3 := hid h3; clear h3
    go_wp2
    go_ret; exact ⟨a', c', f, rfl, h1, h4, (below_alloc w _).trans h5, H3.out⟩
/-! NatAdd -/
def ex (g : Nat → Nat) (m : Nat) : Nat → Nat := fun i => if i < m then g i else 0
/-! NatCmp -/
/-! Take -/
theorem New.set {w : World} {base : Nat} {a : Option Addr} {c : Nat} (k : New w base a c) (p : Addr) (x : Value) : New (w.setCell p x) base a c :=
  fun i hi => let ⟨b, off, e, h1, h2⟩ := k i hi; ⟨b, off, e, h1, by rw [World.frozen?_setCell]; exact h2⟩
/-! Digit -/
/-! Div1 -/
/-! Dec -/
def rd1 (d : Nat) (c : UInt8) : Nat := 10 * d + (c.toNat - 48)
def rdr (d : Nat) (l : List UInt8) : Nat := l.foldl rd1 d
theorem rdr_append (l r : List UInt8) (d : Nat) : rdr d (l ++ r) = rdr (rdr d l) r := List.foldl_append
theorem rdr_nil (d : Nat) : rdr d [] = d := by unfold rdr; rw [List.foldl_nil]
theorem rdr_cons (d : Nat) (c : UInt8) (l : List UInt8) : rdr d (c :: l) = rdr (rd1 d c) l := by unfold rdr; rw [List.foldl_cons]
theorem pow_step1 (d t p r : Nat) : (10 * d + t) * p + r = d * (p * 10) + (t * p + r) := by
  have h1 : (10 * d + t) * p = 10 * d * p + t * p := Nat.add_mul _ _ _; have h2 : d * (p * 10) = 10 * d * p := by rw [Nat.mul_comm p 10, ← Nat.mul_assoc, Nat.mul_comm d 10]
  rw [h1, h2, Nat.add_assoc]
theorem rd1_eq (d : Nat) (c : UInt8) : rd1 d c = 10 * d + rd1 0 c := by unfold rd1; omega
theorem rdr_pow : ∀ (l : List UInt8) (d : Nat), rdr d l = d * 10 ^ l.length + rdr 0 l
  | [], d => by rw [rdr_nil, rdr_nil, List.length_nil, Nat.pow_zero, Nat.mul_one, Nat.add_zero]
  | c :: l, d => by
    have h1 := rdr_pow l (rd1 d c); have h2 := rdr_pow l (rd1 0 c); have h3 := pow_step1 d (rd1 0 c) (10 ^ l.length) (rdr 0 l); rw [rdr_cons, rdr_cons, List.length_cons, Nat.pow_succ, h1, h2, rd1_eq d c]; exact h3
theorem rdr_lt : ∀ (l : List UInt8), (∀ c ∈ l, c.toNat ≤ 57) → rdr 0 l < 10 ^ l.length
  | [], _ => by rw [rdr_nil]; decide
  | c :: l, h => by
    rw [rdr_cons, rdr_pow, List.length_cons]; have h1 := rdr_lt l (fun x hx => h x (by simp [hx])); have h2 := h c (by simp); have h3 : rd1 0 c * 10 ^ l.length ≤ 9 * 10 ^ l.length := Nat.mul_le_mul_right _ (by unfold rd1; omega); rw [Nat.pow_succ]; omega
def isNum (l : List UInt8) : Bool := !l.isEmpty && !(decide (1 < l.length) && l.head? == some 48) && l.all fun c => decide (48 ≤ c.toNat) && decide (c.toNat ≤ 57)
/-! App2 -/
/-! Parse -/
def tenD : List UInt8 := [48, 49, 50, 51, 52, 53, 54, 55, 56, 57]
theorem ten_iff (c : UInt8) : tenD.contains c = (decide (48 ≤ c.toNat) && decide (c.toNat ≤ 57)) := by
  have h : ∀ n : Fin 256, tenD.contains (UInt8.ofNat n.val) = (decide (48 ≤ n.val) && decide (n.val ≤ 57)) := by decide
  have := h ⟨c.toNat, c.toNat_lt⟩
  simpa using this
theorem drop_all {p : UInt8 → Bool} {l : List UInt8} (h : l.all p = true) : l.dropWhile p = [] := by
  induction l with
  | nil => rfl
  | cons c l ih =>
    rw [List.all_cons, Bool.and_eq_true] at h; rw [List.dropWhile_cons, if_pos h.1]; exact ih h.2
theorem trimS_nil {l cs : List UInt8} (h : l.all (cs.contains ·) = true) : Lib.trimS l cs = [] := by
  unfold Lib.trimS Lib.trimRightS Lib.trimLeftS; have e : l.reverse.dropWhile (cs.contains ·) = [] := drop_all (by rw [List.all_reverse]; exact h); rw [e]; rfl
theorem trim_all (l : List UInt8) (w : World) (hl : l.length ≤ 1099511627776) :
    Calls Tryz.prog 155 #[.string ⟨l.toArray⟩, .string ⟨#[48, 49, 50, 51, 52, 53, 54, 55, 56, 57]⟩] w fun e w' => e = .returned (.string ⟨(Lib.trimS l tenD).toArray⟩) ∧ Below w.heap.size w w' :=
  Any.strings_Trim_laid Tryz.lays160 (by kernel_rfl) ⟨l.toArray⟩ ⟨#[48, 49, 50, 51, 52, 53, 54, 55, 56, 57]⟩ w (by show l.length ≤ _; omega) (by decide) (ascii_of_all (by decide))
/-! Copy -/
/-! RTrim -/
end Go.Proofs.YtkblonfmjlopaaaGreatDoor
