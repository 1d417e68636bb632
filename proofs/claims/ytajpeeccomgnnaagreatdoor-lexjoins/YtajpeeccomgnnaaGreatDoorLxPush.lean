/-
  A word laid behind the others: what the scanner's cells say then.
-/
import Derived.Test.YtajpeeccomgnnaaGreatDoorLxBlP
namespace Go.Proofs.YtajpeeccomgnnaaGreatDoor
set_option linter.all false
open Go Go.RowKit

/-- A word's seven values. -/
def tokV (t : Tok) (sg : Bool) (am : Option Addr) (nm cm : Nat) : Array Value := #[.int .i64 (t.kind : Nat), .string ⟨t.text.toArray⟩, .bool sg, .slice am nm cm, .int .u64 (t.bits : Nat), .int .i64 (t.n : Nat), .int .i64 (t.pos : Nat)]
theorem tokV_one (t : Tok) (sg : Bool) (am : Option Addr) (nm cm : Nat) : ∀ j, j < 7 → ((tokV t sg am nm cm)[j]!).oneCell' = true := fun j hj => by
  match j, hj with
  | 0, _ => rfl
  | 1, _ => rfl
  | 2, _ => rfl
  | 3, _ => rfl
  | 4, _ => rfl
  | 5, _ => rfl
  | 6, _ => rfl
theorem tokV_new (w : World) (t : Tok) (sg : Bool) (am : Option Addr) (nm cm : Nat) (T : TypeId) : ∀ j, j < 7 → ((w.alloc (.cells (tokV t sg am nm cm) T)).drew).cell? ⟨w.heap.size, 0 + j, none⟩ = some ((tokV t sg am nm cm)[j]!) := fun j hj => by
  rw [Nat.zero_add]
  refine (World.cell?_alloc_new w _ _ j).trans ?_
  match j, hj with
  | 0, _ => rfl
  | 1, _ => rfl
  | 2, _ => rfl
  | 3, _ => rfl
  | 4, _ => rfl
  | 5, _ => rfl
  | 6, _ => rfl

theorem push_st {W w3 : World} {b : Nat} {s : ByteArray} {p : Nat} {la a' : Option Addr} {lc c' : Nat} {ts : List Tok} {base : Nat} {hh r : Nat → Value} {t : Tok} {sg : Bool} {am : Option Addr} {nm cm : Nat}
    (h : Sc W b s p la ts.length lc 0 0) (hA : ArrS W la ts.length lc 7 hh) (hz0 : ∀ j, ts.length * 7 ≤ j → j < lc * 7 → hh j = zcS tokZ j) (htk : ∀ i t, ts[i]? = some t → TokC W t hh (i * 7))
    (hN : New W base la (lc * 7)) (hb : base ≤ b) (hlb : ∀ x off, la = some ⟨x, off, none⟩ → b < x ∧ x < W.heap.size) (hm : Mg W sg am nm cm t.num)
    (hr : r = hh ∧ a' = la ∧ c' = lc ∨ r = zcS tokZ ∧ a' = some ⟨W.heap.size, 0, none⟩ ∧ W.heap.size < w3.heap.size ∧ ∀ p : Addr, p.block < W.heap.size → w3.cell? p = W.cell? p)
    (A3 : ArrS w3 a' (ts.length + 1) c' 7 (catS hh (ts.length * 7) 7 (fun j => (tokV t sg am nm cm)[j]!) r)) (N3 : New w3 base a' (c' * 7)) (hb3 : Below base W w3) (hk3 : Kp W w3 la (ts.length * 7) ((ts.length + 1) * 7)) :
    let w4 := w3.setCell ⟨b, 2, none⟩ (.slice a' (ts.length + 1) c')
    Sc w4 b s p a' (ts.length + 1) c' 0 0 ∧ Toks w4 a' (ts.length + 1) c' (ts ++ [t]) ∧ New w4 base a' (c' * 7) ∧ (∀ x off, a' = some ⟨x, off, none⟩ → b < x ∧ x < w4.heap.size) ∧ Below base W w4 ∧ UsK W w4 := by
  intro w4
  obtain ⟨blt, c0, c1, c2, c3, c4, fr⟩ := h
  have k3 : ∀ (q : Addr), q.block = b → w3.cell? q = W.cell? q := fun q hq => hk3.cell q (by omega) (fun x off e hx => by have := hlb x off e; omega)
  have f3 : ∀ (q : Addr), q.block = b → w3.frozen? q = W.frozen? q := fun q hq => hk3.frozen q (by omega)
  have hw3 : W.heap.size ≤ w3.heap.size := hk3.size
  have hlen7 : (ts.length + 1) * 7 = ts.length * 7 + 7 := Nat.succ_mul _ _
  have ha' : ∀ x off, a' = some ⟨x, off, none⟩ → b < x ∧ x < w3.heap.size := fun x off e => by
    rcases hr with ⟨_, h2, _⟩ | ⟨_, h2, h3, _⟩
    · rw [h2] at e
      have := hlb x off e
      omega
    · rw [h2] at e
      simp only [Option.some.injEq, Addr.mk.injEq, and_true] at e
      omega
  have e2 := (k3 ⟨b, 2, none⟩ rfl).trans c2
  have uk3 : UsK W w3 := by
    intro ay ny cy fy uy
    refine ⟨uy.le, uy.mx, uy.lm, fun q hq => ?_⟩
    obtain ⟨y, oy, ey, hc⟩ := uy.cell q hq
    refine ⟨y, oy, ey, ?_⟩
    have hlt := World.block_lt_of_cell? W _ hc
    rw [← hc]
    rcases hr with ⟨_, _, h5⟩ | ⟨_, _, _, h6⟩
    · refine hk3.cell ⟨y, oy + q, none⟩ hlt (fun x off e hx => ?_)
      obtain ⟨h1, _, h2, h3⟩ := hx
      simp only at h1 h2 h3
      have hroom := A3.le
      have hm : (ts.length + 1) * 7 ≤ lc * 7 := Nat.mul_le_mul_right _ (by omega)
      obtain ⟨x', off', e', hcx⟩ := hA.cell (oy + q - off) (by omega)
      rw [e] at e'
      simp only [Option.some.injEq, Addr.mk.injEq, and_true] at e'
      obtain ⟨rfl, rfl⟩ := e'
      rw [show off + (oy + q - off) = oy + q by omega, ← h1, hc] at hcx
      rw [hz0 _ (by omega) (by omega)] at hcx
      have := Option.some.inj hcx
      exact tokZ_kind _ _ this.symm
    · exact h6 _ hlt
  have u1 : UsK W w4 := uk3.set e2 (fun _ h => by cases h) _
  refine ⟨⟨by simpa [w4] using (by omega : b < w3.heap.size), ?_, ?_, ?_, ?_, ?_, fun o => by simpa [w4] using (f3 ⟨b, o, none⟩ rfl).trans (fr o)⟩, ⟨catS hh (ts.length * 7) 7 (fun j => (tokV t sg am nm cm)[j]!) r, ⟨A3.le, A3.mx, fun j hj => ?_⟩, by simp, fun j h1 h2 => ?_, fun i u hu => ?_⟩, N3.set _ _, fun x off e => by simpa [w4] using ha' x off e, hb3.setCell hb _, u1⟩
  · rw [World.cell?_setCell_other _ _ _ _ (by intro h; simp at h)]; exact (k3 ⟨b, 0, none⟩ rfl).trans c0
  · rw [World.cell?_setCell_other _ _ _ _ (by intro h; simp at h)]; exact (k3 ⟨b, 1, none⟩ rfl).trans c1
  · rw [World.cell?_setCell_same _ _ _ e2]
  · rw [World.cell?_setCell_other _ _ _ _ (by intro h; simp at h)]; exact (k3 ⟨b, 3, none⟩ rfl).trans c3
  · rw [World.cell?_setCell_other _ _ _ _ (by intro h; simp at h)]; exact (k3 ⟨b, 4, none⟩ rfl).trans c4
  · obtain ⟨x, off, e, hc⟩ := A3.cell j hj
    have hx := (ha' x off e).1
    refine ⟨x, off, e, ?_⟩
    rw [World.cell?_setCell_other _ _ _ _ (by intro h; simp only [Addr.mk.injEq] at h; omega)]
    exact hc
  · unfold catS
    rw [if_neg (by omega), if_neg (by omega)]
    rcases hr with ⟨h5, _, h6⟩ | ⟨h5, _⟩
    · rw [h5]; exact hz0 j (by omega) (by omega)
    · rw [h5]
  · by_cases hi : i < ts.length
    · rw [List.getElem?_append_left hi] at hu
      refine ((htk i u hu).congr (fun k hk => ?_)).keep u1
      unfold catS
      rw [if_pos (by omega)]
    · have hi2 : i = ts.length := by
        have := (List.getElem?_eq_some_iff.1 hu).1
        simp at this; omega
      subst hi2
      rw [List.getElem?_append_right (Nat.le_refl _), Nat.sub_self] at hu
      have ht2 := Option.some.inj (show some _ = some u from hu)
      subst ht2
      have hg7 : ∀ k, k < 7 → catS hh (ts.length * 7) 7 (fun j => (tokV t sg am nm cm)[j]!) r (ts.length * 7 + k) = (tokV t sg am nm cm)[k]! := fun k hk => by
        unfold catS
        rw [if_neg (by omega), if_pos (by omega), Nat.add_sub_cancel_left]
      exact ⟨sg, am, nm, cm, hg7 0 (by omega), hg7 1 (by omega), hg7 2 (by omega), hg7 3 (by omega), hg7 4 (by omega), hg7 5 (by omega), hg7 6 (by omega), hm.keep u1⟩
theorem push_out {W w3 : World} {b : Nat} {s : ByteArray} {p k : Nat} {la a' : Option Addr} {lc c' : Nat} {ts : List Tok} {base : Nat} {hh r : Nat → Value} {t : Tok} {sg : Bool} {am : Option Addr} {nm cm : Nat}
    (h : Sc W b s p la ts.length lc 0 0) (hA : ArrS W la ts.length lc 7 hh) (hz0 : ∀ j, ts.length * 7 ≤ j → j < lc * 7 → hh j = zcS tokZ j) (htk : ∀ i t, ts[i]? = some t → TokC W t hh (i * 7))
    (hN : New W base la (lc * 7)) (hb : base ≤ b) (hlb : ∀ x off, la = some ⟨x, off, none⟩ → b < x ∧ x < W.heap.size) (hm : Mg W sg am nm cm t.num) (hk : p < k) (hts : ts.length ≤ p)
    (hr : r = hh ∧ a' = la ∧ c' = lc ∨ r = zcS tokZ ∧ a' = some ⟨W.heap.size, 0, none⟩ ∧ W.heap.size < w3.heap.size ∧ ∀ p : Addr, p.block < W.heap.size → w3.cell? p = W.cell? p)
    (A3 : ArrS w3 a' (ts.length + 1) c' 7 (catS hh (ts.length * 7) 7 (fun j => (tokV t sg am nm cm)[j]!) r)) (N3 : New w3 base a' (c' * 7)) (hb3 : Below base W w3) (hk3 : Kp W w3 la (ts.length * 7) ((ts.length + 1) * 7)) :
    St ((w3.setCell ⟨b, 2, none⟩ (.slice a' (ts.length + 1) c')).setCell ⟨b, 1, none⟩ (.int .i64 (k : Nat))) b s k (ts ++ [t]) base ∧ Below base W ((w3.setCell ⟨b, 2, none⟩ (.slice a' (ts.length + 1) c')).setCell ⟨b, 1, none⟩ (.int .i64 (k : Nat))) ∧ UsK W ((w3.setCell ⟨b, 2, none⟩ (.slice a' (ts.length + 1) c')).setCell ⟨b, 1, none⟩ (.int .i64 (k : Nat))) := by
  obtain ⟨g1, g2, g3, g4, g5, g6⟩ := push_st h hA hz0 htk hN hb hlb hm hr A3 N3 hb3 hk3
  generalize w3.setCell ⟨b, 2, none⟩ (.slice a' (ts.length + 1) c') = w4 at g1 g2 g3 g4 g5 g6 ⊢
  have c1 := g1.c1
  have u : UsK w4 (w4.setCell ⟨b, 1, none⟩ (.int .i64 (k : Nat))) := (UsK.refl w4).set c1 (fun _ h => by cases h) _
  refine ⟨⟨a', c', ⟨by simpa using g1.lt, ?_, ?_, ?_, ?_, ?_, fun o => by simpa using g1.fr o⟩, ?_, by simpa using g3.set _ _, hb, fun x off e => by simpa using g4 x off e, by simp; omega⟩, g5.setCell hb _, g6.trans u⟩
  · rw [World.cell?_setCell_other _ _ _ _ (by intro h; simp at h)]; exact g1.c0
  · rw [World.cell?_setCell_same _ _ _ c1]
  · rw [World.cell?_setCell_other _ _ _ _ (by intro h; simp at h)]; simpa using g1.c2
  · rw [World.cell?_setCell_other _ _ _ _ (by intro h; simp at h)]; exact g1.c3
  · rw [World.cell?_setCell_other _ _ _ _ (by intro h; simp at h)]; exact g1.c4
  · obtain ⟨hh, A, e, z, tk⟩ := g2
    refine ⟨hh, ⟨by simpa using A.le, A.mx, fun j hj => ?_⟩, by simp, by simpa using z, fun i t ht => (tk i t ht).keep u⟩
    obtain ⟨x, off, ea, hc⟩ := A.cell j hj
    refine ⟨x, off, ea, ?_⟩
    have := (g4 x off ea).1
    rw [World.cell?_setCell_other _ _ _ _ (by intro h; simp only [Addr.mk.injEq] at h; omega)]
    exact hc
end Go.Proofs.YtajpeeccomgnnaaGreatDoor
