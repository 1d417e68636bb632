/-
  A region that draws its order: where two or three operations may come next; and slices that lie off a block. No condition.
-/
import Derived.Test.YticfggljaagcmaaDoorRegT
import Derived.Test.YticfggljaagcmaaDoorDivMod
namespace Go.Proofs.YticfggljaagcmaaDoor
set_option linter.all false
open Go Go.RowKit
section
variable {P : Program} {ops : Array Oper} {Q : Exit → Act → World → Prop} {md : Region.Mode} {S : World → Prop} {T : Nat → Bool}
theorem anyT_two {i j : Nat} {oi oj : Oper} {m : Nat} {L : Array Bool} {a : Act} {w : World} (hr : Region.ready md ops L = [i, j]) (hoi : ops[i]? = some oi) (hoj : ops[j]? = some oj)
    (h1 : ∀ K : Act → World → Prop, Shut (∀ b v, (T i = false → S v) → anyT P md ops Q S T m (L.setIfInBounds i true) b v → K b v) → if Region.wanted oi (yielded ops a.tmps) = true then Oper.wp P oi a w K Q else K (a.put oi.dst undef) w)
    (h2 : ∀ K : Act → World → Prop, Shut (∀ b v, (T j = false → S v) → anyT P md ops Q S T m (L.setIfInBounds j true) b v → K b v) → if Region.wanted oj (yielded ops a.tmps) = true then Oper.wp P oj a w K Q else K (a.put oj.dst undef) w) :
    anyT P md ops Q S T (m + 1) L a w :=
  ⟨fun h0 => (by rw [hr] at h0; cases h0), fun k hk => by
    rw [hr] at hk
    simp only [List.mem_cons, List.not_mem_nil, or_false] at hk
    rcases hk with rfl | rfl
    · exact wpOp_step hoi (fun K hK => h1 K (fun b v hS hA => hK b v ⟨hS, hA⟩))
    · exact wpOp_step hoj (fun K hK => h2 K (fun b v hS hA => hK b v ⟨hS, hA⟩))⟩
theorem anyT_three {i j k : Nat} {oi oj ok : Oper} {m : Nat} {L : Array Bool} {a : Act} {w : World} (hr : Region.ready md ops L = [i, j, k]) (hoi : ops[i]? = some oi) (hoj : ops[j]? = some oj) (hok : ops[k]? = some ok)
    (h1 : ∀ K : Act → World → Prop, Shut (∀ b v, (T i = false → S v) → anyT P md ops Q S T m (L.setIfInBounds i true) b v → K b v) → if Region.wanted oi (yielded ops a.tmps) = true then Oper.wp P oi a w K Q else K (a.put oi.dst undef) w)
    (h2 : ∀ K : Act → World → Prop, Shut (∀ b v, (T j = false → S v) → anyT P md ops Q S T m (L.setIfInBounds j true) b v → K b v) → if Region.wanted oj (yielded ops a.tmps) = true then Oper.wp P oj a w K Q else K (a.put oj.dst undef) w)
    (h3 : ∀ K : Act → World → Prop, Shut (∀ b v, (T k = false → S v) → anyT P md ops Q S T m (L.setIfInBounds k true) b v → K b v) → if Region.wanted ok (yielded ops a.tmps) = true then Oper.wp P ok a w K Q else K (a.put ok.dst undef) w) :
    anyT P md ops Q S T (m + 1) L a w :=
  ⟨fun h0 => (by rw [hr] at h0; cases h0), fun l hl => by
    rw [hr] at hl
    simp only [List.mem_cons, List.not_mem_nil, or_false] at hl
    rcases hl with rfl | rfl | rfl
    · exact wpOp_step hoi (fun K hK => h1 K (fun b v hS hA => hK b v ⟨hS, hA⟩))
    · exact wpOp_step hoj (fun K hK => h2 K (fun b v hS hA => hK b v ⟨hS, hA⟩))
    · exact wpOp_step hok (fun K hK => h3 K (fun b v hS hA => hK b v ⟨hS, hA⟩))⟩
end
/-- A slice lies off a block. -/
def Off (a : Option Addr) (c k : Nat) : Prop := ∀ b off, a = some ⟨b, off, none⟩ → 0 < c → b ≠ k
theorem Off.new {w : World} {a : Option Addr} {c base k : Nat} (u : New w base a c) (h : k < base) : Off a c k := by
  intro b off e hc
  obtain ⟨b', off', e', h1, _⟩ := u 0 hc
  rw [e] at e'
  simp only [Option.some.injEq, Addr.mk.injEq, and_true] at e'
  omega
theorem Off.us {w : World} {a : Option Addr} {n c k : Nat} {f : Nat → Nat} (u : Us w a n c f) (h : w.heap.size ≤ k) : Off a c k := by
  intro b off e hc
  have := u.lt e hc
  omega
theorem us_off {w : World} {a : Option Addr} {n c k : Nat} {f : Nat → Nat} (u : Us w a n c f) (h : Off a c k) (x y : Value) : Us ((w.setCell ⟨k, 0, none⟩ x).setCell ⟨k, 1, none⟩ y) a n c f :=
  ⟨u.le, u.mx, u.lm, fun i hi => by
    obtain ⟨b, off, e, hc⟩ := u.cell i hi
    have hk := h b off e (by omega)
    refine ⟨b, off, e, ?_⟩
    rw [World.cell?_setCell_other _ _ _ _ (by intro h; simp only [Addr.mk.injEq] at h; omega), World.cell?_setCell_other _ _ _ _ (by intro h; simp only [Addr.mk.injEq] at h; omega)]
    exact hc⟩
theorem bx_off {w : World} {j k : Nat} {x0 x1 : Value} (u : Bx w j x0 x1) (h : k ≠ j) (x y : Value) : Bx ((w.setCell ⟨k, 0, none⟩ x).setCell ⟨k, 1, none⟩ y) j x0 x1 := (u.other h x).other h y
theorem below_put2 {B : Nat} {w w' : World} (h : Below B w w') {k : Nat} (hk : B ≤ k) (x y : Value) : Below B w ((w'.setCell ⟨k, 0, none⟩ x).setCell ⟨k, 1, none⟩ y) := (h.setCell hk x).setCell hk y
end Go.Proofs.YticfggljaagcmaaDoor
