/-
  A result's frame: the parser has read on, the result's cells are known. Plain.
-/
import Derived.Test.YtkblonfmjlopaaaGreatDoorSyRet
import Derived.Test.YtkblonfmjlopaaaGreatDoorSyLs
import Derived.RangeFuncBox
import Derived.RangeFuncLeaves
import Derived.RangeFuncWrites
import Derived.Shelf.Abstract
import Derived.WalkKit
import Derived.OwnWalkIn
import Derived.TacticsInMore
import Derived.LoopNIn
import Derived.LoopIn
import Derived.Test.YtkblonfmjlopaaaGreatDoorLxTok
import Derived.OrdersHeld
import Derived.OrdersIn
import Derived.TacticsIn
set_option linter.all false
set_option maxRecDepth 1000000
set_option maxHeartbeats 16000000
namespace Go.Proofs.YtkblonfmjlopaaaGreatDoor
open Go Go.RowKit
structure RFr (G : Gh) (M : Nat → Prop) (na : Option Addr) (nc : Nat) (fa : Option Addr) (fc : Nat) (Z : Array Value) (w : World) (rb : Nat) (s : PSt) (w3 : World) (s1 : PSt) : Prop where
  kn : Kn G.B M w w3
  ps : PS G M na nc fa fc w3 s1
  sc : s1.sc = s.sc
  mono : s.i ≤ s1.i
  res : BxC w3 rb Z
  lo : w.heap.size ≤ rb
  hB : G.B ≤ w.heap.size
  mw : ∀ k, M k → k < w.heap.size
section
variable {G : Gh} {M : Nat → Prop} {na : Option Addr} {nc : Nat} {fa : Option Addr} {fc : Nat} {Z : Array Value} {w w2 w3 w4 : World} {rb : Nat} {s s1 s4 : PSt}
theorem RFr.start (hP : PS G M na nc fa fc w s) (T : TypeId) : RFr G M na nc fa fc Z w w.heap.size s (w.alloc (.cells Z T)) s :=
  ⟨Kn.of (below_alloc w _) hP.bB, hP.alloc _, rfl, Nat.le_refl _, BxC.new w Z T, Nat.le_refl _, hP.bB, fun k hk => (hP.mB k hk).2⟩
theorem RFr.start2 (hP : PS G M na nc fa fc w s) (hb : Below w.heap.size w w2) (T : TypeId) : RFr G M na nc fa fc Z w w2.heap.size s (w2.alloc (.cells Z T)) s :=
  ⟨Kn.of (hb.trans ((below_alloc w2 _).mono hb.size)) hP.bB, (hP.new hb).alloc _, rfl, Nat.le_refl _, BxC.new w2 Z T, hb.size, hP.bB, fun k hk => (hP.mB k hk).2⟩
theorem RFr.nm (h : RFr G M na nc fa fc Z w rb s w3 s1) : ¬ M rb := fun q => by have := h.mw _ q; have := h.lo; omega
theorem RFr.go (h : RFr G M na nc fa fc Z w rb s w3 s1) (hk : Kn G.B M w3 w4) (hP : PS G M na nc fa fc w4 s4) (hsc : s4.sc = s1.sc) (hi : s1.i ≤ s4.i) : RFr G M na nc fa fc Z w rb s w4 s4 :=
  ⟨h.kn.go hk, hP, hsc.trans h.sc, Nat.le_trans h.mono hi, h.res.kn hk h.nm, h.lo, h.hB, h.mw⟩
theorem RFr.below (h : RFr G M na nc fa fc Z w rb s w3 s1) (hb : Below w3.heap.size w3 w4) : RFr G M na nc fa fc Z w rb s w4 s1 :=
  h.go (Kn.of hb h.ps.bB) (h.ps.new hb) rfl (Nat.le_refl _)
theorem RFr.drew (h : RFr G M na nc fa fc Z w rb s w3 s1) : RFr G M na nc fa fc Z w rb s w3.drew s1 := h.below (Below.refl _ _).drew
theorem RFr.lt (h : RFr G M na nc fa fc Z w rb s w3 s1) : rb < w3.heap.size := h.res.1
theorem RFr.step (h : RFr G M na nc fa fc Z w rb s w3 s1) (hi : s1.i < G.X.ts.length) : RFr G M na nc fa fc Z w rb s (w3.setCell ⟨G.bp, 1, none⟩ (.int .i64 ((s1.i : Int) + 1))) { s1 with i := s1.i + 1 } :=
  h.go (((Kn.refl G.B (Jp G) w3).step h.ps rfl _).jp h.ps.mp) (h.ps.step1 hi) rfl (Nat.le_succ _)
theorem BxC.set1 {kb : Nat} {cs : Array Value} (h : BxC w kb cs) (j : Nat) (hj : j < cs.size) (v : Value) : BxC (w.setCell ⟨kb, j, none⟩ v) kb (cs.setIfInBounds j v) := by
  refine ⟨by simpa [World.setCell] using h.1, fun o => by simpa using h.2.1 o, fun i hi => ?_⟩; have hi2 : i < cs.size := by simpa using hi
  unfold cellAt
  by_cases e : i = j
  · subst e; have h0 := h.2.2 i hi2; rw [Nat.zero_add] at h0 ⊢; rw [World.cell?_setCell_same _ _ _ h0]; simp [hj]
  · rw [World.cell?_setCell_other _ _ _ _ (by intro q; simp at q; try omega), h.2.2 i hi2]
    unfold cellAt
    have : (cs.setIfInBounds j v)[i]! = cs[i]! := by
      simp [hi2, Array.getElem_setIfInBounds, Ne.symm e]
    rw [this]
theorem RFr.set1 (h : RFr G M na nc fa fc Z w rb s w3 s1) (j : Nat) (hj : j < Z.size) (v : Value) : RFr G M na nc fa fc (Z.setIfInBounds j v) w rb s (w3.setCell ⟨rb, j, none⟩ v) s1 := by
  have hlo := h.lo; have hB := h.hB; have hb : Below rb w3 (w3.setCell ⟨rb, j, none⟩ v) := Below.setCell (Below.refl _ _) (p := ⟨rb, j, none⟩) (Nat.le_refl rb) v; exact ⟨h.kn.low hb (by omega) hlo, h.ps.set (by show G.B ≤ rb; omega) h.nm v, h.sc, h.mono, h.res.set1 j hj v, hlo, hB, h.mw⟩
end
theorem ret2Exp {G : Gh} {M : Nat → Prop} {na : Option Addr} {nc : Nat} {fa : Option Addr} {fc : Nat} {Z : Array Value} {w w3 : World} {rb : Nat} {s s1 : PSt} {nd : Nd} {F : Nat → Prop} {x0 : Int} {x1 : ByteArray} {x2 : Bool} {Vg : Option Addr} {Vi Vh : Nat} {x4 : Int} {x5 : Int} {x6 : ByteArray} {Vp : Option Addr} {Vr Vq : Nat} {Vs : Option Addr} {Vu Vt : Nat} {Vv : Option Addr} {Vx Vw : Nat} {Vy : Option Addr} {VA Vz : Nat} {VB : Option Addr} {VD VC : Nat} (h : RFr G M na nc fa fc Z w rb s w3 s1) (hZ : Z.size = 12)
    (hr : RepR w3 F nd [.int .i64 x0, .string x1, .bool x2, .slice Vg Vi Vh, .int .i64 x4, .int .u64 x5, .string x6, .slice Vp Vr Vq, .slice Vs Vu Vt, .slice Vv Vx Vw, .slice Vy VA Vz, .slice VB VD VC]) (hF : ∀ b, F b → b < G.B ∨ (w.heap.size ≤ b ∧ b < w3.heap.size ∧ b ≠ rb)) :
    BxC (w3.setCells rb 0 [.int .i64 x0, .string x1, .bool x2, .slice Vg Vi Vh, .int .i64 x4, .int .u64 x5, .string x6, .slice Vp Vr Vq, .slice Vs Vu Vt, .slice Vv Vx Vw, .slice Vy VA Vz, .slice VB VD VC]) rb #[.int .i64 x0, .string x1, .bool x2, .slice Vg Vi Vh, .int .i64 x4, .int .u64 x5, .string x6, .slice Vp Vr Vq, .slice Vs Vu Vt, .slice Vv Vx Vw, .slice Vy VA Vz, .slice VB VD VC] ∧ PN G M na nc fa fc IsExp w s (.ok (nd, s1)) (.returned (.agg #[.int .i64 x0, .string x1, .bool x2, .slice Vg Vi Vh, .int .i64 x4, .int .u64 x5, .string x6, .slice Vp Vr Vq, .slice Vs Vu Vt, .slice Vv Vx Vw, .slice Vy VA Vz, .slice VB VD VC])) (w3.setCells rb 0 [.int .i64 x0, .string x1, .bool x2, .slice Vg Vi Vh, .int .i64 x4, .int .u64 x5, .string x6, .slice Vp Vr Vq, .slice Vs Vu Vt, .slice Vv Vx Vw, .slice Vy VA Vz, .slice VB VD VC]) := by
  obtain ⟨g1, g2, g3, g4⟩ := h.res.store [.int .i64 x0, .string x1, .bool x2, .slice Vg Vi Vh, .int .i64 x4, .int .u64 x5, .string x6, .slice Vp Vr Vq, .slice Vs Vu Vt, .slice Vv Vx Vw, .slice Vy VA Vz, .slice VB VD VC] (by rw [hZ]; rfl); have hB := h.hB; have hw := h.kn.size; have hlo := h.lo; have hM : ∀ k, M k → (w3.setCells rb 0 [.int .i64 x0, .string x1, .bool x2, .slice Vg Vi Vh, .int .i64 x4, .int .u64 x5, .string x6, .slice Vp Vr Vq, .slice Vs Vu Vt, .slice Vv Vx Vw, .slice Vy VA Vz, .slice VB VD VC]).heap[k]? = w3.heap[k]? := fun k hk => g2 k (fun e => by have := h.mw _ hk; omega); refine ⟨g1, h.kn.low g4 (by omega) hlo, h.sc, h.mono, h.ps.keep (g4.mono (by omega)) hM, _, rfl, x0, x1, x2, Vg, Vi, Vh, x4, x5, x6, Vp, Vr, Vq, Vs, Vu, Vt, Vv, Vx, Vw, Vy, VA, Vz, VB, VD, VC, rfl, hr.on (fun b hb => g2 b ?_) (fun b hb => (hF b hb).imp id fun q => ⟨by omega, by rw [g3]; exact q.2.1, fun q => q⟩)⟩
  rcases hF b hb with q | q <;> omega
theorem ret2Pat {G : Gh} {M : Nat → Prop} {na : Option Addr} {nc : Nat} {fa : Option Addr} {fc : Nat} {Z : Array Value} {w w3 : World} {rb : Nat} {s s1 : PSt} {nd : Nd} {F : Nat → Prop} {x0 : Int} {x1 : ByteArray} {x2 : Bool} {Vg : Option Addr} {Vi Vh : Nat} {x4 : Int} {x5 : ByteArray} {Vm : Option Addr} {Vo Vn : Nat} {Vp : Option Addr} {Vr Vq : Nat} {Vs : Option Addr} {Vu Vt : Nat} (h : RFr G M na nc fa fc Z w rb s w3 s1) (hZ : Z.size = 9)
    (hr : RepR w3 F nd [.int .i64 x0, .string x1, .bool x2, .slice Vg Vi Vh, .int .i64 x4, .string x5, .slice Vm Vo Vn, .slice Vp Vr Vq, .slice Vs Vu Vt]) (hF : ∀ b, F b → b < G.B ∨ (w.heap.size ≤ b ∧ b < w3.heap.size ∧ b ≠ rb)) :
    BxC (w3.setCells rb 0 [.int .i64 x0, .string x1, .bool x2, .slice Vg Vi Vh, .int .i64 x4, .string x5, .slice Vm Vo Vn, .slice Vp Vr Vq, .slice Vs Vu Vt]) rb #[.int .i64 x0, .string x1, .bool x2, .slice Vg Vi Vh, .int .i64 x4, .string x5, .slice Vm Vo Vn, .slice Vp Vr Vq, .slice Vs Vu Vt] ∧ PN G M na nc fa fc IsPat w s (.ok (nd, s1)) (.returned (.agg #[.int .i64 x0, .string x1, .bool x2, .slice Vg Vi Vh, .int .i64 x4, .string x5, .slice Vm Vo Vn, .slice Vp Vr Vq, .slice Vs Vu Vt])) (w3.setCells rb 0 [.int .i64 x0, .string x1, .bool x2, .slice Vg Vi Vh, .int .i64 x4, .string x5, .slice Vm Vo Vn, .slice Vp Vr Vq, .slice Vs Vu Vt]) := by
  obtain ⟨g1, g2, g3, g4⟩ := h.res.store [.int .i64 x0, .string x1, .bool x2, .slice Vg Vi Vh, .int .i64 x4, .string x5, .slice Vm Vo Vn, .slice Vp Vr Vq, .slice Vs Vu Vt] (by rw [hZ]; rfl); have hB := h.hB; have hw := h.kn.size; have hlo := h.lo; have hM : ∀ k, M k → (w3.setCells rb 0 [.int .i64 x0, .string x1, .bool x2, .slice Vg Vi Vh, .int .i64 x4, .string x5, .slice Vm Vo Vn, .slice Vp Vr Vq, .slice Vs Vu Vt]).heap[k]? = w3.heap[k]? := fun k hk => g2 k (fun e => by have := h.mw _ hk; omega); refine ⟨g1, h.kn.low g4 (by omega) hlo, h.sc, h.mono, h.ps.keep (g4.mono (by omega)) hM, _, rfl, x0, x1, x2, Vg, Vi, Vh, x4, x5, Vm, Vo, Vn, Vp, Vr, Vq, Vs, Vu, Vt, rfl, hr.on (fun b hb => g2 b ?_) (fun b hb => (hF b hb).imp id fun q => ⟨by omega, by rw [g3]; exact q.2.1, fun q => q⟩)⟩
  rcases hF b hb with q | q <;> omega
theorem ret2Dec {G : Gh} {M : Nat → Prop} {na : Option Addr} {nc : Nat} {fa : Option Addr} {fc : Nat} {Z : Array Value} {w w3 : World} {rb : Nat} {s s1 : PSt} {nd : Nd} {F : Nat → Prop} {x0 : Int} {x1 : ByteArray} {Vd : Option Addr} {Vf Ve : Nat} {x3 : Int} {x4 : Bool} {x5 : Bool} {Vm : Option Addr} {Vo Vn : Nat} {Vp : Option Addr} {Vr Vq : Nat} {Vs : Option Addr} {Vu Vt : Nat} {Vv : Option Addr} {Vx Vw : Nat} {Vy : Option Addr} {VA Vz : Nat} {VB : Option Addr} {VD VC : Nat} {VE : Option Addr} {VG VF : Nat} {VH : Option Addr} {VJ VI : Nat} (h : RFr G M na nc fa fc Z w rb s w3 s1) (hZ : Z.size = 14)
    (hr : RepR w3 F nd [.int .i64 x0, .string x1, .slice Vd Vf Ve, .int .i64 x3, .bool x4, .bool x5, .slice Vm Vo Vn, .slice Vp Vr Vq, .slice Vs Vu Vt, .slice Vv Vx Vw, .slice Vy VA Vz, .slice VB VD VC, .slice VE VG VF, .slice VH VJ VI]) (hF : ∀ b, F b → b < G.B ∨ (w.heap.size ≤ b ∧ b < w3.heap.size ∧ b ≠ rb)) :
    BxC (w3.setCells rb 0 [.int .i64 x0, .string x1, .slice Vd Vf Ve, .int .i64 x3, .bool x4, .bool x5, .slice Vm Vo Vn, .slice Vp Vr Vq, .slice Vs Vu Vt, .slice Vv Vx Vw, .slice Vy VA Vz, .slice VB VD VC, .slice VE VG VF, .slice VH VJ VI]) rb #[.int .i64 x0, .string x1, .slice Vd Vf Ve, .int .i64 x3, .bool x4, .bool x5, .slice Vm Vo Vn, .slice Vp Vr Vq, .slice Vs Vu Vt, .slice Vv Vx Vw, .slice Vy VA Vz, .slice VB VD VC, .slice VE VG VF, .slice VH VJ VI] ∧ PN G M na nc fa fc IsDec w s (.ok (nd, s1)) (.returned (.agg #[.int .i64 x0, .string x1, .slice Vd Vf Ve, .int .i64 x3, .bool x4, .bool x5, .slice Vm Vo Vn, .slice Vp Vr Vq, .slice Vs Vu Vt, .slice Vv Vx Vw, .slice Vy VA Vz, .slice VB VD VC, .slice VE VG VF, .slice VH VJ VI])) (w3.setCells rb 0 [.int .i64 x0, .string x1, .slice Vd Vf Ve, .int .i64 x3, .bool x4, .bool x5, .slice Vm Vo Vn, .slice Vp Vr Vq, .slice Vs Vu Vt, .slice Vv Vx Vw, .slice Vy VA Vz, .slice VB VD VC, .slice VE VG VF, .slice VH VJ VI]) := by
  obtain ⟨g1, g2, g3, g4⟩ := h.res.store [.int .i64 x0, .string x1, .slice Vd Vf Ve, .int .i64 x3, .bool x4, .bool x5, .slice Vm Vo Vn, .slice Vp Vr Vq, .slice Vs Vu Vt, .slice Vv Vx Vw, .slice Vy VA Vz, .slice VB VD VC, .slice VE VG VF, .slice VH VJ VI] (by rw [hZ]; rfl); have hB := h.hB; have hw := h.kn.size; have hlo := h.lo; have hM : ∀ k, M k → (w3.setCells rb 0 [.int .i64 x0, .string x1, .slice Vd Vf Ve, .int .i64 x3, .bool x4, .bool x5, .slice Vm Vo Vn, .slice Vp Vr Vq, .slice Vs Vu Vt, .slice Vv Vx Vw, .slice Vy VA Vz, .slice VB VD VC, .slice VE VG VF, .slice VH VJ VI]).heap[k]? = w3.heap[k]? := fun k hk => g2 k (fun e => by have := h.mw _ hk; omega); refine ⟨g1, h.kn.low g4 (by omega) hlo, h.sc, h.mono, h.ps.keep (g4.mono (by omega)) hM, _, rfl, x0, x1, Vd, Vf, Ve, x3, x4, x5, Vm, Vo, Vn, Vp, Vr, Vq, Vs, Vu, Vt, Vv, Vx, Vw, Vy, VA, Vz, VB, VD, VC, VE, VG, VF, VH, VJ, VI, rfl, hr.on (fun b hb => g2 b ?_) (fun b hb => (hF b hb).imp id fun q => ⟨by omega, by rw [g3]; exact q.2.1, fun q => q⟩)⟩
  rcases hF b hb with q | q <;> omega
theorem ret2Fun {G : Gh} {M : Nat → Prop} {na : Option Addr} {nc : Nat} {fa : Option Addr} {fc : Nat} {Z : Array Value} {w w3 : World} {rb : Nat} {s s1 : PSt} {nd : Nd} {F : Nat → Prop} {x0 : ByteArray} {x1 : Int} {Vd : Option Addr} {Vf Ve : Nat} (h : RFr G M na nc fa fc Z w rb s w3 s1) (hZ : Z.size = 3)
    (hr : RepR w3 F nd [.string x0, .int .i64 x1, .slice Vd Vf Ve]) (hF : ∀ b, F b → b < G.B ∨ (w.heap.size ≤ b ∧ b < w3.heap.size ∧ b ≠ rb)) :
    BxC (w3.setCells rb 0 [.string x0, .int .i64 x1, .slice Vd Vf Ve]) rb #[.string x0, .int .i64 x1, .slice Vd Vf Ve] ∧ PN G M na nc fa fc IsFun w s (.ok (nd, s1)) (.returned (.agg #[.string x0, .int .i64 x1, .slice Vd Vf Ve])) (w3.setCells rb 0 [.string x0, .int .i64 x1, .slice Vd Vf Ve]) := by
  obtain ⟨g1, g2, g3, g4⟩ := h.res.store [.string x0, .int .i64 x1, .slice Vd Vf Ve] (by rw [hZ]; rfl); have hB := h.hB; have hw := h.kn.size; have hlo := h.lo; have hM : ∀ k, M k → (w3.setCells rb 0 [.string x0, .int .i64 x1, .slice Vd Vf Ve]).heap[k]? = w3.heap[k]? := fun k hk => g2 k (fun e => by have := h.mw _ hk; omega); refine ⟨g1, h.kn.low g4 (by omega) hlo, h.sc, h.mono, h.ps.keep (g4.mono (by omega)) hM, _, rfl, x0, x1, Vd, Vf, Ve, rfl, hr.on (fun b hb => g2 b ?_) (fun b hb => (hF b hb).imp id fun q => ⟨by omega, by rw [g3]; exact q.2.1, fun q => q⟩)⟩
  rcases hF b hb with q | q <;> omega
section
open Go Go.RowKit Go.Shelf
attribute [local go_sem] Oper.semAt_some
def upto {α : Type} (f : Nat → α) (k : Nat) : List α := (List.range k).map f
theorem upto_succ {α : Type} (f : Nat → α) (k : Nat) : upto f (k + 1) = upto f k ++ [f k] := by simp [upto, List.range_succ]
theorem upto_length {α : Type} (f : Nat → α) (k : Nat) : (upto f k).length = k := by simp [upto]
abbrev Ix (m : Nat) := { i : Nat // i < m + 1 }
def dn (m : Nat) (j : Nat) : Ix m := ⟨m - j, by omega⟩
theorem back1_in (F : Fence) (n : Nat) (h8 : F.fn 190) (hro : F.round = none) (hn : 1 ≤ n) (l Bs n₀ b off m cap : Nat) (nm : Nat → ByteArray) (hreach : m ≤ 1099511627776) (hb : b < n₀) (hBn : Bs < n₀) (J Jx : List (Ix m) → World → Prop)
    (hY : ∀ pre x W, J pre W → pre.length < m + 1 → YieldAt F (n - 1) Tryz.prog l #[.int .i64 (x.1 : Int), .string (nm x.1)] W fun e W' =>
      (e = .returned (.bool true) ∧ J (pre ++ [x]) W' ∧ Below n₀ W W') ∨ (e = .returned (.bool false) ∧ Jx (pre ++ [x]) W'))
    (W : World) (hBs : W.cell? ⟨Bs, 0, none⟩ = some (.slice (some ⟨b, off, none⟩) (m + 1) cap)) (hc : ∀ j, j < m + 1 → W.cell? ⟨b, off + j, none⟩ = some (.string (nm j))) (h0 : J [] W) :
    CallsIn F n Tryz.prog 190 #[.func (.yield l) #[] #[], .pointer (some ⟨Bs, 0, none⟩)] W fun e W' => (∃ v, e = .returned v) ∧
      ((∃ ys, ys = upto (dn m) (m + 1) ∧ J ys W') ∨ (∃ pre, (∃ k, k ≤ m + 1 ∧ pre = upto (dn m) k) ∧ Jx pre W')) := by
  refine callsIn_of_wp Tryz.func190 rfl h8 ?_ hro; simp only [Tryz.ntmps190, List.size_toArray, List.length_cons, List.length_nil, Nat.reduceAdd, Nat.reduceSub, Array.replicate_succ, Array.replicate_zero, List.push_toArray, List.append_toArray, List.nil_append, List.cons_append]
  gi_wp2
  gi_loopw [3] (fun i wr => ∃ k : Nat, k ≤ m + 1 ∧ i = .int .i64 ((m : Int) - (k : Int)) ∧ J (upto (dn m) k) wr ∧ Below n₀ W wr)
    (fun i _ => (intOf i + 1).toNat)
  case atStart => exact ⟨0, Nat.zero_le _, by simp, h0, Below.refl _ _⟩
  case round =>
    obtain ⟨k, hk, rfl, hJs, hnx⟩ := hrel
    by_cases hlt : k < m + 1
    · have hcx : wr.cell? ⟨b, off + (m - k), none⟩ = some (.string (nm (m - k))) := (hnx.cell (p := ⟨b, off + (m - k), none⟩) hb).trans (hc _ (by omega)); have hbx : wr.cell? ⟨Bs, 0, none⟩ = some (.slice (some ⟨b, off, none⟩) (m + 1) cap) := (hnx.cell (p := ⟨Bs, 0, none⟩) hBn).trans hBs; obtain ⟨fn, tmps, assign, body, hy, hR⟩ := hY _ (dn m k) wr hJs (by rw [upto_length]; exact hlt); obtain ⟨q, hq⟩ : ∃ q, q = m - k := ⟨_, rfl⟩; rw [← hq] at hcx; simp only [dn, ← hq] at hy; rw [show (m : Int) - (k : Int) = (q : Int) by omega]; have hqm : (q : Int) ≤ (m : Int) := by omega
      have hq1 : (q : Int) < (m : Int) + 1 := by omega
      have HQ := hid hq; have HJ := hid hJs; clear hq hJs
      gi_wp2
      refine hR.mono ?_; rintro e W3 (⟨rfl, hJ3, hk3⟩ | ⟨rfl, hJx3⟩)
      · gi_wp2
        go_roundw
        case rel => exact ⟨k + 1, by omega, congrArg (Value.int .i64) (by have := HQ.out; omega), by rw [upto_succ]; exact hJ3, hnx.trans hk3⟩
        case measure => simp [intOf] <;> omega
      · gi_wp2
        refine bodyPost_ret (results_none rfl _ _ _) rfl ?_; exact ⟨⟨_, rfl⟩, .inr ⟨_, ⟨k + 1, by omega, (upto_succ _ _).symm⟩, hJx3⟩⟩
    · obtain rfl : k = m + 1 := by omega
      rw [show (m : Int) - ((m + 1 : Nat) : Int) = -1 by omega]
      gi_wp2
      go_end0; exact ⟨⟨_, rfl⟩, .inl ⟨_, rfl, hJs⟩⟩
theorem back_in (F : Fence) (n : Nat) (h6 : F.fn 168) (hro : F.round = none) (a : Option Addr) (len cap : Nat) (w : World) :
    CallsIn F n Tryz.prog 168 #[.slice a len cap] w fun e w' => e = .returned (.func (.func 190) #[] #[.pointer (some ⟨w.heap.size, 0, none⟩)]) ∧ w' = w.alloc (.cells #[.slice a len cap] 33) := by
  refine callsIn_of_wp Tryz.func168 rfl h6 ?_ hro; simp only [Tryz.ntmps168, List.size_toArray, List.length_cons, List.length_nil, Nat.reduceAdd, Nat.reduceSub, Array.replicate_succ, Array.replicate_zero, List.push_toArray, List.append_toArray, List.nil_append, List.cons_append]
  gi_wp2
  go_ret; exact ⟨rfl, rfl⟩
theorem back_stops (F : Fence) (n : Nat) (h8 : F.fn 190) (hro : F.round = none) (hn : 1 ≤ n) (Bs n₀ b off m cap : Nat) (nm : Nat → ByteArray) (hreach : m ≤ 1099511627776) (w : World) (hBs : Bs < w.heap.size) (hn₀ : n₀ ≤ w.heap.size) (hb : b < n₀) (hBn : Bs < n₀)
    (hc : w.cell? ⟨Bs, 0, none⟩ = some (.slice (some ⟨b, off, none⟩) (m + 1) cap)) (hcs : ∀ j, j < m + 1 → w.cell? ⟨b, off + j, none⟩ = some (.string (nm j))) :
    SeqStopsK F n Tryz.prog 190 #[.pointer (some ⟨Bs, 0, none⟩)] (fun x : Ix m => #[Value.int .i64 (x.1 : Int), Value.string (nm x.1)]) (Below n₀) (fun ys => ys = upto (dn m) (m + 1))
      (fun pre => ∃ k, k ≤ m + 1 ∧ pre = upto (dn m) k) (m + 1) w := fun l J Jx W hW _ _ hY h0 =>
  back1_in F n h8 hro hn l Bs n₀ b off m cap nm hreach hb hBn J Jx hY W ((hW.cell (p := ⟨Bs, 0, none⟩) hBs).trans hc) (fun j hj => (hW.cell (p := ⟨b, off + j, none⟩) (by simp only; omega)).trans (hcs j hj)) h0
def fxV (sc : List Fx) (nm : List UInt8) : Int × Bool × Bool := match findS sc nm with | none => (0, false, false) | some g => (g.level, g.right, decide (0 ≤ g.level))
def nmAt (sc : List Fx) (i : Nat) : List UInt8 := ((sc[i]?).map Fx.name).getD []
theorem findS_snoc (sc : List Fx) (f : Fx) (nm : List UInt8) : findS (sc ++ [f]) nm = if f.name = nm then some f else findS sc nm := by
  unfold findS; rw [List.reverse_append]; simp only [List.reverse_cons, List.reverse_nil, List.nil_append, List.singleton_append, List.find?_cons]
  by_cases h : f.name = nm
  · simp [h]
  · have : (f.name == nm) = false := by simpa using h
    simp [this, h]
theorem findS_take (sc : List Fx) (nm : List UInt8) : ∀ k, k ≤ sc.length → (∀ i, sc.length - k ≤ i → i < sc.length → nmAt sc i ≠ nm) → findS sc nm = findS (sc.take (sc.length - k)) nm
  | 0, _, _ => by rw [Nat.sub_zero, List.take_length]
  | k + 1, hk, h => by
    rw [findS_take sc nm k (by omega) (fun i h1 h2 => h i (by omega) h2)]; have hlt : sc.length - (k + 1) < sc.length := by omega
    rw [show sc.length - k = sc.length - (k + 1) + 1 by omega, List.take_succ_eq_append_getElem hlt, findS_snoc, if_neg]; have := h (sc.length - (k + 1)) (Nat.le_refl _) hlt; unfold nmAt at this; rw [List.getElem?_eq_getElem hlt] at this; exact this
theorem findS_hit (sc : List Fx) (nm : List UInt8) (k : Nat) (f : Fx) (hk : k < sc.length) (h : ∀ i, sc.length - k ≤ i → i < sc.length → nmAt sc i ≠ nm) (hf : sc[sc.length - 1 - k]? = some f) (hn : f.name = nm) : findS sc nm = some f := by
  rw [findS_take sc nm k (by omega) h]; have hlt : sc.length - 1 - k < sc.length := by omega
  rw [show sc.length - k = sc.length - 1 - k + 1 by omega, List.take_succ_eq_append_getElem hlt, findS_snoc, if_pos]
  · rw [List.getElem?_eq_getElem hlt] at hf; exact hf
  · rw [List.getElem?_eq_getElem hlt] at hf; rw [Option.some.inj hf]; exact hn
theorem findS_miss (sc : List Fx) (nm : List UInt8) (h : ∀ i, i < sc.length → nmAt sc i ≠ nm) : findS sc nm = none := by
  rw [findS_take sc nm sc.length (Nat.le_refl _) (fun i _ h2 => h i h2), Nat.sub_self]
  rfl
end
section
open Go
section
variable {F : Fence} {n : Nat} {P : Program} {ops : Array Oper} {Q : Exit → Act → World → Prop} {md : Region.Mode} {S : World → Prop} {T : Nat → Bool}
def noDefer (ops : Array Oper) : Bool := ops.all fun o => match o.op with | .defer _ => false | _ => true
theorem noDefer_sem (h : noDefer ops = true) {j : Nat} {o : Oper} (hj : ops[j]? = some o) (ro : Option Nat) (ρ : Operand → Value) : o.semAt ro ρ = execOp ρ o := by
  cases ro with
  | none => rfl
  | some l =>
    refine Oper.semAt_some l ρ o fun c hc => ?_; unfold noDefer at h; rw [Array.all_eq_true'] at h; have := h o (Array.mem_of_getElem? hj); rw [hc] at this; cases this
def anyI (F : Fence) (n : Nat) (P : Program) (md : Region.Mode) (ops : Array Oper) (Q : Exit → Act → World → Prop) (S : World → Prop) (T : Nat → Bool) : Nat → Array Bool → Act → World → Prop
  | 0, L, a, w => Region.ready md ops L = [] ∧ Q .normal a w
  | m + 1, L, a, w => (Region.ready md ops L = [] → Q .normal a w) ∧
    ∀ i ∈ Region.ready md ops L, wpOpIn F n P ops Q i (fun b v => (T i = false → S v) ∧ anyI F n P md ops Q S T m (L.setIfInBounds i true) b v) a w
theorem any_of_I : ∀ (m : Nat) (L : Array Bool) (a : Act) (w : World), anyI F n P md ops Q S T m L a w → wpAnyIn F n P md ops Q m L a w
  | 0, _, _, _, h => h
  | m + 1, _, _, _, h => ⟨h.1, fun i hi => wpOpIn_mono (fun a v k => any_of_I m _ a v k.2) (h.2 i hi)⟩
theorem yieldsIf_in {i : Nat} {o : Oper} {v : Value} {a : Act} (hF : ∀ f, F.fn f) (hd : noDefer ops = true) (hi : ops[i]? = some o) (hy : YieldsIf P ops S o v a)
    {K : Act → World → Prop} {w : World} (hS : S w) (h : K (a.put o.dst v) w) : wpOpIn F n P ops Q i K a w := by
  unfold wpOpIn; simp only [hi]
  rcases hy with ⟨hw, hv⟩ | ⟨hw, rfl⟩
  · simp only [hw, if_true, Oper.wpIn, noDefer_sem hd hi, hv w hS, Oper.uponIn]; exact ⟨fun f _ => hF f, h⟩
  · simp only [hw, Bool.false_eq_true, if_false]; exact ⟨fun f _ => hF f, h⟩
theorem wpOpIn_putIf {j : Nat} {oi oj : Oper} {v : Value} (hF : ∀ f, F.fn f) (hd : noDefer ops = true) (hj : ops[j]? = some oj) (hap : oi.apart ops oj = true)
    (hsi : ∀ cs b, oi.op ≠ .select cs b) (hsj : ∀ cs b, oj.op ≠ .select cs b)
    (hQ : ∀ c a w, Q (.panic c) (a.put oi.dst v) w → Q (.panic c) a w) {K : Act → World → Prop} {a : Act} {w : World}
    (hy : YieldsIf P ops S oi v a) (h : wpOpIn F n P ops Q j K (a.put oi.dst v) w) :
    wpOpIn F n P ops Q j (fun a' w' => YieldsIf P ops S oi v a' ∧ K (a'.put oi.dst v) w') a w := by
  obtain ⟨h1, h2, h3⟩ := Oper.apart_spec hap
  have keep : ∀ (a : Act), YieldsIf P ops S oi v a → ∀ u, YieldsIf P ops S oi v (a.put oj.dst u) := fun a hy u =>
    hy.of_same (execOp_put oi hsi a oj.dst u h3) (wanted_put oi a oj.dst u h3)
  have keepD : ∀ d, YieldsIf P ops S oi v { a with defers := d :: a.defers } := fun d => hy.of_same rfl rfl; have hj' := hj; unfold wpOpIn at *; simp only [hj] at h ⊢; rw [wanted_put oj a oi.dst v h1] at h
  split
  · rename_i hw; simp only [hw, if_true] at h; unfold Oper.wpIn at *; refine ⟨fun f _ => hF f, ?_⟩; have h := h.2; rw [noDefer_sem hd hj', execOp_put oj hsj a oi.dst v h1] at h; rw [noDefer_sem hd hj']; generalize (execOp a.eval oj).run P w = r at *; cases r with
    | ok x w' =>
      cases x <;> simp only [Oper.uponIn] at h ⊢
      case value u => exact ⟨keep a hy u, by rw [← Act.put_comm a v u h2]; exact h⟩
      case skip => exact ⟨keep a hy _, by rw [← Act.put_comm a v undef h2]; exact h⟩
      case defer d =>
        refine ⟨keep _ (keepD d) _, ?_⟩; rw [← Act.put_comm _ v undef h2, ← Act.put_defers]; exact h
      case enter f args =>
        refine ⟨h.1, CallsIn.mono h.2 fun e w'' he => ?_⟩; cases e with
        | returned u => exact ⟨keep a hy u, by rw [← Act.put_comm a v u h2]; exact he⟩
        | panicked c => exact hQ _ _ _ he
        | outgrown => exact he
      case row row args => exact ⟨h.1, RowsIn.mono h.2 fun u w'' he => ⟨keep a hy u, by rw [← Act.put_comm a v u h2]; exact he⟩⟩
      case round l f tmps assign body =>
        refine ⟨h.1, RoundIn.mono h.2 fun e w'' he => ?_⟩; cases e with
        | returned u => exact ⟨keep a hy u, by rw [← Act.put_comm a v u h2]; exact he⟩
        | panicked c => exact hQ _ _ _ he
        | outgrown => exact he
    | halt x w' =>
      cases x <;> simp only [Oper.uponIn] at h ⊢
      case panic u => exact hQ _ _ _ h
  · rename_i hw; simp only [hw] at h; exact ⟨fun f _ => hF f, keep a hy _, by rw [← Act.put_comm a v undef h2]; exact h.2⟩
theorem anyI_first {i : Nat} {oi : Oper} {v : Value} (hF : ∀ f, F.fn f) (hd : noDefer ops = true) (hi : ops[i]? = some oi) (hsel : ∀ (j : Nat) (o : Oper) cs b, ops[j]? = some o → o.op ≠ .select cs b)
    (hQ : ∀ c a w, Q (.panic c) (a.put oi.dst v) w → Q (.panic c) a w) (hw : waitT md ops T i = true) :
    ∀ (m : Nat) (L : Array Bool) (a : Act) (w : World),
      (∀ j oj, ops[j]? = some oj → j ≠ i → L.getD j true = false → (∀ e ∈ oj.after, Region.binds md e = true → e.on ≠ i) → oi.apart ops oj = true) →
      midT md ops L i = true → i ∈ Region.ready md ops L → YieldsIf P ops S oi v a → S w →
      anyI F n P md ops Q S T m (L.setIfInBounds i true) (a.put oi.dst v) w → anyI F n P md ops Q S T (m + 1) L a w := by
  intro m
  induction m with
  | zero =>
    intro L a w _ _ hr hy hS H; refine ⟨fun h => (by rw [h] at hr; cases hr), fun j hj => ?_⟩
    by_cases e : j = i
    · subst e; exact yieldsIf_in hF hd hi hy hS ⟨fun _ => hS, H⟩
    · have := ready_mono hj e; rw [H.1] at this; cases this
  | succ m ih =>
    intro L a w hfree hM hr hy hS H; refine ⟨fun h => (by rw [h] at hr; cases hr), fun j hj => ?_⟩
    by_cases e : j = i
    · subst e; exact yieldsIf_in hF hd hi hy hS ⟨fun _ => hS, H⟩
    · have h1 := H.2 j (ready_mono hj e); obtain ⟨hjun, oj, hoj, hall⟩ := mem_ready.1 hj
      have hnot : ∀ d ∈ oj.after, Region.binds md d = true → d.on ≠ i := fun d hd hb heq => by
        have k1 := hall d hd hb; have k0 := (mem_ready.1 hr).1; rw [heq] at k1
        rcases Nat.lt_or_ge i L.size with h' | h'
        · simp [h'] at k0 k1; rw [k0] at k1; cases k1
        · simp [Array.getElem?_eq_none h'] at k1
      have hT := waitT_spec hw hM hoj hnot (fun e he hb => (by have := hall e he hb; rcases hq : L[e.on]? with _ | q <;> simp [hq] at this ⊢; exact this))
      have h2 := wpOpIn_putIf hF hd hoj (hfree j oj hoj e hjun hnot) (fun cs b => hsel i oi cs b hi) (fun cs b => hsel j oj cs b hoj) hQ hy h1
      have hfree' : ∀ k ok, ops[k]? = some ok → k ≠ i → (L.setIfInBounds j true).getD k true = false →
          (∀ d ∈ ok.after, Region.binds md d = true → d.on ≠ i) → oi.apart ops ok = true := fun k ok hk hki hun hno => by
        refine hfree k ok hk hki ?_ hno
        by_cases hjk : j = k
        · subst hjk; exact hjun
        · rw [getD_set_ne true hjk] at hun; exact hun
      refine wpOpIn_mono (fun b x h3 => ⟨h3.2.1, ih (L.setIfInBounds j true) b x hfree' (midT_set hM (waitsT_no hoj hnot)) (ready_mono hr (Ne.symm e)) h3.1 (h3.2.1 hT) ?_⟩) h2; rw [Array.setIfInBounds_comm _ _ e]; exact h3.2.2
theorem anyI_take {i : Nat} {oi : Oper} {v : Value} {m : Nat} {L : Array Bool} {a : Act} {w : World} (hF : ∀ f, F.fn f) (hd : noDefer ops = true) (hi : ops[i]? = some oi)
    (hs : Region.noSelect ops = true) (hf : Region.free md ops L i = true) (hr : (Region.ready md ops L).contains i = true) (hw : waitT md ops T i = true) (hM : midT md ops L i = true)
    (hQ : ∀ c a w, Q (.panic c) (a.put oi.dst v) w → Q (.panic c) a w) (hy : YieldsIf P ops S oi v a) (hS : S w)
    (h : anyI F n P md ops Q S T m (L.setIfInBounds i true) (a.put oi.dst v) w) : anyI F n P md ops Q S T (m + 1) L a w :=
  anyI_first hF hd hi (Region.noSelect_spec hs) hQ hw m L a w (Region.free_spec hi hf) hM (by simpa using hr) hy hS h
theorem anyI_one {i : Nat} {o : Oper} {m : Nat} {L : Array Bool} {a : Act} {w : World} (hr : Region.ready md ops L = [i]) (ho : ops[i]? = some o)
    (h : ∀ K : Act → World → Prop, Shut (∀ b v, (T i = false → S v) → anyI F n P md ops Q S T m (L.setIfInBounds i true) b v → K b v) → if Region.wanted o (yielded ops a.tmps) = true then Oper.wpIn F n P o a w K Q else (∀ f, o.about P w a.eval = some f → F.fn f) ∧ K (a.put o.dst undef) w) :
    anyI F n P md ops Q S T (m + 1) L a w :=
  ⟨fun h0 => (by rw [hr] at h0; cases h0), fun j hj => by
    rw [hr] at hj; obtain rfl : j = i := by simpa using hj
    exact wpOpIn_step ho (fun K hK => h K (fun b v hS hA => hK b v ⟨hS, hA⟩))⟩
theorem anyI_done {L : Array Bool} {a : Act} {w : World} (hr : Region.ready md ops L = []) (h : Q .normal a w) : ∀ m, anyI F n P md ops Q S T m L a w
  | 0 => ⟨hr, h⟩
  | _ + 1 => ⟨fun _ => h, by rw [hr]; simp⟩
theorem region_I {id : Nat} {a : Act} {w : World} (hm : P.follows .mixedOrders = true)
    (h : anyI F n P .any ops Q S T ops.size (Array.replicate ops.size false) a w.drew) : (Code.region id ops true).wpIn F n P Q a w :=
  wpIn_region_any hm (any_of_I _ _ _ _ h)
end
end
end Go.Proofs.YtkblonfmjlopaaaGreatDoor
