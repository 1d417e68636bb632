/-
  BigReckons, walked.
-/
import Derived.Test.YticfggljaagcmaaDoorAwake
import Derived.Test.YticfggljaagcmaaDoorRInts2
namespace Go.Proofs.YticfggljaagcmaaDoor
set_option linter.all false
open Go.RowKit

set_option maxHeartbeats 16000000 in
set_option maxRecDepth 100000 in
theorem bigReckons_walk (sgA : Bool) (aA : Option Addr) (nA cA : Nat) (fA : Nat → Nat) (sgB : Bool) (aB : Option Addr) (nB cB : Nat) (fB : Nat → Nat) (w : World) (hA : nA ≤ 1048576) (UA : Us w aA nA cA fA) (hB : nB ≤ 1048576) (UB : Us w aB nB cB fB) :
    Calls Tryd.prog 7 #[.agg #[.bool sgA, .slice aA nA cA], .agg #[.bool sgB, .slice aB nB cB]] w fun e w' => e = .returned (.bool true) ∧ Below w.heap.size w w' := by
  have Hw := Below.refl w.heap.size w
  obtain ⟨A, VA⟩ : ∃ A : Int, Hid (ival sgA (val fA nA) = A) := ⟨_, hid rfl⟩
  obtain ⟨B, VB⟩ : ∃ B : Int, Hid (ival sgB (val fB nB) = B) := ⟨_, hid rfl⟩
  obtain ⟨sA, SA⟩ : ∃ s : Int, Hid (sgn A = s) := ⟨_, hid rfl⟩
  obtain ⟨cAB, CAB⟩ : ∃ s : Int, Hid (cmpI A B = s) := ⟨_, hid rfl⟩
  have BA : Bx (w.alloc (.cells #[.bool sgA, .slice aA nA cA] 24)) (w.heap.size) (.bool sgA) (.slice aA nA cA) := by exact Bx.made w (.bool sgA) (.slice aA nA cA) 24
  replace BA := BA.alloc (.cells #[.bool sgB, .slice aB nB cB] 24)
  have BB : Bx ((w.alloc (.cells #[.bool sgA, .slice aA nA cA] 24)).alloc (.cells #[.bool sgB, .slice aB nB cB] 24)) (w.heap.size + 1) (.bool sgB) (.slice aB nB cB) := by simpa using Bx.made (w.alloc (.cells #[.bool sgA, .slice aA nA cA] 24)) (.bool sgB) (.slice aB nB cB) 24
  replace UA := UA.alloc (.cells #[.bool sgA, .slice aA nA cA] 24)
  replace UA := UA.alloc (.cells #[.bool sgB, .slice aB nB cB] 24)
  replace UB := UB.alloc (.cells #[.bool sgA, .slice aA nA cA] 24)
  replace UB := UB.alloc (.cells #[.bool sgB, .slice aB nB cB] 24)
  replace Hw := Hw.alloc (Nat.le_refl _) (.cells #[.bool sgA, .slice aA nA cA] 24)
  replace Hw := Hw.alloc (by simp) (.cells #[.bool sgB, .slice aB nB cB] 24)
  go_enter Tryd.func7, Tryd.ntmps7
  go_wp2_with fail
  generalize ((w.alloc (.cells #[.bool sgA, .slice aA nA cA] 24)).alloc (.cells #[.bool sgB, .slice aB nB cB] 24)) = w1 at BA BB UA UB Hw ⊢
  refine (awake_any _).mono ?_
  rintro e w2 ⟨rfl, kb2⟩
  replace BA := BA.keep kb2
  replace BB := BB.keep kb2
  replace UA := UA.below kb2 (Nat.le_refl _)
  replace UB := UB.below kb2 (Nat.le_refl _)
  replace Hw := Hw.trans (kb2.mono Hw.size)
  clear kb2
  have rA0 := BA.c0
  have rA1 := BA.c1
  have rB0 := BB.c0
  have rB1 := BB.c1
  go_wp2_with fail
  clear rA0 rA1 rB0 rB1
  refine (sign_any _ _ _ _ _ _ (by omega) UA).mono ?_
  rintro e w3 ⟨rfl, kb3⟩
  rw [VA.out, SA.out]
  replace BA := BA.keep kb3
  replace BB := BB.keep kb3
  replace UA := UA.below kb3 (Nat.le_refl _)
  replace UB := UB.below kb3 (Nat.le_refl _)
  replace Hw := Hw.trans (kb3.mono Hw.size)
  clear kb3
  have rA0 := BA.c0
  have rA1 := BA.c1
  have rB0 := BB.c0
  have rB1 := BB.c1
  go_wp2_with fail
  clear rA0 rA1 rB0 rB1
  refine (cmp_any _ _ _ _ _ _ _ _ _ _ _ (by omega) (by omega) UA UB).mono ?_
  rintro e w4 ⟨rfl, kb4⟩
  rw [VA.out, VB.out, CAB.out]
  replace BA := BA.keep kb4
  replace BB := BB.keep kb4
  replace UA := UA.below kb4 (Nat.le_refl _)
  replace UB := UB.below kb4 (Nat.le_refl _)
  replace Hw := Hw.trans (kb4.mono Hw.size)
  clear kb4
  have rA0 := BA.c0
  have rA1 := BA.c1
  have rB0 := BB.c0
  have rB1 := BB.c1
  go_wp2_with fail
  clear rA0 rA1 rB0 rB1
  refine (neg_any _ _ _ _ _ _ (by omega) UA).mono ?_
  rintro e w5 ⟨sgng, ang, nng, cng, fng, rfl, k1, k2, kb5, k4, k5, k6, Lng⟩
  have Vng : Hid (ival sgng (val fng nng) = -A) := hid (by rw [k6, VA.out])
  have Mng := k4
  have Sng := hid k5
  clear k6 k5 k4 k2
  replace BA := BA.keep kb5
  replace BB := BB.keep kb5
  replace UA := UA.below kb5 (Nat.le_refl _)
  replace UB := UB.below kb5 (Nat.le_refl _)
  replace Hw := Hw.trans (kb5.mono Hw.size)
  have Ung := k1
  clear k1
  clear kb5
  have Nng := Bx.made w5 (.bool sgng) (.slice ang nng cng) 24
  replace BA := BA.alloc (.cells #[.bool sgng, .slice ang nng cng] 24)
  replace BB := BB.alloc (.cells #[.bool sgng, .slice ang nng cng] 24)
  replace UA := UA.alloc (.cells #[.bool sgng, .slice ang nng cng] 24)
  replace UB := UB.alloc (.cells #[.bool sgng, .slice ang nng cng] 24)
  replace Ung := Ung.alloc (.cells #[.bool sgng, .slice ang nng cng] 24)
  replace Hw := Hw.alloc Hw.size (.cells #[.bool sgng, .slice ang nng cng] 24)
  have Bng := Nng
  clear Nng
  have rA0 := BA.c0
  have rA1 := BA.c1
  have rB0 := BB.c0
  have rB1 := BB.c1
  have rng0 := Bng.c0
  have rng1 := Bng.c1
  go_wp2_with fail
  clear rA0 rA1 rB0 rB1 rng0 rng1
  generalize (w5.alloc (.cells #[.bool sgng, .slice ang nng cng] 24)) = w6 at BA BB Bng UA UB Ung Hw ⊢
  refine (abs_any _ _ _ _ _ _ (by omega) UA).mono ?_
  rintro e w7 ⟨sgmg, amg, nmg, cmg, fmg, rfl, k1, k2, kb7, k4, k5, k6, Lmg⟩
  have Vmg : Hid (ival sgmg (val fmg nmg) = ((val fA nA : Nat) : Int)) := hid (by rw [k6])
  have Mmg := k4
  have Smg := hid k5
  clear k6 k5 k4 k2
  replace BA := BA.keep kb7
  replace BB := BB.keep kb7
  replace Bng := Bng.keep kb7
  replace UA := UA.below kb7 (Nat.le_refl _)
  replace UB := UB.below kb7 (Nat.le_refl _)
  replace Ung := Ung.below kb7 (Nat.le_refl _)
  replace Hw := Hw.trans (kb7.mono Hw.size)
  have Umg := k1
  clear k1
  clear kb7
  have Nmg := Bx.made w7 (.bool sgmg) (.slice amg nmg cmg) 24
  replace BA := BA.alloc (.cells #[.bool sgmg, .slice amg nmg cmg] 24)
  replace BB := BB.alloc (.cells #[.bool sgmg, .slice amg nmg cmg] 24)
  replace Bng := Bng.alloc (.cells #[.bool sgmg, .slice amg nmg cmg] 24)
  replace UA := UA.alloc (.cells #[.bool sgmg, .slice amg nmg cmg] 24)
  replace UB := UB.alloc (.cells #[.bool sgmg, .slice amg nmg cmg] 24)
  replace Ung := Ung.alloc (.cells #[.bool sgmg, .slice amg nmg cmg] 24)
  replace Umg := Umg.alloc (.cells #[.bool sgmg, .slice amg nmg cmg] 24)
  replace Hw := Hw.alloc Hw.size (.cells #[.bool sgmg, .slice amg nmg cmg] 24)
  have Bmg := Nmg
  clear Nmg
  have rA0 := BA.c0
  have rA1 := BA.c1
  have rB0 := BB.c0
  have rB1 := BB.c1
  have rng0 := Bng.c0
  have rng1 := Bng.c1
  have rmg0 := Bmg.c0
  have rmg1 := Bmg.c1
  go_wp2_with fail
  clear rA0 rA1 rB0 rB1 rng0 rng1 rmg0 rmg1
  generalize (w7.alloc (.cells #[.bool sgmg, .slice amg nmg cmg] 24)) = w8 at BA BB Bng Bmg UA UB Ung Umg Hw ⊢
  refine (add_any _ _ _ _ _ _ _ _ _ _ _ (by omega) (by omega) UA UB).mono ?_
  rintro e w9 ⟨sgsu, asu, nsu, csu, fsu, rfl, k1, k2, kb9, k4, k5, k6, Lsu⟩
  have Vsu : Hid (ival sgsu (val fsu nsu) = A + B) := hid (by rw [k6, VA.out, VB.out])
  have Msu := k4
  have Ssu := hid k5
  clear k6 k5 k4 k2
  replace BA := BA.keep kb9
  replace BB := BB.keep kb9
  replace Bng := Bng.keep kb9
  replace Bmg := Bmg.keep kb9
  replace UA := UA.below kb9 (Nat.le_refl _)
  replace UB := UB.below kb9 (Nat.le_refl _)
  replace Ung := Ung.below kb9 (Nat.le_refl _)
  replace Umg := Umg.below kb9 (Nat.le_refl _)
  replace Hw := Hw.trans (kb9.mono Hw.size)
  have Usu := k1
  clear k1
  clear kb9
  have Nsu := Bx.made w9 (.bool sgsu) (.slice asu nsu csu) 24
  replace BA := BA.alloc (.cells #[.bool sgsu, .slice asu nsu csu] 24)
  replace BB := BB.alloc (.cells #[.bool sgsu, .slice asu nsu csu] 24)
  replace Bng := Bng.alloc (.cells #[.bool sgsu, .slice asu nsu csu] 24)
  replace Bmg := Bmg.alloc (.cells #[.bool sgsu, .slice asu nsu csu] 24)
  replace UA := UA.alloc (.cells #[.bool sgsu, .slice asu nsu csu] 24)
  replace UB := UB.alloc (.cells #[.bool sgsu, .slice asu nsu csu] 24)
  replace Ung := Ung.alloc (.cells #[.bool sgsu, .slice asu nsu csu] 24)
  replace Umg := Umg.alloc (.cells #[.bool sgsu, .slice asu nsu csu] 24)
  replace Usu := Usu.alloc (.cells #[.bool sgsu, .slice asu nsu csu] 24)
  replace Hw := Hw.alloc Hw.size (.cells #[.bool sgsu, .slice asu nsu csu] 24)
  have Bsu := Nsu
  clear Nsu
  have rA0 := BA.c0
  have rA1 := BA.c1
  have rB0 := BB.c0
  have rB1 := BB.c1
  have rng0 := Bng.c0
  have rng1 := Bng.c1
  have rmg0 := Bmg.c0
  have rmg1 := Bmg.c1
  have rsu0 := Bsu.c0
  have rsu1 := Bsu.c1
  go_wp2_with fail
  clear rA0 rA1 rB0 rB1 rng0 rng1 rmg0 rmg1 rsu0 rsu1
  generalize (w9.alloc (.cells #[.bool sgsu, .slice asu nsu csu] 24)) = w10 at BA BB Bng Bmg Bsu UA UB Ung Umg Usu Hw ⊢
  refine (sub_any _ _ _ _ _ _ _ _ _ _ _ (by omega) (by omega) UA UB).mono ?_
  rintro e w11 ⟨sgdi, adi, ndi, cdi, fdi, rfl, k1, k2, kb11, k4, k5, k6, Ldi⟩
  have Vdi : Hid (ival sgdi (val fdi ndi) = A - B) := hid (by rw [k6, VA.out, VB.out])
  have Mdi := k4
  have Sdi := hid k5
  clear k6 k5 k4 k2
  replace BA := BA.keep kb11
  replace BB := BB.keep kb11
  replace Bng := Bng.keep kb11
  replace Bmg := Bmg.keep kb11
  replace Bsu := Bsu.keep kb11
  replace UA := UA.below kb11 (Nat.le_refl _)
  replace UB := UB.below kb11 (Nat.le_refl _)
  replace Ung := Ung.below kb11 (Nat.le_refl _)
  replace Umg := Umg.below kb11 (Nat.le_refl _)
  replace Usu := Usu.below kb11 (Nat.le_refl _)
  replace Hw := Hw.trans (kb11.mono Hw.size)
  have Udi := k1
  clear k1
  clear kb11
  have Ndi := Bx.made w11 (.bool sgdi) (.slice adi ndi cdi) 24
  replace BA := BA.alloc (.cells #[.bool sgdi, .slice adi ndi cdi] 24)
  replace BB := BB.alloc (.cells #[.bool sgdi, .slice adi ndi cdi] 24)
  replace Bng := Bng.alloc (.cells #[.bool sgdi, .slice adi ndi cdi] 24)
  replace Bmg := Bmg.alloc (.cells #[.bool sgdi, .slice adi ndi cdi] 24)
  replace Bsu := Bsu.alloc (.cells #[.bool sgdi, .slice adi ndi cdi] 24)
  replace UA := UA.alloc (.cells #[.bool sgdi, .slice adi ndi cdi] 24)
  replace UB := UB.alloc (.cells #[.bool sgdi, .slice adi ndi cdi] 24)
  replace Ung := Ung.alloc (.cells #[.bool sgdi, .slice adi ndi cdi] 24)
  replace Umg := Umg.alloc (.cells #[.bool sgdi, .slice adi ndi cdi] 24)
  replace Usu := Usu.alloc (.cells #[.bool sgdi, .slice adi ndi cdi] 24)
  replace Udi := Udi.alloc (.cells #[.bool sgdi, .slice adi ndi cdi] 24)
  replace Hw := Hw.alloc Hw.size (.cells #[.bool sgdi, .slice adi ndi cdi] 24)
  have Bdi := Ndi
  clear Ndi
  have rA0 := BA.c0
  have rA1 := BA.c1
  have rB0 := BB.c0
  have rB1 := BB.c1
  have rng0 := Bng.c0
  have rng1 := Bng.c1
  have rmg0 := Bmg.c0
  have rmg1 := Bmg.c1
  have rsu0 := Bsu.c0
  have rsu1 := Bsu.c1
  have rdi0 := Bdi.c0
  have rdi1 := Bdi.c1
  go_wp2_with fail
  clear rA0 rA1 rB0 rB1 rng0 rng1 rmg0 rmg1 rsu0 rsu1 rdi0 rdi1
  generalize (w11.alloc (.cells #[.bool sgdi, .slice adi ndi cdi] 24)) = w12 at BA BB Bng Bmg Bsu Bdi UA UB Ung Umg Usu Udi Hw ⊢
  refine (mul_any _ _ _ _ _ _ _ _ _ _ _ (by omega) (by omega) UA UB).mono ?_
  rintro e w13 ⟨sgpr, apr, npr, cpr, fpr, rfl, k1, k2, kb13, k4, k5, k6, Lpr⟩
  have Vpr : Hid (ival sgpr (val fpr npr) = A * B) := hid (by rw [k6, VA.out, VB.out])
  have Mpr := k4
  have Spr := hid k5
  clear k6 k5 k4 k2
  replace BA := BA.keep kb13
  replace BB := BB.keep kb13
  replace Bng := Bng.keep kb13
  replace Bmg := Bmg.keep kb13
  replace Bsu := Bsu.keep kb13
  replace Bdi := Bdi.keep kb13
  replace UA := UA.below kb13 (Nat.le_refl _)
  replace UB := UB.below kb13 (Nat.le_refl _)
  replace Ung := Ung.below kb13 (Nat.le_refl _)
  replace Umg := Umg.below kb13 (Nat.le_refl _)
  replace Usu := Usu.below kb13 (Nat.le_refl _)
  replace Udi := Udi.below kb13 (Nat.le_refl _)
  replace Hw := Hw.trans (kb13.mono Hw.size)
  have Upr := k1
  clear k1
  clear kb13
  have Npr := Bx.made w13 (.bool sgpr) (.slice apr npr cpr) 24
  replace BA := BA.alloc (.cells #[.bool sgpr, .slice apr npr cpr] 24)
  replace BB := BB.alloc (.cells #[.bool sgpr, .slice apr npr cpr] 24)
  replace Bng := Bng.alloc (.cells #[.bool sgpr, .slice apr npr cpr] 24)
  replace Bmg := Bmg.alloc (.cells #[.bool sgpr, .slice apr npr cpr] 24)
  replace Bsu := Bsu.alloc (.cells #[.bool sgpr, .slice apr npr cpr] 24)
  replace Bdi := Bdi.alloc (.cells #[.bool sgpr, .slice apr npr cpr] 24)
  replace UA := UA.alloc (.cells #[.bool sgpr, .slice apr npr cpr] 24)
  replace UB := UB.alloc (.cells #[.bool sgpr, .slice apr npr cpr] 24)
  replace Ung := Ung.alloc (.cells #[.bool sgpr, .slice apr npr cpr] 24)
  replace Umg := Umg.alloc (.cells #[.bool sgpr, .slice apr npr cpr] 24)
  replace Usu := Usu.alloc (.cells #[.bool sgpr, .slice apr npr cpr] 24)
  replace Udi := Udi.alloc (.cells #[.bool sgpr, .slice apr npr cpr] 24)
  replace Upr := Upr.alloc (.cells #[.bool sgpr, .slice apr npr cpr] 24)
  replace Hw := Hw.alloc Hw.size (.cells #[.bool sgpr, .slice apr npr cpr] 24)
  have Bpr := Npr
  clear Npr
  have rA0 := BA.c0
  have rA1 := BA.c1
  have rB0 := BB.c0
  have rB1 := BB.c1
  have rng0 := Bng.c0
  have rng1 := Bng.c1
  have rmg0 := Bmg.c0
  have rmg1 := Bmg.c1
  have rsu0 := Bsu.c0
  have rsu1 := Bsu.c1
  have rdi0 := Bdi.c0
  have rdi1 := Bdi.c1
  have rpr0 := Bpr.c0
  have rpr1 := Bpr.c1
  go_wp2_with fail
  clear rA0 rA1 rB0 rB1 rng0 rng1 rmg0 rmg1 rsu0 rsu1 rdi0 rdi1 rpr0 rpr1
  generalize (w13.alloc (.cells #[.bool sgpr, .slice apr npr cpr] 24)) = w14 at BA BB Bng Bmg Bsu Bdi Bpr UA UB Ung Umg Usu Udi Upr Hw ⊢
  replace BA := BA.drew
  replace BB := BB.drew
  replace Bng := Bng.drew
  replace Bmg := Bmg.drew
  replace Bsu := Bsu.drew
  replace Bdi := Bdi.drew
  replace Bpr := Bpr.drew
  replace UA := UA.drew
  replace UB := UB.drew
  replace Ung := Ung.drew
  replace Umg := Umg.drew
  replace Usu := Usu.drew
  replace Udi := Udi.drew
  replace Upr := Upr.drew
  replace Hw := Hw.drew
  have tk1 : True := trivial
  have tk2 : True := trivial
  have tk3 : True := trivial
  have tk4 : True := trivial
  have tk5 : True := trivial
  have tk6 : True := trivial
  have tk7 : True := trivial
  have tk8 : True := trivial
  have tk9 : True := trivial
  have tk10 : True := trivial
  have tk11 : True := trivial
  have tk12 : True := trivial
  go_region_held3 (fun wx => (wx.cell? ⟨w.heap.size, 0, none⟩ = some (.bool sgA) ∧ wx.cell? ⟨w.heap.size, 1, none⟩ = some (.slice aA nA cA)) ∧ (wx.cell? ⟨w.heap.size + 1, 0, none⟩ = some (.bool sgB) ∧ wx.cell? ⟨w.heap.size + 1, 1, none⟩ = some (.slice aB nB cB)) ∧ (wx.cell? ⟨w5.heap.size, 0, none⟩ = some (.bool sgng) ∧ wx.cell? ⟨w5.heap.size, 1, none⟩ = some (.slice ang nng cng)) ∧ (wx.cell? ⟨w7.heap.size, 0, none⟩ = some (.bool sgmg) ∧ wx.cell? ⟨w7.heap.size, 1, none⟩ = some (.slice amg nmg cmg)) ∧ (wx.cell? ⟨w9.heap.size, 0, none⟩ = some (.bool sgsu) ∧ wx.cell? ⟨w9.heap.size, 1, none⟩ = some (.slice asu nsu csu)) ∧ (wx.cell? ⟨w11.heap.size, 0, none⟩ = some (.bool sgdi) ∧ wx.cell? ⟨w11.heap.size, 1, none⟩ = some (.slice adi ndi cdi)) ∧ (wx.cell? ⟨w13.heap.size, 0, none⟩ = some (.bool sgpr) ∧ wx.cell? ⟨w13.heap.size, 1, none⟩ = some (.slice apr npr cpr))) (with_reducible exact ⟨⟨BA.c0, BA.c1⟩, ⟨BB.c0, BB.c1⟩, ⟨Bng.c0, Bng.c1⟩, ⟨Bmg.c0, Bmg.c1⟩, ⟨Bsu.c0, Bsu.c1⟩, ⟨Bdi.c0, Bdi.c1⟩, ⟨Bpr.c0, Bpr.c1⟩⟩) (first | (have _t := tk1; go_at_call 30; refine (rsign_any _ _ _ _ _ _ (by omega) UA).mono ?_; rintro e w15 ⟨rfl, kb15⟩; rw [VA.out, SA.out]; replace BA := BA.keep kb15; replace BB := BB.keep kb15; replace Bng := Bng.keep kb15; replace Bmg := Bmg.keep kb15; replace Bsu := Bsu.keep kb15; replace Bdi := Bdi.keep kb15; replace Bpr := Bpr.keep kb15; replace UA := UA.below kb15 (Nat.le_refl _); replace UB := UB.below kb15 (Nat.le_refl _); replace Ung := Ung.below kb15 (Nat.le_refl _); replace Umg := Umg.below kb15 (Nat.le_refl _); replace Usu := Usu.below kb15 (Nat.le_refl _); replace Udi := Udi.below kb15 (Nat.le_refl _); replace Upr := Upr.below kb15 (Nat.le_refl _); replace Hw := Hw.trans (kb15.mono Hw.size); clear kb15; clear tk1) | (have _t := tk2; go_at_call 34; refine (rcmp_any _ _ _ _ _ _ _ _ _ _ _ (by omega) (by omega) UA UB).mono ?_; rintro e w16 ⟨rfl, kb16⟩; rw [VA.out, VB.out, CAB.out]; replace BA := BA.keep kb16; replace BB := BB.keep kb16; replace Bng := Bng.keep kb16; replace Bmg := Bmg.keep kb16; replace Bsu := Bsu.keep kb16; replace Bdi := Bdi.keep kb16; replace Bpr := Bpr.keep kb16; replace UA := UA.below kb16 (Nat.le_refl _); replace UB := UB.below kb16 (Nat.le_refl _); replace Ung := Ung.below kb16 (Nat.le_refl _); replace Umg := Umg.below kb16 (Nat.le_refl _); replace Usu := Usu.below kb16 (Nat.le_refl _); replace Udi := Udi.below kb16 (Nat.le_refl _); replace Upr := Upr.below kb16 (Nat.le_refl _); replace Hw := Hw.trans (kb16.mono Hw.size); clear kb16; clear tk2) | (have _t := tk3; go_at_call 35; refine (rneg_any _ _ _ _ _ _ (by omega) UA).mono ?_; rintro e w17 ⟨sgrn, arn, nrn, crn, frn, rfl, k1, k2, kb17, k4, k5, k6, Lrn⟩; have Vrn : Hid (ival sgrn (val frn nrn) = -A) := hid (by rw [k6, VA.out]); have Mrn := k4; have Srn := hid k5; clear k6 k5 k4 k2; replace BA := BA.keep kb17; replace BB := BB.keep kb17; replace Bng := Bng.keep kb17; replace Bmg := Bmg.keep kb17; replace Bsu := Bsu.keep kb17; replace Bdi := Bdi.keep kb17; replace Bpr := Bpr.keep kb17; replace UA := UA.below kb17 (Nat.le_refl _); replace UB := UB.below kb17 (Nat.le_refl _); replace Ung := Ung.below kb17 (Nat.le_refl _); replace Umg := Umg.below kb17 (Nat.le_refl _); replace Usu := Usu.below kb17 (Nat.le_refl _); replace Udi := Udi.below kb17 (Nat.le_refl _); replace Upr := Upr.below kb17 (Nat.le_refl _); replace Hw := Hw.trans (kb17.mono Hw.size); have Urn := k1; clear k1; clear kb17; clear tk3) | (have _t := tk4; go_at_call 13; refine (lis_any _ _ _ _ _ _ _ _ _ _ _ (by omega) (by omega) Ung Urn).mono ?_; rintro e w18 ⟨rfl, kb18⟩; rw [Vng.out, Vrn.out, stB_iff.2 ⟨Mng, Sng.out⟩]; replace BA := BA.keep kb18; replace BB := BB.keep kb18; replace Bng := Bng.keep kb18; replace Bmg := Bmg.keep kb18; replace Bsu := Bsu.keep kb18; replace Bdi := Bdi.keep kb18; replace Bpr := Bpr.keep kb18; replace UA := UA.below kb18 (Nat.le_refl _); replace UB := UB.below kb18 (Nat.le_refl _); replace Ung := Ung.below kb18 (Nat.le_refl _); replace Umg := Umg.below kb18 (Nat.le_refl _); replace Usu := Usu.below kb18 (Nat.le_refl _); replace Udi := Udi.below kb18 (Nat.le_refl _); replace Upr := Upr.below kb18 (Nat.le_refl _); replace Urn := Urn.below kb18 (Nat.le_refl _); replace Hw := Hw.trans (kb18.mono Hw.size); clear kb18; clear tk4) | (have _t := tk5; go_at_call 36; refine (rabs_any _ _ _ _ _ _ (by omega) UA).mono ?_; rintro e w19 ⟨sgrm, arm, nrm, crm, frm, rfl, k1, k2, kb19, k4, k5, k6, Lrm⟩; have Vrm : Hid (ival sgrm (val frm nrm) = ((val fA nA : Nat) : Int)) := hid (by rw [k6]); have Mrm := k4; have Srm := hid k5; clear k6 k5 k4 k2; replace BA := BA.keep kb19; replace BB := BB.keep kb19; replace Bng := Bng.keep kb19; replace Bmg := Bmg.keep kb19; replace Bsu := Bsu.keep kb19; replace Bdi := Bdi.keep kb19; replace Bpr := Bpr.keep kb19; replace UA := UA.below kb19 (Nat.le_refl _); replace UB := UB.below kb19 (Nat.le_refl _); replace Ung := Ung.below kb19 (Nat.le_refl _); replace Umg := Umg.below kb19 (Nat.le_refl _); replace Usu := Usu.below kb19 (Nat.le_refl _); replace Udi := Udi.below kb19 (Nat.le_refl _); replace Upr := Upr.below kb19 (Nat.le_refl _); replace Urn := Urn.below kb19 (Nat.le_refl _); replace Hw := Hw.trans (kb19.mono Hw.size); have Urm := k1; clear k1; clear kb19; clear tk5) | (have _t := tk6; go_at_call 13; refine (lis_any _ _ _ _ _ _ _ _ _ _ _ (by omega) (by omega) Umg Urm).mono ?_; rintro e w20 ⟨rfl, kb20⟩; rw [Vmg.out, Vrm.out, stB_iff.2 ⟨Mmg, Smg.out⟩]; replace BA := BA.keep kb20; replace BB := BB.keep kb20; replace Bng := Bng.keep kb20; replace Bmg := Bmg.keep kb20; replace Bsu := Bsu.keep kb20; replace Bdi := Bdi.keep kb20; replace Bpr := Bpr.keep kb20; replace UA := UA.below kb20 (Nat.le_refl _); replace UB := UB.below kb20 (Nat.le_refl _); replace Ung := Ung.below kb20 (Nat.le_refl _); replace Umg := Umg.below kb20 (Nat.le_refl _); replace Usu := Usu.below kb20 (Nat.le_refl _); replace Udi := Udi.below kb20 (Nat.le_refl _); replace Upr := Upr.below kb20 (Nat.le_refl _); replace Urn := Urn.below kb20 (Nat.le_refl _); replace Urm := Urm.below kb20 (Nat.le_refl _); replace Hw := Hw.trans (kb20.mono Hw.size); clear kb20; clear tk6) | (have _t := tk7; go_at_call 37; refine (radd_any _ _ _ _ _ _ _ _ _ _ _ (by omega) (by omega) UA UB).mono ?_; rintro e w21 ⟨sgrs, ars, nrs, crs, frs, rfl, k1, k2, kb21, k4, k5, k6, Lrs⟩; have Vrs : Hid (ival sgrs (val frs nrs) = A + B) := hid (by rw [k6, VA.out, VB.out]); have Mrs := k4; have Srs := hid k5; clear k6 k5 k4 k2; replace BA := BA.keep kb21; replace BB := BB.keep kb21; replace Bng := Bng.keep kb21; replace Bmg := Bmg.keep kb21; replace Bsu := Bsu.keep kb21; replace Bdi := Bdi.keep kb21; replace Bpr := Bpr.keep kb21; replace UA := UA.below kb21 (Nat.le_refl _); replace UB := UB.below kb21 (Nat.le_refl _); replace Ung := Ung.below kb21 (Nat.le_refl _); replace Umg := Umg.below kb21 (Nat.le_refl _); replace Usu := Usu.below kb21 (Nat.le_refl _); replace Udi := Udi.below kb21 (Nat.le_refl _); replace Upr := Upr.below kb21 (Nat.le_refl _); replace Urn := Urn.below kb21 (Nat.le_refl _); replace Urm := Urm.below kb21 (Nat.le_refl _); replace Hw := Hw.trans (kb21.mono Hw.size); have Urs := k1; clear k1; clear kb21; clear tk7) | (have _t := tk8; go_at_call 13; refine (lis_any _ _ _ _ _ _ _ _ _ _ _ (by omega) (by omega) Usu Urs).mono ?_; rintro e w22 ⟨rfl, kb22⟩; rw [Vsu.out, Vrs.out, stB_iff.2 ⟨Msu, Ssu.out⟩]; replace BA := BA.keep kb22; replace BB := BB.keep kb22; replace Bng := Bng.keep kb22; replace Bmg := Bmg.keep kb22; replace Bsu := Bsu.keep kb22; replace Bdi := Bdi.keep kb22; replace Bpr := Bpr.keep kb22; replace UA := UA.below kb22 (Nat.le_refl _); replace UB := UB.below kb22 (Nat.le_refl _); replace Ung := Ung.below kb22 (Nat.le_refl _); replace Umg := Umg.below kb22 (Nat.le_refl _); replace Usu := Usu.below kb22 (Nat.le_refl _); replace Udi := Udi.below kb22 (Nat.le_refl _); replace Upr := Upr.below kb22 (Nat.le_refl _); replace Urn := Urn.below kb22 (Nat.le_refl _); replace Urm := Urm.below kb22 (Nat.le_refl _); replace Urs := Urs.below kb22 (Nat.le_refl _); replace Hw := Hw.trans (kb22.mono Hw.size); clear kb22; clear tk8) | (have _t := tk9; go_at_call 38; refine (rsub_any _ _ _ _ _ _ _ _ _ _ _ (by omega) (by omega) UA UB).mono ?_; rintro e w23 ⟨sgrd, ard, nrd, crd, frd, rfl, k1, k2, kb23, k4, k5, k6, Lrd⟩; have Vrd : Hid (ival sgrd (val frd nrd) = A - B) := hid (by rw [k6, VA.out, VB.out]); have Mrd := k4; have Srd := hid k5; clear k6 k5 k4 k2; replace BA := BA.keep kb23; replace BB := BB.keep kb23; replace Bng := Bng.keep kb23; replace Bmg := Bmg.keep kb23; replace Bsu := Bsu.keep kb23; replace Bdi := Bdi.keep kb23; replace Bpr := Bpr.keep kb23; replace UA := UA.below kb23 (Nat.le_refl _); replace UB := UB.below kb23 (Nat.le_refl _); replace Ung := Ung.below kb23 (Nat.le_refl _); replace Umg := Umg.below kb23 (Nat.le_refl _); replace Usu := Usu.below kb23 (Nat.le_refl _); replace Udi := Udi.below kb23 (Nat.le_refl _); replace Upr := Upr.below kb23 (Nat.le_refl _); replace Urn := Urn.below kb23 (Nat.le_refl _); replace Urm := Urm.below kb23 (Nat.le_refl _); replace Urs := Urs.below kb23 (Nat.le_refl _); replace Hw := Hw.trans (kb23.mono Hw.size); have Urd := k1; clear k1; clear kb23; clear tk9) | (have _t := tk10; go_at_call 13; refine (lis_any _ _ _ _ _ _ _ _ _ _ _ (by omega) (by omega) Udi Urd).mono ?_; rintro e w24 ⟨rfl, kb24⟩; rw [Vdi.out, Vrd.out, stB_iff.2 ⟨Mdi, Sdi.out⟩]; replace BA := BA.keep kb24; replace BB := BB.keep kb24; replace Bng := Bng.keep kb24; replace Bmg := Bmg.keep kb24; replace Bsu := Bsu.keep kb24; replace Bdi := Bdi.keep kb24; replace Bpr := Bpr.keep kb24; replace UA := UA.below kb24 (Nat.le_refl _); replace UB := UB.below kb24 (Nat.le_refl _); replace Ung := Ung.below kb24 (Nat.le_refl _); replace Umg := Umg.below kb24 (Nat.le_refl _); replace Usu := Usu.below kb24 (Nat.le_refl _); replace Udi := Udi.below kb24 (Nat.le_refl _); replace Upr := Upr.below kb24 (Nat.le_refl _); replace Urn := Urn.below kb24 (Nat.le_refl _); replace Urm := Urm.below kb24 (Nat.le_refl _); replace Urs := Urs.below kb24 (Nat.le_refl _); replace Urd := Urd.below kb24 (Nat.le_refl _); replace Hw := Hw.trans (kb24.mono Hw.size); clear kb24; clear tk10) | (have _t := tk11; go_at_call 39; refine (rmul_any _ _ _ _ _ _ _ _ _ _ _ (by omega) (by omega) UA UB).mono ?_; rintro e w25 ⟨sgrp, arp, nrp, crp, frp, rfl, k1, k2, kb25, k4, k5, k6, Lrp⟩; have Vrp : Hid (ival sgrp (val frp nrp) = A * B) := hid (by rw [k6, VA.out, VB.out]); have Mrp := k4; have Srp := hid k5; clear k6 k5 k4 k2; replace BA := BA.keep kb25; replace BB := BB.keep kb25; replace Bng := Bng.keep kb25; replace Bmg := Bmg.keep kb25; replace Bsu := Bsu.keep kb25; replace Bdi := Bdi.keep kb25; replace Bpr := Bpr.keep kb25; replace UA := UA.below kb25 (Nat.le_refl _); replace UB := UB.below kb25 (Nat.le_refl _); replace Ung := Ung.below kb25 (Nat.le_refl _); replace Umg := Umg.below kb25 (Nat.le_refl _); replace Usu := Usu.below kb25 (Nat.le_refl _); replace Udi := Udi.below kb25 (Nat.le_refl _); replace Upr := Upr.below kb25 (Nat.le_refl _); replace Urn := Urn.below kb25 (Nat.le_refl _); replace Urm := Urm.below kb25 (Nat.le_refl _); replace Urs := Urs.below kb25 (Nat.le_refl _); replace Urd := Urd.below kb25 (Nat.le_refl _); replace Hw := Hw.trans (kb25.mono Hw.size); have Urp := k1; clear k1; clear kb25; clear tk11) | (have _t := tk12; go_at_call 13; refine (lis_any _ _ _ _ _ _ _ _ _ _ _ (by omega) (by omega) Upr Urp).mono ?_; rintro e w26 ⟨rfl, kb26⟩; rw [Vpr.out, Vrp.out, stB_iff.2 ⟨Mpr, Spr.out⟩]; replace BA := BA.keep kb26; replace BB := BB.keep kb26; replace Bng := Bng.keep kb26; replace Bmg := Bmg.keep kb26; replace Bsu := Bsu.keep kb26; replace Bdi := Bdi.keep kb26; replace Bpr := Bpr.keep kb26; replace UA := UA.below kb26 (Nat.le_refl _); replace UB := UB.below kb26 (Nat.le_refl _); replace Ung := Ung.below kb26 (Nat.le_refl _); replace Umg := Umg.below kb26 (Nat.le_refl _); replace Usu := Usu.below kb26 (Nat.le_refl _); replace Udi := Udi.below kb26 (Nat.le_refl _); replace Upr := Upr.below kb26 (Nat.le_refl _); replace Urn := Urn.below kb26 (Nat.le_refl _); replace Urm := Urm.below kb26 (Nat.le_refl _); replace Urs := Urs.below kb26 (Nat.le_refl _); replace Urd := Urd.below kb26 (Nat.le_refl _); replace Urp := Urp.below kb26 (Nat.le_refl _); replace Hw := Hw.trans (kb26.mono Hw.size); clear kb26; clear tk12))
  go_wp2_with fail
  go_ret
  exact ⟨rfl, Hw⟩
end Go.Proofs.YticfggljaagcmaaDoor
