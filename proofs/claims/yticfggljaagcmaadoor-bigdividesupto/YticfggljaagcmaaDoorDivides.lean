/-
  BigDivides, walked.
-/
import Derived.Test.YticfggljaagcmaaDoorDivBoth
namespace Go.Proofs.YticfggljaagcmaaDoor
set_option linter.all false
open Go.RowKit

set_option maxHeartbeats 16000000 in
set_option maxRecDepth 100000 in
theorem bigDivides_walk (sgA : Bool) (aA : Option Addr) (nA cA : Nat) (fA : Nat → Nat) (sgB : Bool) (aB : Option Addr) (nB cB : Nat) (fB : Nat → Nat) (w : World) (hA : nA ≤ 1048576) (UA : Us w aA nA cA fA) (hB : nB ≤ 1048576) (UB : Us w aB nB cB fB) :
    Calls Tryd.prog 3 #[.agg #[.bool sgA, .slice aA nA cA], .agg #[.bool sgB, .slice aB nB cB]] w fun e w' => e = .returned (.bool true) ∧ Below w.heap.size w w' := by
  have Hw := Below.refl w.heap.size w
  obtain ⟨A, VA⟩ : ∃ A : Int, Hid (ival sgA (val fA nA) = A) := ⟨_, hid rfl⟩
  obtain ⟨B, VB⟩ : ∃ B : Int, Hid (ival sgB (val fB nB) = B) := ⟨_, hid rfl⟩
  have BA : Bx (w.alloc (.cells #[.bool sgA, .slice aA nA cA] 24)) (w.heap.size) (.bool sgA) (.slice aA nA cA) := by exact Bx.made w (.bool sgA) (.slice aA nA cA) 24
  replace BA := BA.alloc (.cells #[.bool sgB, .slice aB nB cB] 24)
  have BB : Bx ((w.alloc (.cells #[.bool sgA, .slice aA nA cA] 24)).alloc (.cells #[.bool sgB, .slice aB nB cB] 24)) (w.heap.size + 1) (.bool sgB) (.slice aB nB cB) := by simpa using Bx.made (w.alloc (.cells #[.bool sgA, .slice aA nA cA] 24)) (.bool sgB) (.slice aB nB cB) 24
  replace UA := UA.alloc (.cells #[.bool sgA, .slice aA nA cA] 24)
  replace UA := UA.alloc (.cells #[.bool sgB, .slice aB nB cB] 24)
  replace UB := UB.alloc (.cells #[.bool sgA, .slice aA nA cA] 24)
  replace UB := UB.alloc (.cells #[.bool sgB, .slice aB nB cB] 24)
  replace Hw := Hw.alloc (Nat.le_refl _) (.cells #[.bool sgA, .slice aA nA cA] 24)
  replace Hw := Hw.alloc (by simp) (.cells #[.bool sgB, .slice aB nB cB] 24)
  go_enter Tryd.func3, Tryd.ntmps3
  go_wp2_with fail
  generalize ((w.alloc (.cells #[.bool sgA, .slice aA nA cA] 24)).alloc (.cells #[.bool sgB, .slice aB nB cB] 24)) = w1 at BA BB UA UB Hw ⊢
  refine (awake_any _).mono ?_
  rintro e w2 ⟨rfl, kb2⟩
  replace BA := BA.keep kb2
  replace BB := BB.keep kb2
  replace UA := UA.below kb2 (Nat.le_refl _)
  replace UB := UB.below kb2 (Nat.le_refl _)
  replace Hw := Hw.trans (kb2.mono Hw.size)
  clear kb2
  have rA0 := BA.c0
  have rA1 := BA.c1
  have rB0 := BB.c0
  have rB1 := BB.c1
  go_wp2_with fail
  clear rA0 rA1 rB0 rB1
  refine (divMod_both _ _ _ _ _ _ _ _ _ _ _ (by omega) (by omega) UA UB).mono ?_
  rintro e w3 ⟨sgq, aq, nq, cq, fq, sgr, ar, nr, cr, fr, er, rfl, k1, k2, kb3, HDq, Lq, Lr, Mq, Sq, Mr, Sr, HN⟩
  clear HN
  obtain ⟨Z, Vq⟩ : ∃ z : Int, Hid (ival sgq (val fq nq) = z) := ⟨_, hid rfl⟩
  obtain ⟨R, Vr⟩ : ∃ z : Int, Hid (ival sgr (val fr nr) = z) := ⟨_, hid rfl⟩
  rw [VA.out, VB.out, Vq.out, Vr.out] at HDq
  replace BA := BA.keep kb3
  replace BB := BB.keep kb3
  replace UA := UA.below kb3 (Nat.le_refl _)
  replace UB := UB.below kb3 (Nat.le_refl _)
  replace Hw := Hw.trans (kb3.mono Hw.size)
  have Uq := k1
  have Ur := k2
  clear k1 k2 kb3
  have Nq := Bx.made w3 (.bool sgq) (.slice aq nq cq) 24
  replace BA := BA.alloc (.cells #[.bool sgq, .slice aq nq cq] 24)
  replace BB := BB.alloc (.cells #[.bool sgq, .slice aq nq cq] 24)
  replace UA := UA.alloc (.cells #[.bool sgq, .slice aq nq cq] 24)
  replace UB := UB.alloc (.cells #[.bool sgq, .slice aq nq cq] 24)
  replace Uq := Uq.alloc (.cells #[.bool sgq, .slice aq nq cq] 24)
  replace Ur := Ur.alloc (.cells #[.bool sgq, .slice aq nq cq] 24)
  replace Hw := Hw.alloc Hw.size (.cells #[.bool sgq, .slice aq nq cq] 24)
  have Bq := Nq
  clear Nq
  have Nr : Bx ((w3.alloc (.cells #[.bool sgq, .slice aq nq cq] 24)).alloc (.cells #[.bool sgr, .slice ar nr cr] 24)) (w3.heap.size + 1) (.bool sgr) (.slice ar nr cr) := by simpa using Bx.made (w3.alloc (.cells #[.bool sgq, .slice aq nq cq] 24)) (.bool sgr) (.slice ar nr cr) 24
  replace BA := BA.alloc (.cells #[.bool sgr, .slice ar nr cr] 24)
  replace BB := BB.alloc (.cells #[.bool sgr, .slice ar nr cr] 24)
  replace Bq := Bq.alloc (.cells #[.bool sgr, .slice ar nr cr] 24)
  replace UA := UA.alloc (.cells #[.bool sgr, .slice ar nr cr] 24)
  replace UB := UB.alloc (.cells #[.bool sgr, .slice ar nr cr] 24)
  replace Uq := Uq.alloc (.cells #[.bool sgr, .slice ar nr cr] 24)
  replace Ur := Ur.alloc (.cells #[.bool sgr, .slice ar nr cr] 24)
  replace Hw := Hw.alloc Hw.size (.cells #[.bool sgr, .slice ar nr cr] 24)
  have Br := Nr
  clear Nr
  have rA0 := BA.c0
  have rA1 := BA.c1
  have rB0 := BB.c0
  have rB1 := BB.c1
  have rq0 := Bq.c0
  have rq1 := Bq.c1
  have rr0 := Br.c0
  have rr1 := Br.c1
  go_wp2_with fail
  clear rA0 rA1 rB0 rB1 rq0 rq1 rr0 rr1
  generalize ((w3.alloc (.cells #[.bool sgq, .slice aq nq cq] 24)).alloc (.cells #[.bool sgr, .slice ar nr cr] 24)) = w4 at BA BB Bq Br UA UB Uq Ur Hw ⊢
  refine (rdivMod_both _ _ _ _ _ _ _ _ _ _ _ (by omega) (by omega) UA UB).mono ?_
  rintro e w5 ⟨sgx1, ax1, nx1, cx1, fx1, sgy1, ay1, ny1, cy1, fy1, er2, rfl, k1, k2, kb5, HDx1, Lx1, Ly1, HN⟩
  clear HN
  rw [VA.out, VB.out] at HDx1
  obtain ⟨e1, e2, e3⟩ := dd_one HDq.out HDx1.out
  have Vx1 : Hid (ival sgx1 (val fx1 nx1) = Z) := hid e1.symm
  have Vy1 : Hid (ival sgy1 (val fy1 ny1) = R) := hid e2.symm
  subst e3
  clear e1 e2 HDx1
  replace BA := BA.keep kb5
  replace BB := BB.keep kb5
  replace Bq := Bq.keep kb5
  replace Br := Br.keep kb5
  replace UA := UA.below kb5 (Nat.le_refl _)
  replace UB := UB.below kb5 (Nat.le_refl _)
  replace Uq := Uq.below kb5 (Nat.le_refl _)
  replace Ur := Ur.below kb5 (Nat.le_refl _)
  replace Hw := Hw.trans (kb5.mono Hw.size)
  have Ux1 := k1
  have Uy1 := k2
  clear k1 k2 kb5
  have Nx1 := Bx.made w5 (.bool sgx1) (.slice ax1 nx1 cx1) 24
  replace BA := BA.alloc (.cells #[.bool sgx1, .slice ax1 nx1 cx1] 24)
  replace BB := BB.alloc (.cells #[.bool sgx1, .slice ax1 nx1 cx1] 24)
  replace Bq := Bq.alloc (.cells #[.bool sgx1, .slice ax1 nx1 cx1] 24)
  replace Br := Br.alloc (.cells #[.bool sgx1, .slice ax1 nx1 cx1] 24)
  replace UA := UA.alloc (.cells #[.bool sgx1, .slice ax1 nx1 cx1] 24)
  replace UB := UB.alloc (.cells #[.bool sgx1, .slice ax1 nx1 cx1] 24)
  replace Uq := Uq.alloc (.cells #[.bool sgx1, .slice ax1 nx1 cx1] 24)
  replace Ur := Ur.alloc (.cells #[.bool sgx1, .slice ax1 nx1 cx1] 24)
  replace Ux1 := Ux1.alloc (.cells #[.bool sgx1, .slice ax1 nx1 cx1] 24)
  replace Uy1 := Uy1.alloc (.cells #[.bool sgx1, .slice ax1 nx1 cx1] 24)
  replace Hw := Hw.alloc Hw.size (.cells #[.bool sgx1, .slice ax1 nx1 cx1] 24)
  have Bx1 := Nx1
  clear Nx1
  have Ny1 : Bx ((w5.alloc (.cells #[.bool sgx1, .slice ax1 nx1 cx1] 24)).alloc (.cells #[.bool sgy1, .slice ay1 ny1 cy1] 24)) (w5.heap.size + 1) (.bool sgy1) (.slice ay1 ny1 cy1) := by simpa using Bx.made (w5.alloc (.cells #[.bool sgx1, .slice ax1 nx1 cx1] 24)) (.bool sgy1) (.slice ay1 ny1 cy1) 24
  replace BA := BA.alloc (.cells #[.bool sgy1, .slice ay1 ny1 cy1] 24)
  replace BB := BB.alloc (.cells #[.bool sgy1, .slice ay1 ny1 cy1] 24)
  replace Bq := Bq.alloc (.cells #[.bool sgy1, .slice ay1 ny1 cy1] 24)
  replace Br := Br.alloc (.cells #[.bool sgy1, .slice ay1 ny1 cy1] 24)
  replace Bx1 := Bx1.alloc (.cells #[.bool sgy1, .slice ay1 ny1 cy1] 24)
  replace UA := UA.alloc (.cells #[.bool sgy1, .slice ay1 ny1 cy1] 24)
  replace UB := UB.alloc (.cells #[.bool sgy1, .slice ay1 ny1 cy1] 24)
  replace Uq := Uq.alloc (.cells #[.bool sgy1, .slice ay1 ny1 cy1] 24)
  replace Ur := Ur.alloc (.cells #[.bool sgy1, .slice ay1 ny1 cy1] 24)
  replace Ux1 := Ux1.alloc (.cells #[.bool sgy1, .slice ay1 ny1 cy1] 24)
  replace Uy1 := Uy1.alloc (.cells #[.bool sgy1, .slice ay1 ny1 cy1] 24)
  replace Hw := Hw.alloc Hw.size (.cells #[.bool sgy1, .slice ay1 ny1 cy1] 24)
  have By1 := Ny1
  clear Ny1
  have rA0 := BA.c0
  have rA1 := BA.c1
  have rB0 := BB.c0
  have rB1 := BB.c1
  have rq0 := Bq.c0
  have rq1 := Bq.c1
  have rr0 := Br.c0
  have rr1 := Br.c1
  have rx10 := Bx1.c0
  have rx11 := Bx1.c1
  have ry10 := By1.c0
  have ry11 := By1.c1
  go_wp2_with fail
  clear rA0 rA1 rB0 rB1 rq0 rq1 rr0 rr1 rx10 rx11 ry10 ry11
  generalize ((w5.alloc (.cells #[.bool sgx1, .slice ax1 nx1 cx1] 24)).alloc (.cells #[.bool sgy1, .slice ay1 ny1 cy1] 24)) = w6 at BA BB Bq Br Bx1 By1 UA UB Uq Ur Ux1 Uy1 Hw ⊢
  refine (lis_any _ _ _ _ _ _ _ _ _ _ _ (by omega) (by omega) Uq Ux1).mono ?_
  rintro e w7 ⟨rfl, kb7⟩
  rw [Vq.out, Vx1.out, stB_iff.2 ⟨Mq, Sq.out⟩]
  replace BA := BA.keep kb7
  replace BB := BB.keep kb7
  replace Bq := Bq.keep kb7
  replace Br := Br.keep kb7
  replace Bx1 := Bx1.keep kb7
  replace By1 := By1.keep kb7
  replace UA := UA.below kb7 (Nat.le_refl _)
  replace UB := UB.below kb7 (Nat.le_refl _)
  replace Uq := Uq.below kb7 (Nat.le_refl _)
  replace Ur := Ur.below kb7 (Nat.le_refl _)
  replace Ux1 := Ux1.below kb7 (Nat.le_refl _)
  replace Uy1 := Uy1.below kb7 (Nat.le_refl _)
  replace Hw := Hw.trans (kb7.mono Hw.size)
  clear kb7
  have rA0 := BA.c0
  have rA1 := BA.c1
  have rB0 := BB.c0
  have rB1 := BB.c1
  have rq0 := Bq.c0
  have rq1 := Bq.c1
  have rr0 := Br.c0
  have rr1 := Br.c1
  have rx10 := Bx1.c0
  have rx11 := Bx1.c1
  have ry10 := By1.c0
  have ry11 := By1.c1
  go_wp2_with fail
  clear rA0 rA1 rB0 rB1 rq0 rq1 rr0 rr1 rx10 rx11 ry10 ry11
  refine (lis_any _ _ _ _ _ _ _ _ _ _ _ (by omega) (by omega) Ur Uy1).mono ?_
  rintro e w8 ⟨rfl, kb8⟩
  rw [Vr.out, Vy1.out, stB_iff.2 ⟨Mr, Sr.out⟩]
  replace BA := BA.keep kb8
  replace BB := BB.keep kb8
  replace Bq := Bq.keep kb8
  replace Br := Br.keep kb8
  replace Bx1 := Bx1.keep kb8
  replace By1 := By1.keep kb8
  replace UA := UA.below kb8 (Nat.le_refl _)
  replace UB := UB.below kb8 (Nat.le_refl _)
  replace Uq := Uq.below kb8 (Nat.le_refl _)
  replace Ur := Ur.below kb8 (Nat.le_refl _)
  replace Ux1 := Ux1.below kb8 (Nat.le_refl _)
  replace Uy1 := Uy1.below kb8 (Nat.le_refl _)
  replace Hw := Hw.trans (kb8.mono Hw.size)
  clear kb8
  have rA0 := BA.c0
  have rA1 := BA.c1
  have rB0 := BB.c0
  have rB1 := BB.c1
  have rq0 := Bq.c0
  have rq1 := Bq.c1
  have rr0 := Br.c0
  have rr1 := Br.c1
  have rx10 := Bx1.c0
  have rx11 := Bx1.c1
  have ry10 := By1.c0
  have ry11 := By1.c1
  go_wp2_with fail
  go_ret
  exact ⟨rfl, Hw⟩
end Go.Proofs.YticfggljaagcmaaDoor
