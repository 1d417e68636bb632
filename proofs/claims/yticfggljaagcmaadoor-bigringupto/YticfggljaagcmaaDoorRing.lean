/-
  BigRing, walked.
-/
import Derived.Test.YticfggljaagcmaaDoorAwake
namespace Go.Proofs.YticfggljaagcmaaDoor
open Go.RowKit

theorem sgn_sub (x y : Int) : sgn (x - y) = cmpI x y := by
  unfold sgn cmpI
  rcases Int.lt_trichotomy x y with h | h | h
  · rw [if_pos (by omega), if_pos h]
  · rw [if_neg (by omega), if_neg (by omega), if_neg (by omega), if_neg (by omega)]
  · rw [if_neg (by omega), if_pos (by omega), if_neg (by omega), if_pos h]

set_option maxHeartbeats 8000000 in
set_option maxRecDepth 100000 in
theorem bigRing_walk (sgA : Bool) (aA : Option Addr) (nA cA : Nat) (fA : Nat → Nat) (sgB : Bool) (aB : Option Addr) (nB cB : Nat) (fB : Nat → Nat) (sgC : Bool) (aC : Option Addr) (nC cC : Nat) (fC : Nat → Nat) (w : World) (hA : nA ≤ 1048576) (UA : Us w aA nA cA fA) (hB : nB ≤ 1048576) (UB : Us w aB nB cB fB) (hC : nC ≤ 1048576) (UC : Us w aC nC cC fC) :
    Calls Tryd.prog 6 #[.agg #[.bool sgA, .slice aA nA cA], .agg #[.bool sgB, .slice aB nB cB], .agg #[.bool sgC, .slice aC nC cC]] w fun e w' => e = .returned (.bool true) ∧ Below w.heap.size w w' := by
  have Hw := Below.refl w.heap.size w
  obtain ⟨A, VA⟩ : ∃ A : Int, Hid (ival sgA (val fA nA) = A) := ⟨_, hid rfl⟩
  obtain ⟨B, VB⟩ : ∃ B : Int, Hid (ival sgB (val fB nB) = B) := ⟨_, hid rfl⟩
  obtain ⟨C, VC⟩ : ∃ C : Int, Hid (ival sgC (val fC nC) = C) := ⟨_, hid rfl⟩
  have BA : Bx (w.alloc (.cells #[.bool sgA, .slice aA nA cA] 24)) (w.heap.size) (.bool sgA) (.slice aA nA cA) := by exact Bx.made w (.bool sgA) (.slice aA nA cA) 24
  replace BA := BA.alloc (.cells #[.bool sgB, .slice aB nB cB] 24)
  replace BA := BA.alloc (.cells #[.bool sgC, .slice aC nC cC] 24)
  have BB : Bx ((w.alloc (.cells #[.bool sgA, .slice aA nA cA] 24)).alloc (.cells #[.bool sgB, .slice aB nB cB] 24)) (w.heap.size + 1) (.bool sgB) (.slice aB nB cB) := by simpa using Bx.made (w.alloc (.cells #[.bool sgA, .slice aA nA cA] 24)) (.bool sgB) (.slice aB nB cB) 24
  replace BB := BB.alloc (.cells #[.bool sgC, .slice aC nC cC] 24)
  have BC : Bx (((w.alloc (.cells #[.bool sgA, .slice aA nA cA] 24)).alloc (.cells #[.bool sgB, .slice aB nB cB] 24)).alloc (.cells #[.bool sgC, .slice aC nC cC] 24)) (w.heap.size + 1 + 1) (.bool sgC) (.slice aC nC cC) := by simpa using Bx.made ((w.alloc (.cells #[.bool sgA, .slice aA nA cA] 24)).alloc (.cells #[.bool sgB, .slice aB nB cB] 24)) (.bool sgC) (.slice aC nC cC) 24
  replace UA := UA.alloc (.cells #[.bool sgA, .slice aA nA cA] 24)
  replace UA := UA.alloc (.cells #[.bool sgB, .slice aB nB cB] 24)
  replace UA := UA.alloc (.cells #[.bool sgC, .slice aC nC cC] 24)
  replace UB := UB.alloc (.cells #[.bool sgA, .slice aA nA cA] 24)
  replace UB := UB.alloc (.cells #[.bool sgB, .slice aB nB cB] 24)
  replace UB := UB.alloc (.cells #[.bool sgC, .slice aC nC cC] 24)
  replace UC := UC.alloc (.cells #[.bool sgA, .slice aA nA cA] 24)
  replace UC := UC.alloc (.cells #[.bool sgB, .slice aB nB cB] 24)
  replace UC := UC.alloc (.cells #[.bool sgC, .slice aC nC cC] 24)
  replace Hw := Hw.alloc (Nat.le_refl _) (.cells #[.bool sgA, .slice aA nA cA] 24)
  replace Hw := Hw.alloc (by simp) (.cells #[.bool sgB, .slice aB nB cB] 24)
  replace Hw := Hw.alloc (by simp; omega) (.cells #[.bool sgC, .slice aC nC cC] 24)
  go_enter Tryd.func6, Tryd.ntmps6
  go_wp2_with fail
  generalize (((w.alloc (.cells #[.bool sgA, .slice aA nA cA] 24)).alloc (.cells #[.bool sgB, .slice aB nB cB] 24)).alloc (.cells #[.bool sgC, .slice aC nC cC] 24)) = w1 at BA BB BC UA UB UC Hw ⊢
  refine (awake_any _).mono ?_
  rintro e w2 ⟨rfl, kb2⟩
  replace BA := BA.keep kb2
  replace BB := BB.keep kb2
  replace BC := BC.keep kb2
  replace UA := UA.below kb2 (Nat.le_refl _)
  replace UB := UB.below kb2 (Nat.le_refl _)
  replace UC := UC.below kb2 (Nat.le_refl _)
  replace Hw := Hw.trans (kb2.mono Hw.size)
  clear kb2
  have rA0 := BA.c0
  have rA1 := BA.c1
  have rB0 := BB.c0
  have rB1 := BB.c1
  have rC0 := BC.c0
  have rC1 := BC.c1
  go_wp2_with fail
  clear rA0 rA1 rB0 rB1 rC0 rC1
  refine (add_any _ _ _ _ _ _ _ _ _ _ _ (by omega) (by omega) UA UB).mono ?_
  rintro e w3 ⟨sgab, aab, nab, cab, fab, rfl, k1, k2, kb3, k4, k5, k6, Lab⟩
  have Vab : Hid (ival sgab (val fab nab) = A + B) := hid (by rw [k6, VA.out, VB.out])
  have Mab := k4
  have Sab := hid k5
  clear k6 k5 k4 k2
  replace BA := BA.keep kb3
  replace BB := BB.keep kb3
  replace BC := BC.keep kb3
  replace UA := UA.below kb3 (Nat.le_refl _)
  replace UB := UB.below kb3 (Nat.le_refl _)
  replace UC := UC.below kb3 (Nat.le_refl _)
  replace Hw := Hw.trans (kb3.mono Hw.size)
  have Uab := k1
  clear k1
  clear kb3
  have Nab := Bx.made w3 (.bool sgab) (.slice aab nab cab) 24
  replace BA := BA.alloc (.cells #[.bool sgab, .slice aab nab cab] 24)
  replace BB := BB.alloc (.cells #[.bool sgab, .slice aab nab cab] 24)
  replace BC := BC.alloc (.cells #[.bool sgab, .slice aab nab cab] 24)
  replace UA := UA.alloc (.cells #[.bool sgab, .slice aab nab cab] 24)
  replace UB := UB.alloc (.cells #[.bool sgab, .slice aab nab cab] 24)
  replace UC := UC.alloc (.cells #[.bool sgab, .slice aab nab cab] 24)
  replace Uab := Uab.alloc (.cells #[.bool sgab, .slice aab nab cab] 24)
  replace Hw := Hw.alloc Hw.size (.cells #[.bool sgab, .slice aab nab cab] 24)
  have Bab := Nab
  clear Nab
  have rA0 := BA.c0
  have rA1 := BA.c1
  have rB0 := BB.c0
  have rB1 := BB.c1
  have rC0 := BC.c0
  have rC1 := BC.c1
  have rab0 := Bab.c0
  have rab1 := Bab.c1
  go_wp2_with fail
  clear rA0 rA1 rB0 rB1 rC0 rC1 rab0 rab1
  generalize (w3.alloc (.cells #[.bool sgab, .slice aab nab cab] 24)) = w4 at BA BB BC Bab UA UB UC Uab Hw ⊢
  refine (add_any _ _ _ _ _ _ _ _ _ _ _ (by omega) (by omega) UB UC).mono ?_
  rintro e w5 ⟨sgbc, abc, nbc, cbc, fbc, rfl, k1, k2, kb5, k4, k5, k6, Lbc⟩
  have Vbc : Hid (ival sgbc (val fbc nbc) = B + C) := hid (by rw [k6, VB.out, VC.out])
  have Mbc := k4
  have Sbc := hid k5
  clear k6 k5 k4 k2
  replace BA := BA.keep kb5
  replace BB := BB.keep kb5
  replace BC := BC.keep kb5
  replace Bab := Bab.keep kb5
  replace UA := UA.below kb5 (Nat.le_refl _)
  replace UB := UB.below kb5 (Nat.le_refl _)
  replace UC := UC.below kb5 (Nat.le_refl _)
  replace Uab := Uab.below kb5 (Nat.le_refl _)
  replace Hw := Hw.trans (kb5.mono Hw.size)
  have Ubc := k1
  clear k1
  clear kb5
  have Nbc := Bx.made w5 (.bool sgbc) (.slice abc nbc cbc) 24
  replace BA := BA.alloc (.cells #[.bool sgbc, .slice abc nbc cbc] 24)
  replace BB := BB.alloc (.cells #[.bool sgbc, .slice abc nbc cbc] 24)
  replace BC := BC.alloc (.cells #[.bool sgbc, .slice abc nbc cbc] 24)
  replace Bab := Bab.alloc (.cells #[.bool sgbc, .slice abc nbc cbc] 24)
  replace UA := UA.alloc (.cells #[.bool sgbc, .slice abc nbc cbc] 24)
  replace UB := UB.alloc (.cells #[.bool sgbc, .slice abc nbc cbc] 24)
  replace UC := UC.alloc (.cells #[.bool sgbc, .slice abc nbc cbc] 24)
  replace Uab := Uab.alloc (.cells #[.bool sgbc, .slice abc nbc cbc] 24)
  replace Ubc := Ubc.alloc (.cells #[.bool sgbc, .slice abc nbc cbc] 24)
  replace Hw := Hw.alloc Hw.size (.cells #[.bool sgbc, .slice abc nbc cbc] 24)
  have Bbc := Nbc
  clear Nbc
  have rA0 := BA.c0
  have rA1 := BA.c1
  have rB0 := BB.c0
  have rB1 := BB.c1
  have rC0 := BC.c0
  have rC1 := BC.c1
  have rab0 := Bab.c0
  have rab1 := Bab.c1
  have rbc0 := Bbc.c0
  have rbc1 := Bbc.c1
  go_wp2_with fail
  clear rA0 rA1 rB0 rB1 rC0 rC1 rab0 rab1 rbc0 rbc1
  generalize (w5.alloc (.cells #[.bool sgbc, .slice abc nbc cbc] 24)) = w6 at BA BB BC Bab Bbc UA UB UC Uab Ubc Hw ⊢
  replace BA := BA.drew
  replace BB := BB.drew
  replace BC := BC.drew
  replace Bab := Bab.drew
  replace Bbc := Bbc.drew
  replace UA := UA.drew
  replace UB := UB.drew
  replace UC := UC.drew
  replace Uab := Uab.drew
  replace Ubc := Ubc.drew
  replace Hw := Hw.drew
  have tk1 : True := trivial
  have tk2 : True := trivial
  have tk3 : True := trivial
  go_region_held3 (fun wx => (wx.cell? ⟨w.heap.size, 0, none⟩ = some (.bool sgA) ∧ wx.cell? ⟨w.heap.size, 1, none⟩ = some (.slice aA nA cA)) ∧ (wx.cell? ⟨w.heap.size + 1 + 1, 0, none⟩ = some (.bool sgC) ∧ wx.cell? ⟨w.heap.size + 1 + 1, 1, none⟩ = some (.slice aC nC cC)) ∧ (wx.cell? ⟨w3.heap.size, 0, none⟩ = some (.bool sgab) ∧ wx.cell? ⟨w3.heap.size, 1, none⟩ = some (.slice aab nab cab)) ∧ (wx.cell? ⟨w5.heap.size, 0, none⟩ = some (.bool sgbc) ∧ wx.cell? ⟨w5.heap.size, 1, none⟩ = some (.slice abc nbc cbc))) (with_reducible exact ⟨⟨BA.c0, BA.c1⟩, ⟨BC.c0, BC.c1⟩, ⟨Bab.c0, Bab.c1⟩, ⟨Bbc.c0, Bbc.c1⟩⟩) (first | (have _t := tk1; go_at_call 24; refine (add_any _ _ _ _ _ _ _ _ _ _ _ (by omega) (by omega) Uab UC).mono ?_; rintro e w7 ⟨sgx, ax, nx, cx, fx, rfl, k1, k2, kb7, k4, k5, k6, Lx⟩; have Vx : Hid (ival sgx (val fx nx) = A + B + C) := hid (by rw [k6, Vab.out, VC.out]); have Mx := k4; have Sx := hid k5; clear k6 k5 k4 k2; replace BA := BA.keep kb7; replace BB := BB.keep kb7; replace BC := BC.keep kb7; replace Bab := Bab.keep kb7; replace Bbc := Bbc.keep kb7; replace UA := UA.below kb7 (Nat.le_refl _); replace UB := UB.below kb7 (Nat.le_refl _); replace UC := UC.below kb7 (Nat.le_refl _); replace Uab := Uab.below kb7 (Nat.le_refl _); replace Ubc := Ubc.below kb7 (Nat.le_refl _); replace Hw := Hw.trans (kb7.mono Hw.size); have Ux := k1; clear k1; clear kb7; clear tk1) | (have _t := tk2; go_at_call 24; refine (add_any _ _ _ _ _ _ _ _ _ _ _ (by omega) (by omega) UA Ubc).mono ?_; rintro e w8 ⟨sgy, ay, ny, cy, fy, rfl, k1, k2, kb8, k4, k5, k6, Ly⟩; have Vy : Hid (ival sgy (val fy ny) = A + (B + C)) := hid (by rw [k6, VA.out, Vbc.out]); have My := k4; have Sy := hid k5; clear k6 k5 k4 k2; replace BA := BA.keep kb8; replace BB := BB.keep kb8; replace BC := BC.keep kb8; replace Bab := Bab.keep kb8; replace Bbc := Bbc.keep kb8; replace UA := UA.below kb8 (Nat.le_refl _); replace UB := UB.below kb8 (Nat.le_refl _); replace UC := UC.below kb8 (Nat.le_refl _); replace Uab := Uab.below kb8 (Nat.le_refl _); replace Ubc := Ubc.below kb8 (Nat.le_refl _); replace Ux := Ux.below kb8 (Nat.le_refl _); replace Hw := Hw.trans (kb8.mono Hw.size); have Uy := k1; clear k1; clear kb8; clear tk2) | (have _t := tk3; go_at_call 32; refine (cmp_any _ _ _ _ _ _ _ _ _ _ _ (by omega) (by omega) Ux Uy).mono ?_; rintro e w9 ⟨rfl, kb9⟩; rw [Vx.out, Vy.out, cmpI_eq (Int.add_assoc A B C)]; replace BA := BA.keep kb9; replace BB := BB.keep kb9; replace BC := BC.keep kb9; replace Bab := Bab.keep kb9; replace Bbc := Bbc.keep kb9; replace UA := UA.below kb9 (Nat.le_refl _); replace UB := UB.below kb9 (Nat.le_refl _); replace UC := UC.below kb9 (Nat.le_refl _); replace Uab := Uab.below kb9 (Nat.le_refl _); replace Ubc := Ubc.below kb9 (Nat.le_refl _); replace Ux := Ux.below kb9 (Nat.le_refl _); replace Uy := Uy.below kb9 (Nat.le_refl _); replace Hw := Hw.trans (kb9.mono Hw.size); clear kb9; clear tk3))
  clear Ux
  clear Uy
  have rA0 := BA.c0
  have rA1 := BA.c1
  have rB0 := BB.c0
  have rB1 := BB.c1
  have rC0 := BC.c0
  have rC1 := BC.c1
  have rab0 := Bab.c0
  have rab1 := Bab.c1
  have rbc0 := Bbc.c0
  have rbc1 := Bbc.c1
  go_wp2_with fail
  clear rA0 rA1 rB0 rB1 rC0 rC1 rab0 rab1 rbc0 rbc1
  replace BA := BA.drew
  replace BB := BB.drew
  replace BC := BC.drew
  replace Bab := Bab.drew
  replace Bbc := Bbc.drew
  replace UA := UA.drew
  replace UB := UB.drew
  replace UC := UC.drew
  replace Uab := Uab.drew
  replace Ubc := Ubc.drew
  replace Hw := Hw.drew
  have tk4 : True := trivial
  have tk5 : True := trivial
  have tk6 : True := trivial
  go_region_held3 (fun wx => (wx.cell? ⟨w.heap.size, 0, none⟩ = some (.bool sgA) ∧ wx.cell? ⟨w.heap.size, 1, none⟩ = some (.slice aA nA cA)) ∧ (wx.cell? ⟨w.heap.size + 1, 0, none⟩ = some (.bool sgB) ∧ wx.cell? ⟨w.heap.size + 1, 1, none⟩ = some (.slice aB nB cB))) (with_reducible exact ⟨⟨BA.c0, BA.c1⟩, ⟨BB.c0, BB.c1⟩⟩) (first | (have _t := tk4; go_at_call 26; refine (mul_any _ _ _ _ _ _ _ _ _ _ _ (by omega) (by omega) UA UB).mono ?_; rintro e w10 ⟨sgx2, ax2, nx2, cx2, fx2, rfl, k1, k2, kb10, k4, k5, k6, Lx2⟩; have Vx2 : Hid (ival sgx2 (val fx2 nx2) = A * B) := hid (by rw [k6, VA.out, VB.out]); have Mx2 := k4; have Sx2 := hid k5; clear k6 k5 k4 k2; replace BA := BA.keep kb10; replace BB := BB.keep kb10; replace BC := BC.keep kb10; replace Bab := Bab.keep kb10; replace Bbc := Bbc.keep kb10; replace UA := UA.below kb10 (Nat.le_refl _); replace UB := UB.below kb10 (Nat.le_refl _); replace UC := UC.below kb10 (Nat.le_refl _); replace Uab := Uab.below kb10 (Nat.le_refl _); replace Ubc := Ubc.below kb10 (Nat.le_refl _); replace Hw := Hw.trans (kb10.mono Hw.size); have Ux2 := k1; clear k1; clear kb10; clear tk4) | (have _t := tk5; go_at_call 26; refine (mul_any _ _ _ _ _ _ _ _ _ _ _ (by omega) (by omega) UB UA).mono ?_; rintro e w11 ⟨sgy2, ay2, ny2, cy2, fy2, rfl, k1, k2, kb11, k4, k5, k6, Ly2⟩; have Vy2 : Hid (ival sgy2 (val fy2 ny2) = B * A) := hid (by rw [k6, VB.out, VA.out]); have My2 := k4; have Sy2 := hid k5; clear k6 k5 k4 k2; replace BA := BA.keep kb11; replace BB := BB.keep kb11; replace BC := BC.keep kb11; replace Bab := Bab.keep kb11; replace Bbc := Bbc.keep kb11; replace UA := UA.below kb11 (Nat.le_refl _); replace UB := UB.below kb11 (Nat.le_refl _); replace UC := UC.below kb11 (Nat.le_refl _); replace Uab := Uab.below kb11 (Nat.le_refl _); replace Ubc := Ubc.below kb11 (Nat.le_refl _); replace Ux2 := Ux2.below kb11 (Nat.le_refl _); replace Hw := Hw.trans (kb11.mono Hw.size); have Uy2 := k1; clear k1; clear kb11; clear tk5) | (have _t := tk6; go_at_call 32; refine (cmp_any _ _ _ _ _ _ _ _ _ _ _ (by omega) (by omega) Ux2 Uy2).mono ?_; rintro e w12 ⟨rfl, kb12⟩; rw [Vx2.out, Vy2.out, cmpI_eq (Int.mul_comm A B)]; replace BA := BA.keep kb12; replace BB := BB.keep kb12; replace BC := BC.keep kb12; replace Bab := Bab.keep kb12; replace Bbc := Bbc.keep kb12; replace UA := UA.below kb12 (Nat.le_refl _); replace UB := UB.below kb12 (Nat.le_refl _); replace UC := UC.below kb12 (Nat.le_refl _); replace Uab := Uab.below kb12 (Nat.le_refl _); replace Ubc := Ubc.below kb12 (Nat.le_refl _); replace Ux2 := Ux2.below kb12 (Nat.le_refl _); replace Uy2 := Uy2.below kb12 (Nat.le_refl _); replace Hw := Hw.trans (kb12.mono Hw.size); clear kb12; clear tk6))
  clear Ux2
  clear Uy2
  have rA0 := BA.c0
  have rA1 := BA.c1
  have rB0 := BB.c0
  have rB1 := BB.c1
  have rC0 := BC.c0
  have rC1 := BC.c1
  have rab0 := Bab.c0
  have rab1 := Bab.c1
  have rbc0 := Bbc.c0
  have rbc1 := Bbc.c1
  go_wp2_with fail
  clear rA0 rA1 rB0 rB1 rC0 rC1 rab0 rab1 rbc0 rbc1
  replace BA := BA.drew
  replace BB := BB.drew
  replace BC := BC.drew
  replace Bab := Bab.drew
  replace Bbc := Bbc.drew
  replace UA := UA.drew
  replace UB := UB.drew
  replace UC := UC.drew
  replace Uab := Uab.drew
  replace Ubc := Ubc.drew
  replace Hw := Hw.drew
  have tk7 : True := trivial
  have tk8 : True := trivial
  have tk9 : True := trivial
  have tk10 : True := trivial
  have tk11 : True := trivial
  go_region_held3 (fun wx => (wx.cell? ⟨w.heap.size, 0, none⟩ = some (.bool sgA) ∧ wx.cell? ⟨w.heap.size, 1, none⟩ = some (.slice aA nA cA)) ∧ (wx.cell? ⟨w.heap.size + 1, 0, none⟩ = some (.bool sgB) ∧ wx.cell? ⟨w.heap.size + 1, 1, none⟩ = some (.slice aB nB cB)) ∧ (wx.cell? ⟨w.heap.size + 1 + 1, 0, none⟩ = some (.bool sgC) ∧ wx.cell? ⟨w.heap.size + 1 + 1, 1, none⟩ = some (.slice aC nC cC))) (with_reducible exact ⟨⟨BA.c0, BA.c1⟩, ⟨BB.c0, BB.c1⟩, ⟨BC.c0, BC.c1⟩⟩) (first | (have _t := tk7; go_at_call 26; refine (mul_any _ _ _ _ _ _ _ _ _ _ _ (by omega) (by omega) UA UB).mono ?_; rintro e w13 ⟨sgx3, ax3, nx3, cx3, fx3, rfl, k1, k2, kb13, k4, k5, k6, Lx3⟩; have Vx3 : Hid (ival sgx3 (val fx3 nx3) = A * B) := hid (by rw [k6, VA.out, VB.out]); have Mx3 := k4; have Sx3 := hid k5; clear k6 k5 k4 k2; replace BA := BA.keep kb13; replace BB := BB.keep kb13; replace BC := BC.keep kb13; replace Bab := Bab.keep kb13; replace Bbc := Bbc.keep kb13; replace UA := UA.below kb13 (Nat.le_refl _); replace UB := UB.below kb13 (Nat.le_refl _); replace UC := UC.below kb13 (Nat.le_refl _); replace Uab := Uab.below kb13 (Nat.le_refl _); replace Ubc := Ubc.below kb13 (Nat.le_refl _); replace Hw := Hw.trans (kb13.mono Hw.size); have Ux3 := k1; clear k1; clear kb13; clear tk7) | (have _t := tk8; go_at_call 26; refine (mul_any _ _ _ _ _ _ _ _ _ _ _ (by omega) (by omega) Ux3 UC).mono ?_; rintro e w14 ⟨sgy3, ay3, ny3, cy3, fy3, rfl, k1, k2, kb14, k4, k5, k6, Ly3⟩; have Vy3 : Hid (ival sgy3 (val fy3 ny3) = A * B * C) := hid (by rw [k6, Vx3.out, VC.out]); have My3 := k4; have Sy3 := hid k5; clear k6 k5 k4 k2; replace BA := BA.keep kb14; replace BB := BB.keep kb14; replace BC := BC.keep kb14; replace Bab := Bab.keep kb14; replace Bbc := Bbc.keep kb14; replace UA := UA.below kb14 (Nat.le_refl _); replace UB := UB.below kb14 (Nat.le_refl _); replace UC := UC.below kb14 (Nat.le_refl _); replace Uab := Uab.below kb14 (Nat.le_refl _); replace Ubc := Ubc.below kb14 (Nat.le_refl _); replace Ux3 := Ux3.below kb14 (Nat.le_refl _); replace Hw := Hw.trans (kb14.mono Hw.size); have Uy3 := k1; clear k1; clear kb14; clear tk8) | (have _t := tk9; go_at_call 26; refine (mul_any _ _ _ _ _ _ _ _ _ _ _ (by omega) (by omega) UB UC).mono ?_; rintro e w15 ⟨sgz3, az3, nz3, cz3, fz3, rfl, k1, k2, kb15, k4, k5, k6, Lz3⟩; have Vz3 : Hid (ival sgz3 (val fz3 nz3) = B * C) := hid (by rw [k6, VB.out, VC.out]); have Mz3 := k4; have Sz3 := hid k5; clear k6 k5 k4 k2; replace BA := BA.keep kb15; replace BB := BB.keep kb15; replace BC := BC.keep kb15; replace Bab := Bab.keep kb15; replace Bbc := Bbc.keep kb15; replace UA := UA.below kb15 (Nat.le_refl _); replace UB := UB.below kb15 (Nat.le_refl _); replace UC := UC.below kb15 (Nat.le_refl _); replace Uab := Uab.below kb15 (Nat.le_refl _); replace Ubc := Ubc.below kb15 (Nat.le_refl _); replace Ux3 := Ux3.below kb15 (Nat.le_refl _); replace Uy3 := Uy3.below kb15 (Nat.le_refl _); replace Hw := Hw.trans (kb15.mono Hw.size); have Uz3 := k1; clear k1; clear kb15; clear tk9) | (have _t := tk10; go_at_call 26; refine (mul_any _ _ _ _ _ _ _ _ _ _ _ (by omega) (by omega) UA Uz3).mono ?_; rintro e w16 ⟨sgu3, au3, nu3, cu3, fu3, rfl, k1, k2, kb16, k4, k5, k6, Lu3⟩; have Vu3 : Hid (ival sgu3 (val fu3 nu3) = A * (B * C)) := hid (by rw [k6, VA.out, Vz3.out]); have Mu3 := k4; have Su3 := hid k5; clear k6 k5 k4 k2; replace BA := BA.keep kb16; replace BB := BB.keep kb16; replace BC := BC.keep kb16; replace Bab := Bab.keep kb16; replace Bbc := Bbc.keep kb16; replace UA := UA.below kb16 (Nat.le_refl _); replace UB := UB.below kb16 (Nat.le_refl _); replace UC := UC.below kb16 (Nat.le_refl _); replace Uab := Uab.below kb16 (Nat.le_refl _); replace Ubc := Ubc.below kb16 (Nat.le_refl _); replace Ux3 := Ux3.below kb16 (Nat.le_refl _); replace Uy3 := Uy3.below kb16 (Nat.le_refl _); replace Uz3 := Uz3.below kb16 (Nat.le_refl _); replace Hw := Hw.trans (kb16.mono Hw.size); have Uu3 := k1; clear k1; clear kb16; clear tk10) | (have _t := tk11; go_at_call 32; refine (cmp_any _ _ _ _ _ _ _ _ _ _ _ (by omega) (by omega) Uy3 Uu3).mono ?_; rintro e w17 ⟨rfl, kb17⟩; rw [Vy3.out, Vu3.out, cmpI_eq (Int.mul_assoc A B C)]; replace BA := BA.keep kb17; replace BB := BB.keep kb17; replace BC := BC.keep kb17; replace Bab := Bab.keep kb17; replace Bbc := Bbc.keep kb17; replace UA := UA.below kb17 (Nat.le_refl _); replace UB := UB.below kb17 (Nat.le_refl _); replace UC := UC.below kb17 (Nat.le_refl _); replace Uab := Uab.below kb17 (Nat.le_refl _); replace Ubc := Ubc.below kb17 (Nat.le_refl _); replace Ux3 := Ux3.below kb17 (Nat.le_refl _); replace Uy3 := Uy3.below kb17 (Nat.le_refl _); replace Uz3 := Uz3.below kb17 (Nat.le_refl _); replace Uu3 := Uu3.below kb17 (Nat.le_refl _); replace Hw := Hw.trans (kb17.mono Hw.size); clear kb17; clear tk11))
  clear Ux3
  clear Uy3
  clear Uz3
  clear Uu3
  have rA0 := BA.c0
  have rA1 := BA.c1
  have rB0 := BB.c0
  have rB1 := BB.c1
  have rC0 := BC.c0
  have rC1 := BC.c1
  have rab0 := Bab.c0
  have rab1 := Bab.c1
  have rbc0 := Bbc.c0
  have rbc1 := Bbc.c1
  go_wp2_with fail
  clear rA0 rA1 rB0 rB1 rC0 rC1 rab0 rab1 rbc0 rbc1
  replace BA := BA.drew
  replace BB := BB.drew
  replace BC := BC.drew
  replace Bab := Bab.drew
  replace Bbc := Bbc.drew
  replace UA := UA.drew
  replace UB := UB.drew
  replace UC := UC.drew
  replace Uab := Uab.drew
  replace Ubc := Ubc.drew
  replace Hw := Hw.drew
  have tk12 : True := trivial
  have tk13 : True := trivial
  have tk14 : True := trivial
  have tk15 : True := trivial
  have tk16 : True := trivial
  go_region_held3 (fun wx => (wx.cell? ⟨w.heap.size, 0, none⟩ = some (.bool sgA) ∧ wx.cell? ⟨w.heap.size, 1, none⟩ = some (.slice aA nA cA)) ∧ (wx.cell? ⟨w.heap.size + 1, 0, none⟩ = some (.bool sgB) ∧ wx.cell? ⟨w.heap.size + 1, 1, none⟩ = some (.slice aB nB cB)) ∧ (wx.cell? ⟨w.heap.size + 1 + 1, 0, none⟩ = some (.bool sgC) ∧ wx.cell? ⟨w.heap.size + 1 + 1, 1, none⟩ = some (.slice aC nC cC)) ∧ (wx.cell? ⟨w5.heap.size, 0, none⟩ = some (.bool sgbc) ∧ wx.cell? ⟨w5.heap.size, 1, none⟩ = some (.slice abc nbc cbc))) (with_reducible exact ⟨⟨BA.c0, BA.c1⟩, ⟨BB.c0, BB.c1⟩, ⟨BC.c0, BC.c1⟩, ⟨Bbc.c0, Bbc.c1⟩⟩) (first | (have _t := tk12; go_at_call 26; refine (mul_any _ _ _ _ _ _ _ _ _ _ _ (by omega) (by omega) UA Ubc).mono ?_; rintro e w18 ⟨sgx4, ax4, nx4, cx4, fx4, rfl, k1, k2, kb18, k4, k5, k6, Lx4⟩; have Vx4 : Hid (ival sgx4 (val fx4 nx4) = A * (B + C)) := hid (by rw [k6, VA.out, Vbc.out]); have Mx4 := k4; have Sx4 := hid k5; clear k6 k5 k4 k2; replace BA := BA.keep kb18; replace BB := BB.keep kb18; replace BC := BC.keep kb18; replace Bab := Bab.keep kb18; replace Bbc := Bbc.keep kb18; replace UA := UA.below kb18 (Nat.le_refl _); replace UB := UB.below kb18 (Nat.le_refl _); replace UC := UC.below kb18 (Nat.le_refl _); replace Uab := Uab.below kb18 (Nat.le_refl _); replace Ubc := Ubc.below kb18 (Nat.le_refl _); replace Hw := Hw.trans (kb18.mono Hw.size); have Ux4 := k1; clear k1; clear kb18; clear tk12) | (have _t := tk13; go_at_call 26; refine (mul_any _ _ _ _ _ _ _ _ _ _ _ (by omega) (by omega) UA UB).mono ?_; rintro e w19 ⟨sgy4, ay4, ny4, cy4, fy4, rfl, k1, k2, kb19, k4, k5, k6, Ly4⟩; have Vy4 : Hid (ival sgy4 (val fy4 ny4) = A * B) := hid (by rw [k6, VA.out, VB.out]); have My4 := k4; have Sy4 := hid k5; clear k6 k5 k4 k2; replace BA := BA.keep kb19; replace BB := BB.keep kb19; replace BC := BC.keep kb19; replace Bab := Bab.keep kb19; replace Bbc := Bbc.keep kb19; replace UA := UA.below kb19 (Nat.le_refl _); replace UB := UB.below kb19 (Nat.le_refl _); replace UC := UC.below kb19 (Nat.le_refl _); replace Uab := Uab.below kb19 (Nat.le_refl _); replace Ubc := Ubc.below kb19 (Nat.le_refl _); replace Ux4 := Ux4.below kb19 (Nat.le_refl _); replace Hw := Hw.trans (kb19.mono Hw.size); have Uy4 := k1; clear k1; clear kb19; clear tk13) | (have _t := tk14; go_at_call 26; refine (mul_any _ _ _ _ _ _ _ _ _ _ _ (by omega) (by omega) UA UC).mono ?_; rintro e w20 ⟨sgz4, az4, nz4, cz4, fz4, rfl, k1, k2, kb20, k4, k5, k6, Lz4⟩; have Vz4 : Hid (ival sgz4 (val fz4 nz4) = A * C) := hid (by rw [k6, VA.out, VC.out]); have Mz4 := k4; have Sz4 := hid k5; clear k6 k5 k4 k2; replace BA := BA.keep kb20; replace BB := BB.keep kb20; replace BC := BC.keep kb20; replace Bab := Bab.keep kb20; replace Bbc := Bbc.keep kb20; replace UA := UA.below kb20 (Nat.le_refl _); replace UB := UB.below kb20 (Nat.le_refl _); replace UC := UC.below kb20 (Nat.le_refl _); replace Uab := Uab.below kb20 (Nat.le_refl _); replace Ubc := Ubc.below kb20 (Nat.le_refl _); replace Ux4 := Ux4.below kb20 (Nat.le_refl _); replace Uy4 := Uy4.below kb20 (Nat.le_refl _); replace Hw := Hw.trans (kb20.mono Hw.size); have Uz4 := k1; clear k1; clear kb20; clear tk14) | (have _t := tk15; go_at_call 24; refine (add_any _ _ _ _ _ _ _ _ _ _ _ (by omega) (by omega) Uy4 Uz4).mono ?_; rintro e w21 ⟨sgu4, au4, nu4, cu4, fu4, rfl, k1, k2, kb21, k4, k5, k6, Lu4⟩; have Vu4 : Hid (ival sgu4 (val fu4 nu4) = A * B + A * C) := hid (by rw [k6, Vy4.out, Vz4.out]); have Mu4 := k4; have Su4 := hid k5; clear k6 k5 k4 k2; replace BA := BA.keep kb21; replace BB := BB.keep kb21; replace BC := BC.keep kb21; replace Bab := Bab.keep kb21; replace Bbc := Bbc.keep kb21; replace UA := UA.below kb21 (Nat.le_refl _); replace UB := UB.below kb21 (Nat.le_refl _); replace UC := UC.below kb21 (Nat.le_refl _); replace Uab := Uab.below kb21 (Nat.le_refl _); replace Ubc := Ubc.below kb21 (Nat.le_refl _); replace Ux4 := Ux4.below kb21 (Nat.le_refl _); replace Uy4 := Uy4.below kb21 (Nat.le_refl _); replace Uz4 := Uz4.below kb21 (Nat.le_refl _); replace Hw := Hw.trans (kb21.mono Hw.size); have Uu4 := k1; clear k1; clear kb21; clear tk15) | (have _t := tk16; go_at_call 32; refine (cmp_any _ _ _ _ _ _ _ _ _ _ _ (by omega) (by omega) Ux4 Uu4).mono ?_; rintro e w22 ⟨rfl, kb22⟩; rw [Vx4.out, Vu4.out, cmpI_eq (Int.mul_add A B C)]; replace BA := BA.keep kb22; replace BB := BB.keep kb22; replace BC := BC.keep kb22; replace Bab := Bab.keep kb22; replace Bbc := Bbc.keep kb22; replace UA := UA.below kb22 (Nat.le_refl _); replace UB := UB.below kb22 (Nat.le_refl _); replace UC := UC.below kb22 (Nat.le_refl _); replace Uab := Uab.below kb22 (Nat.le_refl _); replace Ubc := Ubc.below kb22 (Nat.le_refl _); replace Ux4 := Ux4.below kb22 (Nat.le_refl _); replace Uy4 := Uy4.below kb22 (Nat.le_refl _); replace Uz4 := Uz4.below kb22 (Nat.le_refl _); replace Uu4 := Uu4.below kb22 (Nat.le_refl _); replace Hw := Hw.trans (kb22.mono Hw.size); clear kb22; clear tk16))
  clear Ux4
  clear Uy4
  clear Uz4
  clear Uu4
  have rA0 := BA.c0
  have rA1 := BA.c1
  have rB0 := BB.c0
  have rB1 := BB.c1
  have rC0 := BC.c0
  have rC1 := BC.c1
  have rab0 := Bab.c0
  have rab1 := Bab.c1
  have rbc0 := Bbc.c0
  have rbc1 := Bbc.c1
  go_wp2_with fail
  clear rA0 rA1 rB0 rB1 rC0 rC1 rab0 rab1 rbc0 rbc1
  replace BA := BA.drew
  replace BB := BB.drew
  replace BC := BC.drew
  replace Bab := Bab.drew
  replace Bbc := Bbc.drew
  replace UA := UA.drew
  replace UB := UB.drew
  replace UC := UC.drew
  replace Uab := Uab.drew
  replace Ubc := Ubc.drew
  replace Hw := Hw.drew
  have tk17 : True := trivial
  have tk18 : True := trivial
  go_region_held3 (fun wx => (wx.cell? ⟨w.heap.size, 0, none⟩ = some (.bool sgA) ∧ wx.cell? ⟨w.heap.size, 1, none⟩ = some (.slice aA nA cA)) ∧ (wx.cell? ⟨w.heap.size + 1, 0, none⟩ = some (.bool sgB) ∧ wx.cell? ⟨w.heap.size + 1, 1, none⟩ = some (.slice aB nB cB)) ∧ (wx.cell? ⟨w3.heap.size, 0, none⟩ = some (.bool sgab) ∧ wx.cell? ⟨w3.heap.size, 1, none⟩ = some (.slice aab nab cab))) (with_reducible exact ⟨⟨BA.c0, BA.c1⟩, ⟨BB.c0, BB.c1⟩, ⟨Bab.c0, Bab.c1⟩⟩) (first | (have _t := tk17; go_at_call 25; refine (sub_any _ _ _ _ _ _ _ _ _ _ _ (by omega) (by omega) Uab UB).mono ?_; rintro e w23 ⟨sgx5, ax5, nx5, cx5, fx5, rfl, k1, k2, kb23, k4, k5, k6, Lx5⟩; have Vx5 : Hid (ival sgx5 (val fx5 nx5) = A + B - B) := hid (by rw [k6, Vab.out, VB.out]); have Mx5 := k4; have Sx5 := hid k5; clear k6 k5 k4 k2; replace BA := BA.keep kb23; replace BB := BB.keep kb23; replace BC := BC.keep kb23; replace Bab := Bab.keep kb23; replace Bbc := Bbc.keep kb23; replace UA := UA.below kb23 (Nat.le_refl _); replace UB := UB.below kb23 (Nat.le_refl _); replace UC := UC.below kb23 (Nat.le_refl _); replace Uab := Uab.below kb23 (Nat.le_refl _); replace Ubc := Ubc.below kb23 (Nat.le_refl _); replace Hw := Hw.trans (kb23.mono Hw.size); have Ux5 := k1; clear k1; clear kb23; clear tk17) | (have _t := tk18; go_at_call 32; refine (cmp_any _ _ _ _ _ _ _ _ _ _ _ (by omega) (by omega) Ux5 UA).mono ?_; rintro e w24 ⟨rfl, kb24⟩; rw [Vx5.out, VA.out, cmpI_eq (Int.add_sub_cancel A B)]; replace BA := BA.keep kb24; replace BB := BB.keep kb24; replace BC := BC.keep kb24; replace Bab := Bab.keep kb24; replace Bbc := Bbc.keep kb24; replace UA := UA.below kb24 (Nat.le_refl _); replace UB := UB.below kb24 (Nat.le_refl _); replace UC := UC.below kb24 (Nat.le_refl _); replace Uab := Uab.below kb24 (Nat.le_refl _); replace Ubc := Ubc.below kb24 (Nat.le_refl _); replace Ux5 := Ux5.below kb24 (Nat.le_refl _); replace Hw := Hw.trans (kb24.mono Hw.size); clear kb24; clear tk18))
  clear Ux5
  obtain ⟨sd, SD⟩ : ∃ sd : Int, Hid (cmpI A B = sd ∧ sgn (A - B) = sd) := ⟨_, hid ⟨rfl, sgn_sub A B⟩⟩
  have rA0 := BA.c0
  have rA1 := BA.c1
  have rB0 := BB.c0
  have rB1 := BB.c1
  have rC0 := BC.c0
  have rC1 := BC.c1
  have rab0 := Bab.c0
  have rab1 := Bab.c1
  have rbc0 := Bbc.c0
  have rbc1 := Bbc.c1
  go_wp2_with fail
  clear rA0 rA1 rB0 rB1 rC0 rC1 rab0 rab1 rbc0 rbc1
  replace BA := BA.drew
  replace BB := BB.drew
  replace BC := BC.drew
  replace Bab := Bab.drew
  replace Bbc := Bbc.drew
  replace UA := UA.drew
  replace UB := UB.drew
  replace UC := UC.drew
  replace Uab := Uab.drew
  replace Ubc := Ubc.drew
  replace Hw := Hw.drew
  have tk19 : True := trivial
  have tk20 : True := trivial
  have tk21 : True := trivial
  go_region_held3 (fun wx => (wx.cell? ⟨w.heap.size, 0, none⟩ = some (.bool sgA) ∧ wx.cell? ⟨w.heap.size, 1, none⟩ = some (.slice aA nA cA)) ∧ (wx.cell? ⟨w.heap.size + 1, 0, none⟩ = some (.bool sgB) ∧ wx.cell? ⟨w.heap.size + 1, 1, none⟩ = some (.slice aB nB cB))) (with_reducible exact ⟨⟨BA.c0, BA.c1⟩, ⟨BB.c0, BB.c1⟩⟩) (first | (have _t := tk19; go_at_call 25; refine (sub_any _ _ _ _ _ _ _ _ _ _ _ (by omega) (by omega) UA UB).mono ?_; rintro e w25 ⟨sgx6, ax6, nx6, cx6, fx6, rfl, k1, k2, kb25, k4, k5, k6, Lx6⟩; have Vx6 : Hid (ival sgx6 (val fx6 nx6) = A - B) := hid (by rw [k6, VA.out, VB.out]); have Mx6 := k4; have Sx6 := hid k5; clear k6 k5 k4 k2; replace BA := BA.keep kb25; replace BB := BB.keep kb25; replace BC := BC.keep kb25; replace Bab := Bab.keep kb25; replace Bbc := Bbc.keep kb25; replace UA := UA.below kb25 (Nat.le_refl _); replace UB := UB.below kb25 (Nat.le_refl _); replace UC := UC.below kb25 (Nat.le_refl _); replace Uab := Uab.below kb25 (Nat.le_refl _); replace Ubc := Ubc.below kb25 (Nat.le_refl _); replace Hw := Hw.trans (kb25.mono Hw.size); have Ux6 := k1; clear k1; clear kb25; clear tk19) | (have _t := tk20; go_at_call 33; refine (sign_any _ _ _ _ _ _ (by omega) Ux6).mono ?_; rintro e w26 ⟨rfl, kb26⟩; rw [Vx6.out, SD.out.2]; replace BA := BA.keep kb26; replace BB := BB.keep kb26; replace BC := BC.keep kb26; replace Bab := Bab.keep kb26; replace Bbc := Bbc.keep kb26; replace UA := UA.below kb26 (Nat.le_refl _); replace UB := UB.below kb26 (Nat.le_refl _); replace UC := UC.below kb26 (Nat.le_refl _); replace Uab := Uab.below kb26 (Nat.le_refl _); replace Ubc := Ubc.below kb26 (Nat.le_refl _); replace Ux6 := Ux6.below kb26 (Nat.le_refl _); replace Hw := Hw.trans (kb26.mono Hw.size); clear kb26; clear tk20) | (have _t := tk21; go_at_call 32; refine (cmp_any _ _ _ _ _ _ _ _ _ _ _ (by omega) (by omega) UA UB).mono ?_; rintro e w27 ⟨rfl, kb27⟩; rw [VA.out, VB.out, SD.out.1]; replace BA := BA.keep kb27; replace BB := BB.keep kb27; replace BC := BC.keep kb27; replace Bab := Bab.keep kb27; replace Bbc := Bbc.keep kb27; replace UA := UA.below kb27 (Nat.le_refl _); replace UB := UB.below kb27 (Nat.le_refl _); replace UC := UC.below kb27 (Nat.le_refl _); replace Uab := Uab.below kb27 (Nat.le_refl _); replace Ubc := Ubc.below kb27 (Nat.le_refl _); replace Ux6 := Ux6.below kb27 (Nat.le_refl _); replace Hw := Hw.trans (kb27.mono Hw.size); clear kb27; clear tk21))
  clear Ux6
  have rA0 := BA.c0
  have rA1 := BA.c1
  have rB0 := BB.c0
  have rB1 := BB.c1
  have rC0 := BC.c0
  have rC1 := BC.c1
  have rab0 := Bab.c0
  have rab1 := Bab.c1
  have rbc0 := Bbc.c0
  have rbc1 := Bbc.c1
  go_wp2_with fail
  clear rA0 rA1 rB0 rB1 rC0 rC1 rab0 rab1 rbc0 rbc1
  replace BA := BA.drew
  replace BB := BB.drew
  replace BC := BC.drew
  replace Bab := Bab.drew
  replace Bbc := Bbc.drew
  replace UA := UA.drew
  replace UB := UB.drew
  replace UC := UC.drew
  replace Uab := Uab.drew
  replace Ubc := Ubc.drew
  replace Hw := Hw.drew
  have tk22 : True := trivial
  have tk23 : True := trivial
  have tk24 : True := trivial
  go_region_held3 (fun wx => (wx.cell? ⟨w.heap.size, 0, none⟩ = some (.bool sgA) ∧ wx.cell? ⟨w.heap.size, 1, none⟩ = some (.slice aA nA cA))) (with_reducible exact ⟨BA.c0, BA.c1⟩) (first | (have _t := tk22; go_at_call 22; refine (neg_any _ _ _ _ _ _ (by omega) UA).mono ?_; rintro e w28 ⟨sgx7, ax7, nx7, cx7, fx7, rfl, k1, k2, kb28, k4, k5, k6, Lx7⟩; have Vx7 : Hid (ival sgx7 (val fx7 nx7) = -A) := hid (by rw [k6, VA.out]); have Mx7 := k4; have Sx7 := hid k5; clear k6 k5 k4 k2; replace BA := BA.keep kb28; replace BB := BB.keep kb28; replace BC := BC.keep kb28; replace Bab := Bab.keep kb28; replace Bbc := Bbc.keep kb28; replace UA := UA.below kb28 (Nat.le_refl _); replace UB := UB.below kb28 (Nat.le_refl _); replace UC := UC.below kb28 (Nat.le_refl _); replace Uab := Uab.below kb28 (Nat.le_refl _); replace Ubc := Ubc.below kb28 (Nat.le_refl _); replace Hw := Hw.trans (kb28.mono Hw.size); have Ux7 := k1; clear k1; clear kb28; clear tk22) | (have _t := tk23; go_at_call 22; refine (neg_any _ _ _ _ _ _ (by omega) Ux7).mono ?_; rintro e w29 ⟨sgy7, ay7, ny7, cy7, fy7, rfl, k1, k2, kb29, k4, k5, k6, Ly7⟩; have Vy7 : Hid (ival sgy7 (val fy7 ny7) = - -A) := hid (by rw [k6, Vx7.out]); have My7 := k4; have Sy7 := hid k5; clear k6 k5 k4 k2; replace BA := BA.keep kb29; replace BB := BB.keep kb29; replace BC := BC.keep kb29; replace Bab := Bab.keep kb29; replace Bbc := Bbc.keep kb29; replace UA := UA.below kb29 (Nat.le_refl _); replace UB := UB.below kb29 (Nat.le_refl _); replace UC := UC.below kb29 (Nat.le_refl _); replace Uab := Uab.below kb29 (Nat.le_refl _); replace Ubc := Ubc.below kb29 (Nat.le_refl _); replace Ux7 := Ux7.below kb29 (Nat.le_refl _); replace Hw := Hw.trans (kb29.mono Hw.size); have Uy7 := k1; clear k1; clear kb29; clear tk23) | (have _t := tk24; go_at_call 32; refine (cmp_any _ _ _ _ _ _ _ _ _ _ _ (by omega) (by omega) Uy7 UA).mono ?_; rintro e w30 ⟨rfl, kb30⟩; rw [Vy7.out, VA.out, cmpI_eq (Int.neg_neg A)]; replace BA := BA.keep kb30; replace BB := BB.keep kb30; replace BC := BC.keep kb30; replace Bab := Bab.keep kb30; replace Bbc := Bbc.keep kb30; replace UA := UA.below kb30 (Nat.le_refl _); replace UB := UB.below kb30 (Nat.le_refl _); replace UC := UC.below kb30 (Nat.le_refl _); replace Uab := Uab.below kb30 (Nat.le_refl _); replace Ubc := Ubc.below kb30 (Nat.le_refl _); replace Ux7 := Ux7.below kb30 (Nat.le_refl _); replace Uy7 := Uy7.below kb30 (Nat.le_refl _); replace Hw := Hw.trans (kb30.mono Hw.size); clear kb30; clear tk24))
  go_wp2_with fail
  go_ret
  exact ⟨rfl, Hw⟩
end Go.Proofs.YticfggljaagcmaaDoor
