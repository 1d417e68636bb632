/-
  The reference's DivMod, walked.
-/
import Derived.Test.YticfggljaagcmaaDoorAwake
import Derived.Test.YticfggljaagcmaaDoorRInts2
import Derived.Test.YticfggljaagcmaaDoorRDiv
import Derived.Test.YticfggljaagcmaaDoorRegT
namespace Go.Proofs.YticfggljaagcmaaDoor
set_option linter.all false
open Go.RowKit

theorem fd_rest {A B q r : Int} (h : FD A B q r) : FD A B q (A - q * B) := by
  have e : A - q * B = r := by have := h.1; omega
  rw [e]; exact h

set_option maxHeartbeats 8000000 in
set_option maxRecDepth 100000 in
theorem rdivMod_zero (sgA : Bool) (aA : Option Addr) (nA cA : Nat) (fA : Nat → Nat) (sgB : Bool) (aB : Option Addr) (nB cB : Nat) (fB : Nat → Nat) (w : World) (hA : nA ≤ 68719476736) (UA : Us w aA nA cA fA) (hB : nB ≤ 68719476736) (UB : Us w aB nB cB fB) (h0 : val fB nB = 0) :
    Calls Tryd.prog 12 #[.agg #[.bool sgA, .slice aA nA cA], .agg #[.bool sgB, .slice aB nB cB]] w fun e w' => e = .returned (.tuple #[.agg #[.bool false, .slice none 0 0], .agg #[.bool false, .slice none 0 0], .int .i64 10]) ∧ Below w.heap.size w w' := by
  have Hw := (below_alloc4 w (.cells #[.bool sgA, .slice aA nA cA] 24) (.cells #[.bool sgB, .slice aB nB cB] 24) (.cells #[.bool false, .slice none 0 0] 24) (.cells #[.bool false, .slice none 0 0] 24))
  obtain ⟨A, VA⟩ : ∃ A : Int, Hid (ival sgA (val fA nA) = A) := ⟨_, hid rfl⟩
  obtain ⟨B, VB⟩ : ∃ B : Int, Hid (ival sgB (val fB nB) = B) := ⟨_, hid rfl⟩
  have B4 := Bx4.made w (.bool sgA) (.slice aA nA cA) (.bool sgB) (.slice aB nB cB) (.bool false) (.slice none 0 0) (.bool false) (.slice none 0 0) 24
  obtain ⟨BA, BB, BZq, BZr⟩ := B4
  replace UA := UA.below Hw (Nat.le_refl _)
  replace UB := UB.below Hw (Nat.le_refl _)
  have hsz := BZr.lt
  go_enter Tryd.func12, Tryd.ntmps12
  have HS : Hid (sgn B = 0) := hid (by rw [← VB.out, h0]; cases sgB <;> rfl)
  clear h0
  have rA0 := BA.c0
  have rA1 := BA.c1
  have rB0 := BB.c0
  have rB1 := BB.c1
  have rZq0 := BZq.c0
  have rZq1 := BZq.c1
  have rZr0 := BZr.c0
  have rZr1 := BZr.c1
  go_wp2_with fail
  clear rA0 rA1 rB0 rB1 rZq0 rZq1 rZr0 rZr1
  generalize ((((w.alloc (.cells #[.bool sgA, .slice aA nA cA] 24)).alloc (.cells #[.bool sgB, .slice aB nB cB] 24)).alloc (.cells #[.bool false, .slice none 0 0] 24)).alloc (.cells #[.bool false, .slice none 0 0] 24)) = w0 at BA BB BZq BZr UA UB Hw hsz ⊢
  refine (rsign_any _ _ _ _ _ _ (by omega) UB).mono ?_
  rintro e w1 ⟨rfl, kb1⟩
  rw [VB.out, HS.out]
  replace BA := BA.keep kb1
  replace BB := BB.keep kb1
  replace BZq := BZq.keep kb1
  replace BZr := BZr.keep kb1
  replace UA := UA.below kb1 (Nat.le_refl _)
  replace UB := UB.below kb1 (Nat.le_refl _)
  replace Hw := Hw.trans (kb1.mono Hw.size)
  clear kb1
  have rA0 := BA.c0
  have rA1 := BA.c1
  have rB0 := BB.c0
  have rB1 := BB.c1
  have rZq0 := BZq.c0
  have rZq1 := BZq.c1
  have rZr0 := BZr.c0
  have rZr1 := BZr.c1
  have fZq := BZq.fr
  have fZr := BZr.fr
  go_wp2_with fail
  have hb := Below.put4 Hw (b := w.heap.size + 1 + 1) (b' := w.heap.size + 1 + 1 + 1) (by omega) (by omega) (.bool false) (.slice none 0 0) (.bool false) (.slice none 0 0)
  exact bodyPost_ret (v := .tuple #[.agg #[.bool false, .slice none 0 0], .agg #[.bool false, .slice none 0 0], .int .i64 10]) (by simp [results, Tryd.results12, go_sem, *]) rfl ⟨rfl, hb⟩

set_option maxHeartbeats 8000000 in
set_option maxRecDepth 100000 in
theorem rdivMod_any (sgA : Bool) (aA : Option Addr) (nA cA : Nat) (fA : Nat → Nat) (sgB : Bool) (aB : Option Addr) (nB cB : Nat) (fB : Nat → Nat) (w : World) (hA : nA ≤ 68719476736) (UA : Us w aA nA cA fA) (hB : nB ≤ 68719476736) (UB : Us w aB nB cB fB) (h0 : 0 < val fB nB) :
    Calls Tryd.prog 12 #[.agg #[.bool sgA, .slice aA nA cA], .agg #[.bool sgB, .slice aB nB cB]] w fun e w' => ∃ sgq aq nq cq fq sgr ar nr cr fr, e = .returned (.tuple #[.agg #[.bool sgq, .slice aq nq cq], .agg #[.bool sgr, .slice ar nr cr], .int .i64 0]) ∧ Us w' aq nq cq fq ∧ Us w' ar nr cr fr ∧ Below w.heap.size w w' ∧ Hid (FD (ival sgA (val fA nA)) (ival sgB (val fB nB)) (ival sgq (val fq nq)) (ival sgr (val fr nr))) ∧ nq ≤ nA + 3 ∧ nr ≤ 8 * (nA + nB) + 60 := by
  have Hw := (below_alloc4 w (.cells #[.bool sgA, .slice aA nA cA] 24) (.cells #[.bool sgB, .slice aB nB cB] 24) (.cells #[.bool false, .slice none 0 0] 24) (.cells #[.bool false, .slice none 0 0] 24))
  obtain ⟨A, VA⟩ : ∃ A : Int, Hid (ival sgA (val fA nA) = A) := ⟨_, hid rfl⟩
  obtain ⟨B, VB⟩ : ∃ B : Int, Hid (ival sgB (val fB nB) = B) := ⟨_, hid rfl⟩
  have B4 := Bx4.made w (.bool sgA) (.slice aA nA cA) (.bool sgB) (.slice aB nB cB) (.bool false) (.slice none 0 0) (.bool false) (.slice none 0 0) 24
  obtain ⟨BA, BB, BZq, BZr⟩ := B4
  replace UA := UA.below Hw (Nat.le_refl _)
  replace UB := UB.below Hw (Nat.le_refl _)
  have hsz := BZr.lt
  go_enter Tryd.func12, Tryd.ntmps12
  have HS : Hid (∃ s : Int, ¬ s = 0 ∧ sgn B = s) := hid ⟨sgn B, by have hB := VB.out; have hne : B ≠ 0 := (by rw [← hB]; unfold ival; cases sgB <;> simp <;> omega); intro h; unfold sgn at h; split at h <;> (try split at h) <;> omega, rfl⟩
  obtain ⟨sB, hsB, HS⟩ := HS.out
  replace HS := hid HS
  have H0 := hid h0
  clear h0
  have rA0 := BA.c0
  have rA1 := BA.c1
  have rB0 := BB.c0
  have rB1 := BB.c1
  have rZq0 := BZq.c0
  have rZq1 := BZq.c1
  have rZr0 := BZr.c0
  have rZr1 := BZr.c1
  go_wp2_with fail
  clear rA0 rA1 rB0 rB1 rZq0 rZq1 rZr0 rZr1
  generalize ((((w.alloc (.cells #[.bool sgA, .slice aA nA cA] 24)).alloc (.cells #[.bool sgB, .slice aB nB cB] 24)).alloc (.cells #[.bool false, .slice none 0 0] 24)).alloc (.cells #[.bool false, .slice none 0 0] 24)) = w0 at BA BB BZq BZr UA UB Hw hsz ⊢
  refine (rsign_any _ _ _ _ _ _ (by omega) UB).mono ?_
  rintro e w1 ⟨rfl, kb1⟩
  rw [VB.out, HS.out]
  replace BA := BA.keep kb1
  replace BB := BB.keep kb1
  replace BZq := BZq.keep kb1
  replace BZr := BZr.keep kb1
  replace UA := UA.below kb1 (Nat.le_refl _)
  replace UB := UB.below kb1 (Nat.le_refl _)
  replace Hw := Hw.trans (kb1.mono Hw.size)
  clear kb1
  have hsw := Hw.size
  have rA0 := BA.c0
  have rA1 := BA.c1
  have rB0 := BB.c0
  have rB1 := BB.c1
  have rZq0 := BZq.c0
  have rZq1 := BZq.c1
  have rZr0 := BZr.c0
  have rZr1 := BZr.c1
  go_wp2_with fail
  clear rA0 rA1 rB0 rB1 rZq0 rZq1 rZr0 rZr1
  refine (rnorm_any _ _ _ _ _ _ (by omega) UA).mono ?_
  rintro e w2 ⟨sgx1, ax1, nx1, cx1, fx1, rfl, k1, k2, kb2, k4, k5, k6, Lx1⟩
  have Vx1 : Hid (ival sgx1 (val fx1 nx1) = A) := hid (by rw [k6, VA.out])
  have Mx1 := k4
  have Sx1 := hid k5
  clear k6 k5 k4 k2
  replace BA := BA.keep kb2
  replace BB := BB.keep kb2
  replace BZq := BZq.keep kb2
  replace BZr := BZr.keep kb2
  replace UA := UA.below kb2 (Nat.le_refl _)
  replace UB := UB.below kb2 (Nat.le_refl _)
  replace Hw := Hw.trans (kb2.mono Hw.size)
  have Ux1 := k1
  clear k1
  clear kb2
  have hbx := BZr.lt
  have Nx1 := Bx.made w2 (.bool sgx1) (.slice ax1 nx1 cx1) 24
  replace BA := BA.alloc (.cells #[.bool sgx1, .slice ax1 nx1 cx1] 24)
  replace BB := BB.alloc (.cells #[.bool sgx1, .slice ax1 nx1 cx1] 24)
  replace BZq := BZq.alloc (.cells #[.bool sgx1, .slice ax1 nx1 cx1] 24)
  replace BZr := BZr.alloc (.cells #[.bool sgx1, .slice ax1 nx1 cx1] 24)
  replace UA := UA.alloc (.cells #[.bool sgx1, .slice ax1 nx1 cx1] 24)
  replace UB := UB.alloc (.cells #[.bool sgx1, .slice ax1 nx1 cx1] 24)
  replace Ux1 := Ux1.alloc (.cells #[.bool sgx1, .slice ax1 nx1 cx1] 24)
  replace Hw := Hw.alloc Hw.size (.cells #[.bool sgx1, .slice ax1 nx1 cx1] 24)
  have Bx1 := Nx1
  clear Nx1
  have rA0 := BA.c0
  have rA1 := BA.c1
  have rB0 := BB.c0
  have rB1 := BB.c1
  have rZq0 := BZq.c0
  have rZq1 := BZq.c1
  have rZr0 := BZr.c0
  have rZr1 := BZr.c1
  have rx10 := Bx1.c0
  have rx11 := Bx1.c1
  go_wp2_with fail
  clear rA0 rA1 rB0 rB1 rZq0 rZq1 rZr0 rZr1 rx10 rx11
  generalize (w2.alloc (.cells #[.bool sgx1, .slice ax1 nx1 cx1] 24)) = w3 at BA BB BZq BZr Bx1 UA UB Ux1 Hw ⊢
  refine (rnorm_any _ _ _ _ _ _ (by omega) UB).mono ?_
  rintro e w4 ⟨sgy1, ay1, ny1, cy1, fy1, rfl, k1, k2, kb4, k4, k5, k6, Ly1⟩
  have Vy1 : Hid (ival sgy1 (val fy1 ny1) = B) := hid (by rw [k6, VB.out])
  have My1 := k4
  have Sy1 := hid k5
  clear k6 k5 k4 k2
  replace BA := BA.keep kb4
  replace BB := BB.keep kb4
  replace BZq := BZq.keep kb4
  replace BZr := BZr.keep kb4
  replace Bx1 := Bx1.keep kb4
  replace UA := UA.below kb4 (Nat.le_refl _)
  replace UB := UB.below kb4 (Nat.le_refl _)
  replace Ux1 := Ux1.below kb4 (Nat.le_refl _)
  replace Hw := Hw.trans (kb4.mono Hw.size)
  have Uy1 := k1
  clear k1
  clear kb4
  have hby := BZr.lt
  have Ny1 := Bx.made w4 (.bool sgy1) (.slice ay1 ny1 cy1) 24
  replace BA := BA.alloc (.cells #[.bool sgy1, .slice ay1 ny1 cy1] 24)
  replace BB := BB.alloc (.cells #[.bool sgy1, .slice ay1 ny1 cy1] 24)
  replace BZq := BZq.alloc (.cells #[.bool sgy1, .slice ay1 ny1 cy1] 24)
  replace BZr := BZr.alloc (.cells #[.bool sgy1, .slice ay1 ny1 cy1] 24)
  replace Bx1 := Bx1.alloc (.cells #[.bool sgy1, .slice ay1 ny1 cy1] 24)
  replace UA := UA.alloc (.cells #[.bool sgy1, .slice ay1 ny1 cy1] 24)
  replace UB := UB.alloc (.cells #[.bool sgy1, .slice ay1 ny1 cy1] 24)
  replace Ux1 := Ux1.alloc (.cells #[.bool sgy1, .slice ay1 ny1 cy1] 24)
  replace Uy1 := Uy1.alloc (.cells #[.bool sgy1, .slice ay1 ny1 cy1] 24)
  replace Hw := Hw.alloc Hw.size (.cells #[.bool sgy1, .slice ay1 ny1 cy1] 24)
  have By1 := Ny1
  clear Ny1
  have rA0 := BA.c0
  have rA1 := BA.c1
  have rB0 := BB.c0
  have rB1 := BB.c1
  have rZq0 := BZq.c0
  have rZq1 := BZq.c1
  have rZr0 := BZr.c0
  have rZr1 := BZr.c1
  have rx10 := Bx1.c0
  have rx11 := Bx1.c1
  have ry10 := By1.c0
  have ry11 := By1.c1
  go_wp2_with fail
  clear rA0 rA1 rB0 rB1 rZq0 rZq1 rZr0 rZr1 rx10 rx11 ry10 ry11
  generalize (w4.alloc (.cells #[.bool sgy1, .slice ay1 ny1 cy1] 24)) = w5 at BA BB BZq BZr Bx1 By1 UA UB Ux1 Uy1 Hw ⊢
  have hpos : 0 < val fy1 ny1 := by have h1 := H0.out; have h2 := Vy1.out; have h3 := VB.out; rw [← h3] at h2; have h4 := ival_abs h2; omega
  refine (rnatDiv_any _ _ _ _ _ _ _ _ _ (by omega) (by omega) Ux1 Uy1 hpos).mono ?_
  rintro e w6 ⟨am, nm, cm, fm, ao, no, co, fo, rfl, Um, _, Uo, _, kb, Mm, Mo, hdv, hlt, Lm', Lo'⟩
  clear hpos
  replace BA := BA.keep kb
  replace BB := BB.keep kb
  replace BZq := BZq.keep kb
  replace BZr := BZr.keep kb
  replace Bx1 := Bx1.keep kb
  replace By1 := By1.keep kb
  replace UA := UA.below kb (Nat.le_refl _)
  replace UB := UB.below kb (Nat.le_refl _)
  replace Ux1 := Ux1.below kb (Nat.le_refl _)
  replace Uy1 := Uy1.below kb (Nat.le_refl _)
  replace Hw := Hw.trans (kb.mono Hw.size)
  clear kb
  obtain ⟨Qm, HQm⟩ : ∃ z : Nat, Hid (val fm nm = z) := ⟨_, hid rfl⟩
  obtain ⟨Ro, HRo⟩ : ∃ z : Nat, Hid (val fo no = z) := ⟨_, hid rfl⟩
  have HDV : Hid (val fx1 nx1 = Qm * val fy1 ny1 + Ro ∧ Ro < val fy1 ny1) := hid (by rw [← HQm.out, ← HRo.out]; exact ⟨hdv.out, hlt⟩)
  clear hdv hlt
  have nsx := Bx.lt BZr
  rcases sgx1 with _ | _ <;> rcases sgy1 with _ | _
  ·
    have hFD : Hid (∀ z, Hid (ival false Qm = z) → (FD A B z (A - z * B))) := hid (fun z hz => by have := fd_plain (s1 := false) (s2 := false) HDV.out.1 HDV.out.2 (.inr rfl); rw [Vx1.out, Vy1.out, show (false != false) = false from rfl, hz.out] at this; exact fd_rest this)
    have rA0 := BA.c0
    have rA1 := BA.c1
    have rB0 := BB.c0
    have rB1 := BB.c1
    have rZq0 := BZq.c0
    have rZq1 := BZq.c1
    have rZr0 := BZr.c0
    have rZr1 := BZr.c1
    have rx10 := Bx1.c0
    have rx11 := Bx1.c1
    have ry10 := By1.c0
    have ry11 := By1.c1
    go_wp2_with fail
    clear rA0 rA1 rB0 rB1 rZq0 rZq1 rZr0 rZr1 rx10 rx11 ry10 ry11
    refine (rnorm_any _ _ _ _ _ _ (by omega) Um).mono ?_
    rintro e w7 ⟨sgq, aq, nq, cq, fq, rfl, k1, k2, kb7, k4, k5, k6, Lq⟩
    obtain ⟨Z0, HZ0⟩ : ∃ z : Int, Hid (ival false Qm = z) := ⟨_, hid rfl⟩
    have Vq : Hid (ival sgq (val fq nq) = Z0) := hid (by rw [k6, HQm.out, HZ0.out])
    have Nwq := k2
    clear k6 k5 k4 k2
    replace BA := BA.keep kb7
    replace BB := BB.keep kb7
    replace BZq := BZq.keep kb7
    replace BZr := BZr.keep kb7
    replace Bx1 := Bx1.keep kb7
    replace By1 := By1.keep kb7
    replace UA := UA.below kb7 (Nat.le_refl _)
    replace UB := UB.below kb7 (Nat.le_refl _)
    replace Ux1 := Ux1.below kb7 (Nat.le_refl _)
    replace Uy1 := Uy1.below kb7 (Nat.le_refl _)
    replace Hw := Hw.trans (kb7.mono Hw.size)
    replace Uo := Uo.below kb7 (Nat.le_refl _)
    have Uq := k1
    clear k1 kb7 Um
    have nsq := BZr.lt
    replace Nwq := New.below Nwq Uq (below_alloc w7 (.cells #[.bool sgq, .slice aq nq cq] 24)) (Nat.le_refl _)
    replace Uo := Uo.alloc (.cells #[.bool sgq, .slice aq nq cq] 24)
    have Bqq := Bx.made w7 (.bool sgq) (.slice aq nq cq) 24
    replace BA := BA.alloc (.cells #[.bool sgq, .slice aq nq cq] 24)
    replace BB := BB.alloc (.cells #[.bool sgq, .slice aq nq cq] 24)
    replace BZq := BZq.alloc (.cells #[.bool sgq, .slice aq nq cq] 24)
    replace BZr := BZr.alloc (.cells #[.bool sgq, .slice aq nq cq] 24)
    replace Bx1 := Bx1.alloc (.cells #[.bool sgq, .slice aq nq cq] 24)
    replace By1 := By1.alloc (.cells #[.bool sgq, .slice aq nq cq] 24)
    replace UA := UA.alloc (.cells #[.bool sgq, .slice aq nq cq] 24)
    replace UB := UB.alloc (.cells #[.bool sgq, .slice aq nq cq] 24)
    replace Ux1 := Ux1.alloc (.cells #[.bool sgq, .slice aq nq cq] 24)
    replace Uy1 := Uy1.alloc (.cells #[.bool sgq, .slice aq nq cq] 24)
    replace Uq := Uq.alloc (.cells #[.bool sgq, .slice aq nq cq] 24)
    replace Hw := Hw.alloc Hw.size (.cells #[.bool sgq, .slice aq nq cq] 24)
    have rA0 := BA.c0
    have rA1 := BA.c1
    have rB0 := BB.c0
    have rB1 := BB.c1
    have rZq0 := BZq.c0
    have rZq1 := BZq.c1
    have rZr0 := BZr.c0
    have rZr1 := BZr.c1
    have rx10 := Bx1.c0
    have rx11 := Bx1.c1
    have ry10 := By1.c0
    have ry11 := By1.c1
    have rqq0 := Bqq.c0
    have rqq1 := Bqq.c1
    go_wp2_with fail
    clear rA0 rA1 rB0 rB1 rZq0 rZq1 rZr0 rZr1 rx10 rx11 ry10 ry11 rqq0 rqq1
    generalize (w7.alloc (.cells #[.bool sgq, .slice aq nq cq] 24)) = w8 at BA BB BZq BZr Bx1 By1 Bqq UA UB Ux1 Uy1 Uq Hw Nwq ⊢
    have HZ := HZ0
    obtain ⟨Z, HZ⟩ : ∃ z : Int, Hid (Z0 = z) := ⟨_, hid rfl⟩
    replace Vq : Hid (ival sgq (val fq nq) = Z) := hid (Vq.out.trans HZ.out)
    have rA0 := BA.c0
    have rA1 := BA.c1
    have rB0 := BB.c0
    have rB1 := BB.c1
    have rZq0 := BZq.c0
    have rZq1 := BZq.c1
    have rZr0 := BZr.c0
    have rZr1 := BZr.c1
    have rx10 := Bx1.c0
    have rx11 := Bx1.c1
    have ry10 := By1.c0
    have ry11 := By1.c1
    have rqq0 := Bqq.c0
    have rqq1 := Bqq.c1
    go_wp2_with fail
    clear rA0 rA1 rB0 rB1 rZq0 rZq1 rZr0 rZr1 rx10 rx11 ry10 ry11 rqq0 rqq1
    replace BA := BA.drew
    replace BB := BB.drew
    replace BZq := BZq.drew
    replace BZr := BZr.drew
    replace Bx1 := Bx1.drew
    replace By1 := By1.drew
    replace Bqq := Bqq.drew
    replace UA := UA.drew
    replace UB := UB.drew
    replace Ux1 := Ux1.drew
    replace Uy1 := Uy1.drew
    replace Uq := Uq.drew
    replace Nwq := Nwq.drew
    replace Hw := Hw.drew
    refine region_T (S := fun wx => (wx.cell? ⟨w7.heap.size, 0, none⟩ = some (.bool sgq) ∧ wx.cell? ⟨w7.heap.size, 1, none⟩ = some (.slice aq nq cq)) ∧ (wx.cell? ⟨w2.heap.size, 0, none⟩ = some (.bool false) ∧ wx.cell? ⟨w2.heap.size, 1, none⟩ = some (.slice ax1 nx1 cx1)) ∧ (wx.cell? ⟨w4.heap.size, 0, none⟩ = some (.bool false) ∧ wx.cell? ⟨w4.heap.size, 1, none⟩ = some (.slice ay1 ny1 cy1))) (T := fun _ => false) (by kernel_rfl) ?_
    have hS0 : (w8.drew.cell? ⟨w7.heap.size, 0, none⟩ = some (.bool sgq) ∧ w8.drew.cell? ⟨w7.heap.size, 1, none⟩ = some (.slice aq nq cq)) ∧ (w8.drew.cell? ⟨w2.heap.size, 0, none⟩ = some (.bool false) ∧ w8.drew.cell? ⟨w2.heap.size, 1, none⟩ = some (.slice ax1 nx1 cx1)) ∧ (w8.drew.cell? ⟨w4.heap.size, 0, none⟩ = some (.bool false) ∧ w8.drew.cell? ⟨w4.heap.size, 1, none⟩ = some (.slice ay1 ny1 cy1)) := ⟨⟨(Bqq).c0, (Bqq).c1⟩, ⟨(Bx1).c0, (Bx1).c1⟩, ⟨(By1).c0, (By1).c1⟩⟩
    refine anyT_take (i := 0) (v := ?_) rfl (by kernel_rfl) (by kernel_rfl) (by kernel_rfl) (by kernel_rfl) (by kernel_rfl) (fun _ _ _ h => h) (Or.inl ⟨by rfl, ?_⟩) hS0 ?_
    rotate_left 1
    · intro wz hz; obtain ⟨⟨_, _⟩, ⟨_, _⟩, ⟨_, _⟩⟩ := hz; go_simp; try with_reducible rfl
    try simp only [Act.put, List.setIfInBounds_toArray, List.set_cons_zero, List.set_cons_succ]
    refine anyT_take (i := 1) (v := ?_) rfl (by kernel_rfl) (by kernel_rfl) (by kernel_rfl) (by kernel_rfl) (by kernel_rfl) (fun _ _ _ h => h) (Or.inl ⟨by rfl, ?_⟩) hS0 ?_
    rotate_left 1
    · intro wz hz; obtain ⟨⟨_, _⟩, ⟨_, _⟩, ⟨_, _⟩⟩ := hz; go_simp; try with_reducible rfl
    try simp only [Act.put, List.setIfInBounds_toArray, List.set_cons_zero, List.set_cons_succ]
    refine anyT_take (i := 2) (v := ?_) rfl (by kernel_rfl) (by kernel_rfl) (by kernel_rfl) (by kernel_rfl) (by kernel_rfl) (fun _ _ _ h => h) (Or.inl ⟨by rfl, ?_⟩) hS0 ?_
    rotate_left 1
    · intro wz hz; obtain ⟨⟨_, _⟩, ⟨_, _⟩, ⟨_, _⟩⟩ := hz; go_simp; try with_reducible rfl
    try simp only [Act.put, List.setIfInBounds_toArray, List.set_cons_zero, List.set_cons_succ]
    refine anyT_take (i := 3) (v := ?_) rfl (by kernel_rfl) (by kernel_rfl) (by kernel_rfl) (by kernel_rfl) (by kernel_rfl) (fun _ _ _ h => h) (Or.inl ⟨by rfl, ?_⟩) hS0 ?_
    rotate_left 1
    · intro wz hz; obtain ⟨⟨_, _⟩, ⟨_, _⟩, ⟨_, _⟩⟩ := hz; go_simp; try with_reducible rfl
    try simp only [Act.put, List.setIfInBounds_toArray, List.set_cons_zero, List.set_cons_succ]
    clear hS0
    refine anyT_one (i := 4) (by kernel_rfl) rfl (fun K hK => ?_)
    go_simp
    refine (rmul_any _ _ _ _ _ _ _ _ _ _ _ (by omega) (by omega) Uq Uy1).mono ?_
    rintro e w9 ⟨sgpr, apr, npr, cpr, fpr, rfl, k1, k2, kb9, k4, k5, k6, Lpr⟩
    have Vpr : Hid (ival sgpr (val fpr npr) = Z * B) := hid (by rw [k6, Vq.out, Vy1.out])
    have Mpr := k4
    have Spr := hid k5
    clear k6 k5 k4 k2
    replace Nwq := New.below Nwq Uq kb9 (Nat.le_refl _)
    replace BA := BA.keep kb9
    replace BB := BB.keep kb9
    replace BZq := BZq.keep kb9
    replace BZr := BZr.keep kb9
    replace Bx1 := Bx1.keep kb9
    replace By1 := By1.keep kb9
    replace Bqq := Bqq.keep kb9
    replace UA := UA.below kb9 (Nat.le_refl _)
    replace UB := UB.below kb9 (Nat.le_refl _)
    replace Ux1 := Ux1.below kb9 (Nat.le_refl _)
    replace Uy1 := Uy1.below kb9 (Nat.le_refl _)
    replace Uq := Uq.below kb9 (Nat.le_refl _)
    replace Hw := Hw.trans (kb9.mono Hw.size)
    have Upr := k1
    clear k1
    clear kb9
    refine hK.out _ _ (fun _ => ⟨⟨(Bqq).c0, (Bqq).c1⟩, ⟨(Bx1).c0, (Bx1).c1⟩, ⟨(By1).c0, (By1).c1⟩⟩) ?_
    clear hK K
    try simp only [Act.put, List.setIfInBounds_toArray, List.set_cons_zero, List.set_cons_succ]
    refine anyT_one (i := 5) (by kernel_rfl) rfl (fun K hK => ?_)
    go_simp
    have hz9 := BZr.lt
    refine (rsub_any _ _ _ _ _ _ _ _ _ _ _ (by omega) (by omega) Ux1 Upr).mono ?_
    rintro e w10 ⟨sgrr, arr, nrr, crr, frr, rfl, k1, k2, kb10, k4, k5, k6, Lrr⟩
    have Vrr : Hid (ival sgrr (val frr nrr) = A - Z * B) := hid (by rw [k6, Vx1.out, Vpr.out])
    have Mrr := k4
    have Srr := hid k5
    have Nwrr := k2; clear k6 k5 k4 k2
    replace Nwq := New.below Nwq Uq kb10 (Nat.le_refl _)
    replace BA := BA.keep kb10
    replace BB := BB.keep kb10
    replace BZq := BZq.keep kb10
    replace BZr := BZr.keep kb10
    replace Bx1 := Bx1.keep kb10
    replace By1 := By1.keep kb10
    replace Bqq := Bqq.keep kb10
    replace UA := UA.below kb10 (Nat.le_refl _)
    replace UB := UB.below kb10 (Nat.le_refl _)
    replace Ux1 := Ux1.below kb10 (Nat.le_refl _)
    replace Uy1 := Uy1.below kb10 (Nat.le_refl _)
    replace Uq := Uq.below kb10 (Nat.le_refl _)
    replace Upr := Upr.below kb10 (Nat.le_refl _)
    replace Hw := Hw.trans (kb10.mono Hw.size)
    have Urr := k1
    clear k1
    clear kb10
    refine hK.out _ _ (fun _ => ⟨⟨(Bqq).c0, (Bqq).c1⟩, ⟨(Bx1).c0, (Bx1).c1⟩, ⟨(By1).c0, (By1).c1⟩⟩) ?_
    clear hK K
    try simp only [Act.put, List.setIfInBounds_toArray, List.set_cons_zero, List.set_cons_succ]
    have fZq := BZq.fr
    have fZr := BZr.fr
    have zq0 := BZq.c0
    have zq1 := BZq.c1
    have zr0 := BZr.c0
    have zr1 := BZr.c1
    have hz1 := BZq.lt
    have hz2 := BZr.lt
    refine anyT_one (i := 6) (by kernel_rfl) rfl (fun K hK => ?_)
    go_simp
    refine hK.out _ _ (fun _ => ⟨⟨((Bqq.other (by first | (simp; done) | (simp; omega)) _).other (by first | (simp; done) | (simp; omega)) _).c0, ((Bqq.other (by first | (simp; done) | (simp; omega)) _).other (by first | (simp; done) | (simp; omega)) _).c1⟩, ⟨((Bx1.other (by first | (simp; done) | (simp; omega)) _).other (by first | (simp; done) | (simp; omega)) _).c0, ((Bx1.other (by first | (simp; done) | (simp; omega)) _).other (by first | (simp; done) | (simp; omega)) _).c1⟩, ⟨((By1.other (by first | (simp; done) | (simp; omega)) _).other (by first | (simp; done) | (simp; omega)) _).c0, ((By1.other (by first | (simp; done) | (simp; omega)) _).other (by first | (simp; done) | (simp; omega)) _).c1⟩⟩) ?_
    clear hK K
    try simp only [Act.put, List.setIfInBounds_toArray, List.set_cons_zero, List.set_cons_succ]
    refine anyT_one (i := 7) (by kernel_rfl) rfl (fun K hK => ?_)
    go_simp
    refine hK.out _ _ (fun _ => ⟨⟨((((Bqq.other (by first | (simp; done) | (simp; omega)) _).other (by first | (simp; done) | (simp; omega)) _).other (by first | (simp; done) | (simp; omega)) _).other (by first | (simp; done) | (simp; omega)) _).c0, ((((Bqq.other (by first | (simp; done) | (simp; omega)) _).other (by first | (simp; done) | (simp; omega)) _).other (by first | (simp; done) | (simp; omega)) _).other (by first | (simp; done) | (simp; omega)) _).c1⟩, ⟨((((Bx1.other (by first | (simp; done) | (simp; omega)) _).other (by first | (simp; done) | (simp; omega)) _).other (by first | (simp; done) | (simp; omega)) _).other (by first | (simp; done) | (simp; omega)) _).c0, ((((Bx1.other (by first | (simp; done) | (simp; omega)) _).other (by first | (simp; done) | (simp; omega)) _).other (by first | (simp; done) | (simp; omega)) _).other (by first | (simp; done) | (simp; omega)) _).c1⟩, ⟨((((By1.other (by first | (simp; done) | (simp; omega)) _).other (by first | (simp; done) | (simp; omega)) _).other (by first | (simp; done) | (simp; omega)) _).other (by first | (simp; done) | (simp; omega)) _).c0, ((((By1.other (by first | (simp; done) | (simp; omega)) _).other (by first | (simp; done) | (simp; omega)) _).other (by first | (simp; done) | (simp; omega)) _).other (by first | (simp; done) | (simp; omega)) _).c1⟩⟩) ?_
    clear hK K
    try simp only [Act.put, List.setIfInBounds_toArray, List.set_cons_zero, List.set_cons_succ]
    refine anyT_one (i := 8) (by kernel_rfl) rfl (fun K hK => ?_)
    go_simp
    refine hK.out _ _ (fun _ => ⟨⟨((((Bqq.other (by first | (simp; done) | (simp; omega)) _).other (by first | (simp; done) | (simp; omega)) _).other (by first | (simp; done) | (simp; omega)) _).other (by first | (simp; done) | (simp; omega)) _).c0, ((((Bqq.other (by first | (simp; done) | (simp; omega)) _).other (by first | (simp; done) | (simp; omega)) _).other (by first | (simp; done) | (simp; omega)) _).other (by first | (simp; done) | (simp; omega)) _).c1⟩, ⟨((((Bx1.other (by first | (simp; done) | (simp; omega)) _).other (by first | (simp; done) | (simp; omega)) _).other (by first | (simp; done) | (simp; omega)) _).other (by first | (simp; done) | (simp; omega)) _).c0, ((((Bx1.other (by first | (simp; done) | (simp; omega)) _).other (by first | (simp; done) | (simp; omega)) _).other (by first | (simp; done) | (simp; omega)) _).other (by first | (simp; done) | (simp; omega)) _).c1⟩, ⟨((((By1.other (by first | (simp; done) | (simp; omega)) _).other (by first | (simp; done) | (simp; omega)) _).other (by first | (simp; done) | (simp; omega)) _).other (by first | (simp; done) | (simp; omega)) _).c0, ((((By1.other (by first | (simp; done) | (simp; omega)) _).other (by first | (simp; done) | (simp; omega)) _).other (by first | (simp; done) | (simp; omega)) _).other (by first | (simp; done) | (simp; omega)) _).c1⟩⟩) ?_
    clear hK K
    try simp only [Act.put, List.setIfInBounds_toArray, List.set_cons_zero, List.set_cons_succ]
    refine anyT_done (by kernel_rfl) ?_ _
    clear fZq fZr zq0 zq1 zr0 zr1 hz1 hz2
    have hz1 := BZq.lt
    have hz2 := BZr.lt
    have F2 := ((BZq.set (.bool sgq) (.slice aq nq cq)).other (p := ⟨w.heap.size + 1 + 1 + 1, 0, none⟩) (by first | (simp; done) | (simp; omega)) (.bool sgrr)).other (p := ⟨w.heap.size + 1 + 1 + 1, 1, none⟩) (by first | (simp; done) | (simp; omega)) (.slice arr nrr crr)
    have F3 := (((BZr.other (p := ⟨w.heap.size + 1 + 1, 0, none⟩) (by first | (simp; done) | (simp; omega)) (.bool sgq)).other (p := ⟨w.heap.size + 1 + 1, 1, none⟩) (by first | (simp; done) | (simp; omega)) (.slice aq nq cq)).set (.bool sgrr) (.slice arr nrr crr))
    have f20 := F2.c0
    have f21 := F2.c1
    have f30 := F3.c0
    have f31 := F3.c1
    go_wp2_with fail
    refine bodyPost_ret (v := .tuple #[.agg #[.bool sgq, .slice aq nq cq], .agg #[.bool sgrr, .slice arr nrr crr], .int .i64 0]) (by first | (simp [results, Tryd.results12, go_sem, f20, f21, f30, f31]; done) | (simp [results, Tryd.results12, go_sem, f20, f21, f30, f31]; rfl)) rfl ?_
    refine ⟨sgq, aq, nq, cq, fq, sgrr, arr, nrr, crr, frr, rfl, us_put4 Uq Nwq (by omega) (by omega) _ _ _ _, us_put4 Urr Nwrr (by omega) (by omega) _ _ _ _, Below.put4 Hw (by omega) (by omega) _ _ _ _, hid ?_, by omega, by omega⟩
    rw [Vq.out, Vrr.out, VA.out, VB.out, ← HZ.out]
    exact hFD.out _ HZ0
  ·
    have hFD : Hid (∀ z, Hid (ival true Qm = z) → (Ro = 0 → FD A B z (A - z * B))) := hid (fun z hz h0 => by have := fd_plain (s1 := false) (s2 := true) HDV.out.1 HDV.out.2 (.inl h0); rw [Vx1.out, Vy1.out, show (false != true) = true from rfl, hz.out] at this; exact fd_rest this)
    have hFM : Hid (∀ z, Hid (ival true Qm = z) → Ro ≠ 0 → FD A B (z - 1) (A - (z - 1) * B)) := hid (fun z hz h0 => by have := fd_mend (s1 := false) (s2 := true) HDV.out.1 HDV.out.2 h0 (by decide); rw [Vx1.out, Vy1.out, show (false != true) = true from rfl, hz.out] at this; exact fd_rest this)
    have rA0 := BA.c0
    have rA1 := BA.c1
    have rB0 := BB.c0
    have rB1 := BB.c1
    have rZq0 := BZq.c0
    have rZq1 := BZq.c1
    have rZr0 := BZr.c0
    have rZr1 := BZr.c1
    have rx10 := Bx1.c0
    have rx11 := Bx1.c1
    have ry10 := By1.c0
    have ry11 := By1.c1
    go_wp2_with fail
    clear rA0 rA1 rB0 rB1 rZq0 rZq1 rZr0 rZr1 rx10 rx11 ry10 ry11
    refine (rnorm_any _ _ _ _ _ _ (by omega) Um).mono ?_
    rintro e w7 ⟨sgq, aq, nq, cq, fq, rfl, k1, k2, kb7, k4, k5, k6, Lq⟩
    obtain ⟨Z0, HZ0⟩ : ∃ z : Int, Hid (ival true Qm = z) := ⟨_, hid rfl⟩
    have Vq : Hid (ival sgq (val fq nq) = Z0) := hid (by rw [k6, HQm.out, HZ0.out])
    have Nwq := k2
    clear k6 k5 k4 k2
    replace BA := BA.keep kb7
    replace BB := BB.keep kb7
    replace BZq := BZq.keep kb7
    replace BZr := BZr.keep kb7
    replace Bx1 := Bx1.keep kb7
    replace By1 := By1.keep kb7
    replace UA := UA.below kb7 (Nat.le_refl _)
    replace UB := UB.below kb7 (Nat.le_refl _)
    replace Ux1 := Ux1.below kb7 (Nat.le_refl _)
    replace Uy1 := Uy1.below kb7 (Nat.le_refl _)
    replace Hw := Hw.trans (kb7.mono Hw.size)
    have Qx1 := Ux1
    have Qy1 := Uy1
    have Hq := Below.refl w7.heap.size w7
    have hx7 := Bx1.lt
    have hy7 := By1.lt
    replace Uo := Uo.below kb7 (Nat.le_refl _)
    have Uq := k1
    clear k1 kb7 Um
    have nsq := BZr.lt
    replace Nwq := New.below Nwq Uq (below_alloc w7 (.cells #[.bool sgq, .slice aq nq cq] 24)) (Nat.le_refl _)
    replace Uo := Uo.alloc (.cells #[.bool sgq, .slice aq nq cq] 24)
    have Bqq := Bx.made w7 (.bool sgq) (.slice aq nq cq) 24
    replace BA := BA.alloc (.cells #[.bool sgq, .slice aq nq cq] 24)
    replace BB := BB.alloc (.cells #[.bool sgq, .slice aq nq cq] 24)
    replace BZq := BZq.alloc (.cells #[.bool sgq, .slice aq nq cq] 24)
    replace BZr := BZr.alloc (.cells #[.bool sgq, .slice aq nq cq] 24)
    replace Bx1 := Bx1.alloc (.cells #[.bool sgq, .slice aq nq cq] 24)
    replace By1 := By1.alloc (.cells #[.bool sgq, .slice aq nq cq] 24)
    replace UA := UA.alloc (.cells #[.bool sgq, .slice aq nq cq] 24)
    replace UB := UB.alloc (.cells #[.bool sgq, .slice aq nq cq] 24)
    replace Ux1 := Ux1.alloc (.cells #[.bool sgq, .slice aq nq cq] 24)
    replace Uy1 := Uy1.alloc (.cells #[.bool sgq, .slice aq nq cq] 24)
    replace Uq := Uq.alloc (.cells #[.bool sgq, .slice aq nq cq] 24)
    replace Hq := Hq.alloc Hq.size (.cells #[.bool sgq, .slice aq nq cq] 24)
    replace Hw := Hw.alloc Hw.size (.cells #[.bool sgq, .slice aq nq cq] 24)
    have rA0 := BA.c0
    have rA1 := BA.c1
    have rB0 := BB.c0
    have rB1 := BB.c1
    have rZq0 := BZq.c0
    have rZq1 := BZq.c1
    have rZr0 := BZr.c0
    have rZr1 := BZr.c1
    have rx10 := Bx1.c0
    have rx11 := Bx1.c1
    have ry10 := By1.c0
    have ry11 := By1.c1
    have rqq0 := Bqq.c0
    have rqq1 := Bqq.c1
    go_wp2_with fail
    clear rA0 rA1 rB0 rB1 rZq0 rZq1 rZr0 rZr1 rx10 rx11 ry10 ry11 rqq0 rqq1
    generalize (w7.alloc (.cells #[.bool sgq, .slice aq nq cq] 24)) = w8 at BA BB BZq BZr Bx1 By1 Bqq UA UB Ux1 Uy1 Uq Hw Hq Nwq Uo ⊢
    refine (rtrim_any _ _ _ _ _ (by omega) Uo).mono ?_
    rintro e w9 ⟨at', nt, ct, ft, rfl, _, _, kb9, Mt, Vt, Lt⟩
    replace Nwq := New.below Nwq Uq kb9 (Nat.le_refl _)
    replace BA := BA.keep kb9
    replace BB := BB.keep kb9
    replace BZq := BZq.keep kb9
    replace BZr := BZr.keep kb9
    replace Bx1 := Bx1.keep kb9
    replace By1 := By1.keep kb9
    replace Bqq := Bqq.keep kb9
    replace UA := UA.below kb9 (Nat.le_refl _)
    replace UB := UB.below kb9 (Nat.le_refl _)
    replace Ux1 := Ux1.below kb9 (Nat.le_refl _)
    replace Uy1 := Uy1.below kb9 (Nat.le_refl _)
    replace Uq := Uq.below kb9 (Nat.le_refl _)
    replace Hw := Hw.trans (kb9.mono Hw.size)
    replace Hq := Hq.trans (kb9.mono Hq.size)
    clear kb9 Uo
    have HRt : Hid (val ft nt = Ro) := hid (Vt.out.trans HRo.out)
    by_cases hr : nt = 0
    ·
      have hR0 : Ro = 0 := by rw [← HRt.out, hr]; rfl
      have HR0 := hid hR0
      clear hR0
      subst hr
      obtain ⟨Z, HZ⟩ : ∃ z : Int, Hid (Z0 = z) := ⟨_, hid rfl⟩
      replace Vq : Hid (ival sgq (val fq nq) = Z) := hid (Vq.out.trans HZ.out)
      have rA0 := BA.c0
      have rA1 := BA.c1
      have rB0 := BB.c0
      have rB1 := BB.c1
      have rZq0 := BZq.c0
      have rZq1 := BZq.c1
      have rZr0 := BZr.c0
      have rZr1 := BZr.c1
      have rx10 := Bx1.c0
      have rx11 := Bx1.c1
      have ry10 := By1.c0
      have ry11 := By1.c1
      have rqq0 := Bqq.c0
      have rqq1 := Bqq.c1
      go_wp2_with fail
      clear rA0 rA1 rB0 rB1 rZq0 rZq1 rZr0 rZr1 rx10 rx11 ry10 ry11 rqq0 rqq1
      have rA0 := BA.c0
      have rA1 := BA.c1
      have rB0 := BB.c0
      have rB1 := BB.c1
      have rZq0 := BZq.c0
      have rZq1 := BZq.c1
      have rZr0 := BZr.c0
      have rZr1 := BZr.c1
      have rx10 := Bx1.c0
      have rx11 := Bx1.c1
      have ry10 := By1.c0
      have ry11 := By1.c1
      have rqq0 := Bqq.c0
      have rqq1 := Bqq.c1
      go_wp2_with fail
      clear rA0 rA1 rB0 rB1 rZq0 rZq1 rZr0 rZr1 rx10 rx11 ry10 ry11 rqq0 rqq1
      replace BA := BA.drew
      replace BB := BB.drew
      replace BZq := BZq.drew
      replace BZr := BZr.drew
      replace Bx1 := Bx1.drew
      replace By1 := By1.drew
      replace Bqq := Bqq.drew
      replace UA := UA.drew
      replace UB := UB.drew
      replace Ux1 := Ux1.drew
      replace Uy1 := Uy1.drew
      replace Uq := Uq.drew
      replace Nwq := Nwq.drew
      replace Hw := Hw.drew
      replace Hq := Hq.drew
      refine region_T (S := fun wx => (wx.cell? ⟨w7.heap.size, 0, none⟩ = some (.bool sgq) ∧ wx.cell? ⟨w7.heap.size, 1, none⟩ = some (.slice aq nq cq)) ∧ (wx.cell? ⟨w2.heap.size, 0, none⟩ = some (.bool false) ∧ wx.cell? ⟨w2.heap.size, 1, none⟩ = some (.slice ax1 nx1 cx1)) ∧ (wx.cell? ⟨w4.heap.size, 0, none⟩ = some (.bool true) ∧ wx.cell? ⟨w4.heap.size, 1, none⟩ = some (.slice ay1 ny1 cy1))) (T := fun _ => false) (by kernel_rfl) ?_
      have hS0 : (w9.drew.cell? ⟨w7.heap.size, 0, none⟩ = some (.bool sgq) ∧ w9.drew.cell? ⟨w7.heap.size, 1, none⟩ = some (.slice aq nq cq)) ∧ (w9.drew.cell? ⟨w2.heap.size, 0, none⟩ = some (.bool false) ∧ w9.drew.cell? ⟨w2.heap.size, 1, none⟩ = some (.slice ax1 nx1 cx1)) ∧ (w9.drew.cell? ⟨w4.heap.size, 0, none⟩ = some (.bool true) ∧ w9.drew.cell? ⟨w4.heap.size, 1, none⟩ = some (.slice ay1 ny1 cy1)) := ⟨⟨(Bqq).c0, (Bqq).c1⟩, ⟨(Bx1).c0, (Bx1).c1⟩, ⟨(By1).c0, (By1).c1⟩⟩
      refine anyT_take (i := 0) (v := ?_) rfl (by kernel_rfl) (by kernel_rfl) (by kernel_rfl) (by kernel_rfl) (by kernel_rfl) (fun _ _ _ h => h) (Or.inl ⟨by rfl, ?_⟩) hS0 ?_
      rotate_left 1
      · intro wz hz; obtain ⟨⟨_, _⟩, ⟨_, _⟩, ⟨_, _⟩⟩ := hz; go_simp; try with_reducible rfl
      try simp only [Act.put, List.setIfInBounds_toArray, List.set_cons_zero, List.set_cons_succ]
      refine anyT_take (i := 1) (v := ?_) rfl (by kernel_rfl) (by kernel_rfl) (by kernel_rfl) (by kernel_rfl) (by kernel_rfl) (fun _ _ _ h => h) (Or.inl ⟨by rfl, ?_⟩) hS0 ?_
      rotate_left 1
      · intro wz hz; obtain ⟨⟨_, _⟩, ⟨_, _⟩, ⟨_, _⟩⟩ := hz; go_simp; try with_reducible rfl
      try simp only [Act.put, List.setIfInBounds_toArray, List.set_cons_zero, List.set_cons_succ]
      refine anyT_take (i := 2) (v := ?_) rfl (by kernel_rfl) (by kernel_rfl) (by kernel_rfl) (by kernel_rfl) (by kernel_rfl) (fun _ _ _ h => h) (Or.inl ⟨by rfl, ?_⟩) hS0 ?_
      rotate_left 1
      · intro wz hz; obtain ⟨⟨_, _⟩, ⟨_, _⟩, ⟨_, _⟩⟩ := hz; go_simp; try with_reducible rfl
      try simp only [Act.put, List.setIfInBounds_toArray, List.set_cons_zero, List.set_cons_succ]
      refine anyT_take (i := 3) (v := ?_) rfl (by kernel_rfl) (by kernel_rfl) (by kernel_rfl) (by kernel_rfl) (by kernel_rfl) (fun _ _ _ h => h) (Or.inl ⟨by rfl, ?_⟩) hS0 ?_
      rotate_left 1
      · intro wz hz; obtain ⟨⟨_, _⟩, ⟨_, _⟩, ⟨_, _⟩⟩ := hz; go_simp; try with_reducible rfl
      try simp only [Act.put, List.setIfInBounds_toArray, List.set_cons_zero, List.set_cons_succ]
      clear hS0
      refine anyT_one (i := 4) (by kernel_rfl) rfl (fun K hK => ?_)
      go_simp
      refine (rmul_any _ _ _ _ _ _ _ _ _ _ _ (by omega) (by omega) Uq Uy1).mono ?_
      rintro e w10 ⟨sgpr, apr, npr, cpr, fpr, rfl, k1, k2, kb10, k4, k5, k6, Lpr⟩
      have Vpr : Hid (ival sgpr (val fpr npr) = Z * B) := hid (by rw [k6, Vq.out, Vy1.out])
      have Mpr := k4
      have Spr := hid k5
      clear k6 k5 k4 k2
      replace Nwq := New.below Nwq Uq kb10 (Nat.le_refl _)
      replace BA := BA.keep kb10
      replace BB := BB.keep kb10
      replace BZq := BZq.keep kb10
      replace BZr := BZr.keep kb10
      replace Bx1 := Bx1.keep kb10
      replace By1 := By1.keep kb10
      replace Bqq := Bqq.keep kb10
      replace UA := UA.below kb10 (Nat.le_refl _)
      replace UB := UB.below kb10 (Nat.le_refl _)
      replace Ux1 := Ux1.below kb10 (Nat.le_refl _)
      replace Uy1 := Uy1.below kb10 (Nat.le_refl _)
      replace Uq := Uq.below kb10 (Nat.le_refl _)
      replace Hw := Hw.trans (kb10.mono Hw.size)
      replace Hq := Hq.trans (kb10.mono Hq.size)
      have Upr := k1
      clear k1
      clear kb10
      refine hK.out _ _ (fun _ => ⟨⟨(Bqq).c0, (Bqq).c1⟩, ⟨(Bx1).c0, (Bx1).c1⟩, ⟨(By1).c0, (By1).c1⟩⟩) ?_
      clear hK K
      try simp only [Act.put, List.setIfInBounds_toArray, List.set_cons_zero, List.set_cons_succ]
      refine anyT_one (i := 5) (by kernel_rfl) rfl (fun K hK => ?_)
      go_simp
      have hz9 := BZr.lt
      refine (rsub_any _ _ _ _ _ _ _ _ _ _ _ (by omega) (by omega) Ux1 Upr).mono ?_
      rintro e w11 ⟨sgrr, arr, nrr, crr, frr, rfl, k1, k2, kb11, k4, k5, k6, Lrr⟩
      have Vrr : Hid (ival sgrr (val frr nrr) = A - Z * B) := hid (by rw [k6, Vx1.out, Vpr.out])
      have Mrr := k4
      have Srr := hid k5
      have Nwrr := k2; clear k6 k5 k4 k2
      replace Nwq := New.below Nwq Uq kb11 (Nat.le_refl _)
      replace BA := BA.keep kb11
      replace BB := BB.keep kb11
      replace BZq := BZq.keep kb11
      replace BZr := BZr.keep kb11
      replace Bx1 := Bx1.keep kb11
      replace By1 := By1.keep kb11
      replace Bqq := Bqq.keep kb11
      replace UA := UA.below kb11 (Nat.le_refl _)
      replace UB := UB.below kb11 (Nat.le_refl _)
      replace Ux1 := Ux1.below kb11 (Nat.le_refl _)
      replace Uy1 := Uy1.below kb11 (Nat.le_refl _)
      replace Uq := Uq.below kb11 (Nat.le_refl _)
      replace Upr := Upr.below kb11 (Nat.le_refl _)
      replace Hw := Hw.trans (kb11.mono Hw.size)
      replace Hq := Hq.trans (kb11.mono Hq.size)
      have Urr := k1
      clear k1
      clear kb11
      refine hK.out _ _ (fun _ => ⟨⟨(Bqq).c0, (Bqq).c1⟩, ⟨(Bx1).c0, (Bx1).c1⟩, ⟨(By1).c0, (By1).c1⟩⟩) ?_
      clear hK K
      try simp only [Act.put, List.setIfInBounds_toArray, List.set_cons_zero, List.set_cons_succ]
      have fZq := BZq.fr
      have fZr := BZr.fr
      have zq0 := BZq.c0
      have zq1 := BZq.c1
      have zr0 := BZr.c0
      have zr1 := BZr.c1
      have hz1 := BZq.lt
      have hz2 := BZr.lt
      refine anyT_one (i := 6) (by kernel_rfl) rfl (fun K hK => ?_)
      go_simp
      refine hK.out _ _ (fun _ => ⟨⟨((Bqq.other (by first | (simp; done) | (simp; omega)) _).other (by first | (simp; done) | (simp; omega)) _).c0, ((Bqq.other (by first | (simp; done) | (simp; omega)) _).other (by first | (simp; done) | (simp; omega)) _).c1⟩, ⟨((Bx1.other (by first | (simp; done) | (simp; omega)) _).other (by first | (simp; done) | (simp; omega)) _).c0, ((Bx1.other (by first | (simp; done) | (simp; omega)) _).other (by first | (simp; done) | (simp; omega)) _).c1⟩, ⟨((By1.other (by first | (simp; done) | (simp; omega)) _).other (by first | (simp; done) | (simp; omega)) _).c0, ((By1.other (by first | (simp; done) | (simp; omega)) _).other (by first | (simp; done) | (simp; omega)) _).c1⟩⟩) ?_
      clear hK K
      try simp only [Act.put, List.setIfInBounds_toArray, List.set_cons_zero, List.set_cons_succ]
      refine anyT_one (i := 7) (by kernel_rfl) rfl (fun K hK => ?_)
      go_simp
      refine hK.out _ _ (fun _ => ⟨⟨((((Bqq.other (by first | (simp; done) | (simp; omega)) _).other (by first | (simp; done) | (simp; omega)) _).other (by first | (simp; done) | (simp; omega)) _).other (by first | (simp; done) | (simp; omega)) _).c0, ((((Bqq.other (by first | (simp; done) | (simp; omega)) _).other (by first | (simp; done) | (simp; omega)) _).other (by first | (simp; done) | (simp; omega)) _).other (by first | (simp; done) | (simp; omega)) _).c1⟩, ⟨((((Bx1.other (by first | (simp; done) | (simp; omega)) _).other (by first | (simp; done) | (simp; omega)) _).other (by first | (simp; done) | (simp; omega)) _).other (by first | (simp; done) | (simp; omega)) _).c0, ((((Bx1.other (by first | (simp; done) | (simp; omega)) _).other (by first | (simp; done) | (simp; omega)) _).other (by first | (simp; done) | (simp; omega)) _).other (by first | (simp; done) | (simp; omega)) _).c1⟩, ⟨((((By1.other (by first | (simp; done) | (simp; omega)) _).other (by first | (simp; done) | (simp; omega)) _).other (by first | (simp; done) | (simp; omega)) _).other (by first | (simp; done) | (simp; omega)) _).c0, ((((By1.other (by first | (simp; done) | (simp; omega)) _).other (by first | (simp; done) | (simp; omega)) _).other (by first | (simp; done) | (simp; omega)) _).other (by first | (simp; done) | (simp; omega)) _).c1⟩⟩) ?_
      clear hK K
      try simp only [Act.put, List.setIfInBounds_toArray, List.set_cons_zero, List.set_cons_succ]
      refine anyT_one (i := 8) (by kernel_rfl) rfl (fun K hK => ?_)
      go_simp
      refine hK.out _ _ (fun _ => ⟨⟨((((Bqq.other (by first | (simp; done) | (simp; omega)) _).other (by first | (simp; done) | (simp; omega)) _).other (by first | (simp; done) | (simp; omega)) _).other (by first | (simp; done) | (simp; omega)) _).c0, ((((Bqq.other (by first | (simp; done) | (simp; omega)) _).other (by first | (simp; done) | (simp; omega)) _).other (by first | (simp; done) | (simp; omega)) _).other (by first | (simp; done) | (simp; omega)) _).c1⟩, ⟨((((Bx1.other (by first | (simp; done) | (simp; omega)) _).other (by first | (simp; done) | (simp; omega)) _).other (by first | (simp; done) | (simp; omega)) _).other (by first | (simp; done) | (simp; omega)) _).c0, ((((Bx1.other (by first | (simp; done) | (simp; omega)) _).other (by first | (simp; done) | (simp; omega)) _).other (by first | (simp; done) | (simp; omega)) _).other (by first | (simp; done) | (simp; omega)) _).c1⟩, ⟨((((By1.other (by first | (simp; done) | (simp; omega)) _).other (by first | (simp; done) | (simp; omega)) _).other (by first | (simp; done) | (simp; omega)) _).other (by first | (simp; done) | (simp; omega)) _).c0, ((((By1.other (by first | (simp; done) | (simp; omega)) _).other (by first | (simp; done) | (simp; omega)) _).other (by first | (simp; done) | (simp; omega)) _).other (by first | (simp; done) | (simp; omega)) _).c1⟩⟩) ?_
      clear hK K
      try simp only [Act.put, List.setIfInBounds_toArray, List.set_cons_zero, List.set_cons_succ]
      refine anyT_done (by kernel_rfl) ?_ _
      clear fZq fZr zq0 zq1 zr0 zr1 hz1 hz2
      have hz1 := BZq.lt
      have hz2 := BZr.lt
      have F2 := ((BZq.set (.bool sgq) (.slice aq nq cq)).other (p := ⟨w.heap.size + 1 + 1 + 1, 0, none⟩) (by first | (simp; done) | (simp; omega)) (.bool sgrr)).other (p := ⟨w.heap.size + 1 + 1 + 1, 1, none⟩) (by first | (simp; done) | (simp; omega)) (.slice arr nrr crr)
      have F3 := (((BZr.other (p := ⟨w.heap.size + 1 + 1, 0, none⟩) (by first | (simp; done) | (simp; omega)) (.bool sgq)).other (p := ⟨w.heap.size + 1 + 1, 1, none⟩) (by first | (simp; done) | (simp; omega)) (.slice aq nq cq)).set (.bool sgrr) (.slice arr nrr crr))
      have f20 := F2.c0
      have f21 := F2.c1
      have f30 := F3.c0
      have f31 := F3.c1
      go_wp2_with fail
      refine bodyPost_ret (v := .tuple #[.agg #[.bool sgq, .slice aq nq cq], .agg #[.bool sgrr, .slice arr nrr crr], .int .i64 0]) (by first | (simp [results, Tryd.results12, go_sem, f20, f21, f30, f31]; done) | (simp [results, Tryd.results12, go_sem, f20, f21, f30, f31]; rfl)) rfl ?_
      refine ⟨sgq, aq, nq, cq, fq, sgrr, arr, nrr, crr, frr, rfl, us_put4 Uq Nwq (by omega) (by omega) _ _ _ _, us_put4 Urr Nwrr (by omega) (by omega) _ _ _ _, Below.put4 Hw (by omega) (by omega) _ _ _ _, hid ?_, by omega, by omega⟩
      rw [Vq.out, Vrr.out, VA.out, VB.out, ← HZ.out]
      exact hFD.out _ HZ0 HR0.out
    ·
      have HR0 : Hid (Ro ≠ 0) := hid (by rw [← HRt.out]; intro h; exact hr (Mt.zero.1 h))
      have hrp : 0 < nt := by omega
      clear hr
      have rA0 := BA.c0
      have rA1 := BA.c1
      have rB0 := BB.c0
      have rB1 := BB.c1
      have rZq0 := BZq.c0
      have rZq1 := BZq.c1
      have rZr0 := BZr.c0
      have rZr1 := BZr.c1
      have rx10 := Bx1.c0
      have rx11 := Bx1.c1
      have ry10 := By1.c0
      have ry11 := By1.c1
      have rqq0 := Bqq.c0
      have rqq1 := Bqq.c1
      go_wp2_with fail
      clear rA0 rA1 rB0 rB1 rZq0 rZq1 rZr0 rZr1 rx10 rx11 ry10 ry11 rqq0 rqq1
      replace BA := BA.drew
      replace BB := BB.drew
      replace BZq := BZq.drew
      replace BZr := BZr.drew
      replace Bx1 := Bx1.drew
      replace By1 := By1.drew
      replace Bqq := Bqq.drew
      replace UA := UA.drew
      replace UB := UB.drew
      replace Ux1 := Ux1.drew
      replace Uy1 := Uy1.drew
      replace Uq := Uq.drew
      replace Nwq := Nwq.drew
      replace Hw := Hw.drew
      replace Hq := Hq.drew
      refine region_T (S := fun wx => wx.cell? ⟨w7.heap.size, 0, none⟩ = some (.bool sgq) ∧ wx.cell? ⟨w7.heap.size, 1, none⟩ = some (.slice aq nq cq)) (T := fun j => j == 3) (by kernel_rfl) ?_
      refine anyT_take (i := 0) (v := ?_) rfl (by kernel_rfl) (by kernel_rfl) (by kernel_rfl) (by kernel_rfl) (by kernel_rfl) (fun _ _ _ h => h) (Or.inl ⟨by rfl, ?_⟩) ⟨Bqq.c0, Bqq.c1⟩ ?_
      rotate_left 1
      · intro wz hz; obtain ⟨_, _⟩ := hz; go_simp; try with_reducible rfl
      try simp only [Act.put, List.setIfInBounds_toArray, List.set_cons_zero, List.set_cons_succ]
      refine anyT_one (i := 1) (by kernel_rfl) rfl (fun K hK => ?_)
      go_simp
      refine (rof_any _ _ (by omega) (by omega)).mono ?_
      rintro e w10 ⟨sgon, aon, non, con, fon, rfl, k1, k2, kb10, k4, k5, k6, Lon⟩
      have Von : Hid (ival sgon (val fon non) = 1) := hid (by rw [k6])
      have Mon := k4
      have Son := hid k5
      clear k6 k5 k4 k2
      replace BA := BA.keep kb10
      replace BB := BB.keep kb10
      replace BZq := BZq.keep kb10
      replace BZr := BZr.keep kb10
      replace Bx1 := Bx1.keep kb10
      replace By1 := By1.keep kb10
      replace Bqq := Bqq.keep kb10
      replace UA := UA.below kb10 (Nat.le_refl _)
      replace UB := UB.below kb10 (Nat.le_refl _)
      replace Ux1 := Ux1.below kb10 (Nat.le_refl _)
      replace Uy1 := Uy1.below kb10 (Nat.le_refl _)
      replace Uq := Uq.below kb10 (Nat.le_refl _)
      replace Hw := Hw.trans (kb10.mono Hw.size)
      replace Hq := Hq.trans (kb10.mono Hq.size)
      have Uon := k1
      clear k1
      clear kb10
      refine hK.out _ _ (fun _ => ⟨Bqq.c0, Bqq.c1⟩) ?_
      clear hK K
      try simp only [Act.put, List.setIfInBounds_toArray, List.set_cons_zero, List.set_cons_succ]
      refine anyT_one (i := 2) (by kernel_rfl) rfl (fun K hK => ?_)
      go_simp
      have hq8 := Bqq.lt
      refine (rsub_any _ _ _ _ _ _ _ _ _ _ _ (by omega) (by omega) Uq Uon).mono ?_
      rintro e w11 ⟨sgq2, aq2, nq2, cq2, fq2, rfl, k1, k2, kb11, k4, k5, k6, Lq2⟩
      have Vq2 : Hid (ival sgq2 (val fq2 nq2) = Z0 - 1) := hid (by rw [k6, Vq.out, Von.out])
      have Mq2 := k4
      have Sq2 := hid k5
      have Nwq2 := k2; clear k6 k5 k4 k2
      replace BA := BA.keep kb11
      replace BB := BB.keep kb11
      replace BZq := BZq.keep kb11
      replace BZr := BZr.keep kb11
      replace Bx1 := Bx1.keep kb11
      replace By1 := By1.keep kb11
      replace Bqq := Bqq.keep kb11
      replace UA := UA.below kb11 (Nat.le_refl _)
      replace UB := UB.below kb11 (Nat.le_refl _)
      replace Ux1 := Ux1.below kb11 (Nat.le_refl _)
      replace Uy1 := Uy1.below kb11 (Nat.le_refl _)
      replace Uq := Uq.below kb11 (Nat.le_refl _)
      replace Uon := Uon.below kb11 (Nat.le_refl _)
      replace Hw := Hw.trans (kb11.mono Hw.size)
      replace Hq := Hq.trans (kb11.mono Hq.size)
      have Uq2 := k1
      clear k1
      clear kb11
      refine hK.out _ _ (fun _ => ⟨Bqq.c0, Bqq.c1⟩) ?_
      clear hK K
      try simp only [Act.put, List.setIfInBounds_toArray, List.set_cons_zero, List.set_cons_succ]
      have rq0 := Bqq.c0
      have rq1 := Bqq.c1
      have rqf := Bqq.fr
      refine anyT_one (i := 3) (by kernel_rfl) rfl (fun K hK => ?_)
      go_simp
      refine hK.out _ _ (fun h => by cases h) ?_
      clear hK K rq0 rq1 rqf
      try simp only [Act.put, List.setIfInBounds_toArray, List.set_cons_zero, List.set_cons_succ]
      refine anyT_done (by kernel_rfl) ?_ _
      have hq9 := Bqq.lt
      replace Bqq := Bqq.set (.bool sgq2) (.slice aq2 nq2 cq2)
      replace BA := (BA.other (p := ⟨w7.heap.size, 0, none⟩) (by first | (simp; done) | (simp; omega)) (.bool sgq2)).other (p := ⟨w7.heap.size, 1, none⟩) (by first | (simp; done) | (simp; omega)) (.slice aq2 nq2 cq2)
      replace BB := (BB.other (p := ⟨w7.heap.size, 0, none⟩) (by first | (simp; done) | (simp; omega)) (.bool sgq2)).other (p := ⟨w7.heap.size, 1, none⟩) (by first | (simp; done) | (simp; omega)) (.slice aq2 nq2 cq2)
      replace BZq := (BZq.other (p := ⟨w7.heap.size, 0, none⟩) (by first | (simp; done) | (simp; omega)) (.bool sgq2)).other (p := ⟨w7.heap.size, 1, none⟩) (by first | (simp; done) | (simp; omega)) (.slice aq2 nq2 cq2)
      replace BZr := (BZr.other (p := ⟨w7.heap.size, 0, none⟩) (by first | (simp; done) | (simp; omega)) (.bool sgq2)).other (p := ⟨w7.heap.size, 1, none⟩) (by first | (simp; done) | (simp; omega)) (.slice aq2 nq2 cq2)
      replace Bx1 := (Bx1.other (p := ⟨w7.heap.size, 0, none⟩) (by first | (simp; done) | (simp; omega)) (.bool sgq2)).other (p := ⟨w7.heap.size, 1, none⟩) (by first | (simp; done) | (simp; omega)) (.slice aq2 nq2 cq2)
      replace By1 := (By1.other (p := ⟨w7.heap.size, 0, none⟩) (by first | (simp; done) | (simp; omega)) (.bool sgq2)).other (p := ⟨w7.heap.size, 1, none⟩) (by first | (simp; done) | (simp; omega)) (.slice aq2 nq2 cq2)
      have hqs := Hq.size
      replace Uq2 := (Uq2.apart Nwq2 (p := ⟨w7.heap.size, 0, none⟩) hq8 (.bool sgq2)).apart (Nwq2.set _ _) (p := ⟨w7.heap.size, 1, none⟩) hq8 (.slice aq2 nq2 cq2)
      replace Nwq2 := (Nwq2.set ⟨w7.heap.size, 0, none⟩ (.bool sgq2)).set ⟨w7.heap.size, 1, none⟩ (.slice aq2 nq2 cq2)
      replace Hq := (Hq.setCell (p := ⟨w7.heap.size, 0, none⟩) (Nat.le_refl _) (.bool sgq2)).setCell (p := ⟨w7.heap.size, 1, none⟩) (Nat.le_refl _) (.slice aq2 nq2 cq2)
      replace Hw := (Hw.setCell (p := ⟨w7.heap.size, 0, none⟩) (by first | (simp; done) | (simp; omega)) (.bool sgq2)).setCell (p := ⟨w7.heap.size, 1, none⟩) (by first | (simp; done) | (simp; omega)) (.slice aq2 nq2 cq2)
      clear UA UB Uq Uon Ux1 Uy1
      have Ux1 := Qx1.below Hq (Nat.le_refl _)
      have Uy1 := Qy1.below Hq (Nat.le_refl _)
      clear Nwq
      generalize ((w11.setCell ⟨w7.heap.size, 0, none⟩ (.bool sgq2)).setCell ⟨w7.heap.size, 1, none⟩ (.slice aq2 nq2 cq2)) = w12 at BA BB BZq BZr Bx1 By1 Bqq Ux1 Uy1 Uq2 Hw Hq Nwq2 ⊢
      obtain ⟨Z, HZ⟩ : ∃ z : Int, Hid (Z0 - 1 = z) := ⟨_, hid rfl⟩
      replace Vq2 : Hid (ival sgq2 (val fq2 nq2) = Z) := hid (Vq2.out.trans HZ.out)
      have rA0 := BA.c0
      have rA1 := BA.c1
      have rB0 := BB.c0
      have rB1 := BB.c1
      have rZq0 := BZq.c0
      have rZq1 := BZq.c1
      have rZr0 := BZr.c0
      have rZr1 := BZr.c1
      have rx10 := Bx1.c0
      have rx11 := Bx1.c1
      have ry10 := By1.c0
      have ry11 := By1.c1
      have rqq0 := Bqq.c0
      have rqq1 := Bqq.c1
      go_wp2_with fail
      clear rA0 rA1 rB0 rB1 rZq0 rZq1 rZr0 rZr1 rx10 rx11 ry10 ry11 rqq0 rqq1
      replace BA := BA.drew
      replace BB := BB.drew
      replace BZq := BZq.drew
      replace BZr := BZr.drew
      replace Bx1 := Bx1.drew
      replace By1 := By1.drew
      replace Bqq := Bqq.drew
      replace Ux1 := Ux1.drew
      replace Uy1 := Uy1.drew
      replace Uq2 := Uq2.drew
      replace Nwq2 := Nwq2.drew
      replace Hw := Hw.drew
      replace Hq := Hq.drew
      refine region_T (S := fun wx => (wx.cell? ⟨w7.heap.size, 0, none⟩ = some (.bool sgq2) ∧ wx.cell? ⟨w7.heap.size, 1, none⟩ = some (.slice aq2 nq2 cq2)) ∧ (wx.cell? ⟨w2.heap.size, 0, none⟩ = some (.bool false) ∧ wx.cell? ⟨w2.heap.size, 1, none⟩ = some (.slice ax1 nx1 cx1)) ∧ (wx.cell? ⟨w4.heap.size, 0, none⟩ = some (.bool true) ∧ wx.cell? ⟨w4.heap.size, 1, none⟩ = some (.slice ay1 ny1 cy1))) (T := fun _ => false) (by kernel_rfl) ?_
      have hS0 : (w12.drew.cell? ⟨w7.heap.size, 0, none⟩ = some (.bool sgq2) ∧ w12.drew.cell? ⟨w7.heap.size, 1, none⟩ = some (.slice aq2 nq2 cq2)) ∧ (w12.drew.cell? ⟨w2.heap.size, 0, none⟩ = some (.bool false) ∧ w12.drew.cell? ⟨w2.heap.size, 1, none⟩ = some (.slice ax1 nx1 cx1)) ∧ (w12.drew.cell? ⟨w4.heap.size, 0, none⟩ = some (.bool true) ∧ w12.drew.cell? ⟨w4.heap.size, 1, none⟩ = some (.slice ay1 ny1 cy1)) := ⟨⟨(Bqq).c0, (Bqq).c1⟩, ⟨(Bx1).c0, (Bx1).c1⟩, ⟨(By1).c0, (By1).c1⟩⟩
      refine anyT_take (i := 0) (v := ?_) rfl (by kernel_rfl) (by kernel_rfl) (by kernel_rfl) (by kernel_rfl) (by kernel_rfl) (fun _ _ _ h => h) (Or.inl ⟨by rfl, ?_⟩) hS0 ?_
      rotate_left 1
      · intro wz hz; obtain ⟨⟨_, _⟩, ⟨_, _⟩, ⟨_, _⟩⟩ := hz; go_simp; try with_reducible rfl
      try simp only [Act.put, List.setIfInBounds_toArray, List.set_cons_zero, List.set_cons_succ]
      refine anyT_take (i := 1) (v := ?_) rfl (by kernel_rfl) (by kernel_rfl) (by kernel_rfl) (by kernel_rfl) (by kernel_rfl) (fun _ _ _ h => h) (Or.inl ⟨by rfl, ?_⟩) hS0 ?_
      rotate_left 1
      · intro wz hz; obtain ⟨⟨_, _⟩, ⟨_, _⟩, ⟨_, _⟩⟩ := hz; go_simp; try with_reducible rfl
      try simp only [Act.put, List.setIfInBounds_toArray, List.set_cons_zero, List.set_cons_succ]
      refine anyT_take (i := 2) (v := ?_) rfl (by kernel_rfl) (by kernel_rfl) (by kernel_rfl) (by kernel_rfl) (by kernel_rfl) (fun _ _ _ h => h) (Or.inl ⟨by rfl, ?_⟩) hS0 ?_
      rotate_left 1
      · intro wz hz; obtain ⟨⟨_, _⟩, ⟨_, _⟩, ⟨_, _⟩⟩ := hz; go_simp; try with_reducible rfl
      try simp only [Act.put, List.setIfInBounds_toArray, List.set_cons_zero, List.set_cons_succ]
      refine anyT_take (i := 3) (v := ?_) rfl (by kernel_rfl) (by kernel_rfl) (by kernel_rfl) (by kernel_rfl) (by kernel_rfl) (fun _ _ _ h => h) (Or.inl ⟨by rfl, ?_⟩) hS0 ?_
      rotate_left 1
      · intro wz hz; obtain ⟨⟨_, _⟩, ⟨_, _⟩, ⟨_, _⟩⟩ := hz; go_simp; try with_reducible rfl
      try simp only [Act.put, List.setIfInBounds_toArray, List.set_cons_zero, List.set_cons_succ]
      clear hS0
      refine anyT_one (i := 4) (by kernel_rfl) rfl (fun K hK => ?_)
      go_simp
      refine (rmul_any _ _ _ _ _ _ _ _ _ _ _ (by omega) (by omega) Uq2 Uy1).mono ?_
      rintro e w13 ⟨sgpr, apr, npr, cpr, fpr, rfl, k1, k2, kb13, k4, k5, k6, Lpr⟩
      have Vpr : Hid (ival sgpr (val fpr npr) = Z * B) := hid (by rw [k6, Vq2.out, Vy1.out])
      have Mpr := k4
      have Spr := hid k5
      clear k6 k5 k4 k2
      replace Nwq2 := New.below Nwq2 Uq2 kb13 (Nat.le_refl _)
      replace BA := BA.keep kb13
      replace BB := BB.keep kb13
      replace BZq := BZq.keep kb13
      replace BZr := BZr.keep kb13
      replace Bx1 := Bx1.keep kb13
      replace By1 := By1.keep kb13
      replace Bqq := Bqq.keep kb13
      replace Ux1 := Ux1.below kb13 (Nat.le_refl _)
      replace Uy1 := Uy1.below kb13 (Nat.le_refl _)
      replace Uq2 := Uq2.below kb13 (Nat.le_refl _)
      replace Hw := Hw.trans (kb13.mono Hw.size)
      replace Hq := Hq.trans (kb13.mono Hq.size)
      have Upr := k1
      clear k1
      clear kb13
      refine hK.out _ _ (fun _ => ⟨⟨(Bqq).c0, (Bqq).c1⟩, ⟨(Bx1).c0, (Bx1).c1⟩, ⟨(By1).c0, (By1).c1⟩⟩) ?_
      clear hK K
      try simp only [Act.put, List.setIfInBounds_toArray, List.set_cons_zero, List.set_cons_succ]
      refine anyT_one (i := 5) (by kernel_rfl) rfl (fun K hK => ?_)
      go_simp
      have hz9 := BZr.lt
      refine (rsub_any _ _ _ _ _ _ _ _ _ _ _ (by omega) (by omega) Ux1 Upr).mono ?_
      rintro e w14 ⟨sgrr, arr, nrr, crr, frr, rfl, k1, k2, kb14, k4, k5, k6, Lrr⟩
      have Vrr : Hid (ival sgrr (val frr nrr) = A - Z * B) := hid (by rw [k6, Vx1.out, Vpr.out])
      have Mrr := k4
      have Srr := hid k5
      have Nwrr := k2; clear k6 k5 k4 k2
      replace Nwq2 := New.below Nwq2 Uq2 kb14 (Nat.le_refl _)
      replace BA := BA.keep kb14
      replace BB := BB.keep kb14
      replace BZq := BZq.keep kb14
      replace BZr := BZr.keep kb14
      replace Bx1 := Bx1.keep kb14
      replace By1 := By1.keep kb14
      replace Bqq := Bqq.keep kb14
      replace Ux1 := Ux1.below kb14 (Nat.le_refl _)
      replace Uy1 := Uy1.below kb14 (Nat.le_refl _)
      replace Uq2 := Uq2.below kb14 (Nat.le_refl _)
      replace Upr := Upr.below kb14 (Nat.le_refl _)
      replace Hw := Hw.trans (kb14.mono Hw.size)
      replace Hq := Hq.trans (kb14.mono Hq.size)
      have Urr := k1
      clear k1
      clear kb14
      refine hK.out _ _ (fun _ => ⟨⟨(Bqq).c0, (Bqq).c1⟩, ⟨(Bx1).c0, (Bx1).c1⟩, ⟨(By1).c0, (By1).c1⟩⟩) ?_
      clear hK K
      try simp only [Act.put, List.setIfInBounds_toArray, List.set_cons_zero, List.set_cons_succ]
      have fZq := BZq.fr
      have fZr := BZr.fr
      have zq0 := BZq.c0
      have zq1 := BZq.c1
      have zr0 := BZr.c0
      have zr1 := BZr.c1
      have hz1 := BZq.lt
      have hz2 := BZr.lt
      refine anyT_one (i := 6) (by kernel_rfl) rfl (fun K hK => ?_)
      go_simp
      refine hK.out _ _ (fun _ => ⟨⟨((Bqq.other (by first | (simp; done) | (simp; omega)) _).other (by first | (simp; done) | (simp; omega)) _).c0, ((Bqq.other (by first | (simp; done) | (simp; omega)) _).other (by first | (simp; done) | (simp; omega)) _).c1⟩, ⟨((Bx1.other (by first | (simp; done) | (simp; omega)) _).other (by first | (simp; done) | (simp; omega)) _).c0, ((Bx1.other (by first | (simp; done) | (simp; omega)) _).other (by first | (simp; done) | (simp; omega)) _).c1⟩, ⟨((By1.other (by first | (simp; done) | (simp; omega)) _).other (by first | (simp; done) | (simp; omega)) _).c0, ((By1.other (by first | (simp; done) | (simp; omega)) _).other (by first | (simp; done) | (simp; omega)) _).c1⟩⟩) ?_
      clear hK K
      try simp only [Act.put, List.setIfInBounds_toArray, List.set_cons_zero, List.set_cons_succ]
      refine anyT_one (i := 7) (by kernel_rfl) rfl (fun K hK => ?_)
      go_simp
      refine hK.out _ _ (fun _ => ⟨⟨((((Bqq.other (by first | (simp; done) | (simp; omega)) _).other (by first | (simp; done) | (simp; omega)) _).other (by first | (simp; done) | (simp; omega)) _).other (by first | (simp; done) | (simp; omega)) _).c0, ((((Bqq.other (by first | (simp; done) | (simp; omega)) _).other (by first | (simp; done) | (simp; omega)) _).other (by first | (simp; done) | (simp; omega)) _).other (by first | (simp; done) | (simp; omega)) _).c1⟩, ⟨((((Bx1.other (by first | (simp; done) | (simp; omega)) _).other (by first | (simp; done) | (simp; omega)) _).other (by first | (simp; done) | (simp; omega)) _).other (by first | (simp; done) | (simp; omega)) _).c0, ((((Bx1.other (by first | (simp; done) | (simp; omega)) _).other (by first | (simp; done) | (simp; omega)) _).other (by first | (simp; done) | (simp; omega)) _).other (by first | (simp; done) | (simp; omega)) _).c1⟩, ⟨((((By1.other (by first | (simp; done) | (simp; omega)) _).other (by first | (simp; done) | (simp; omega)) _).other (by first | (simp; done) | (simp; omega)) _).other (by first | (simp; done) | (simp; omega)) _).c0, ((((By1.other (by first | (simp; done) | (simp; omega)) _).other (by first | (simp; done) | (simp; omega)) _).other (by first | (simp; done) | (simp; omega)) _).other (by first | (simp; done) | (simp; omega)) _).c1⟩⟩) ?_
      clear hK K
      try simp only [Act.put, List.setIfInBounds_toArray, List.set_cons_zero, List.set_cons_succ]
      refine anyT_one (i := 8) (by kernel_rfl) rfl (fun K hK => ?_)
      go_simp
      refine hK.out _ _ (fun _ => ⟨⟨((((Bqq.other (by first | (simp; done) | (simp; omega)) _).other (by first | (simp; done) | (simp; omega)) _).other (by first | (simp; done) | (simp; omega)) _).other (by first | (simp; done) | (simp; omega)) _).c0, ((((Bqq.other (by first | (simp; done) | (simp; omega)) _).other (by first | (simp; done) | (simp; omega)) _).other (by first | (simp; done) | (simp; omega)) _).other (by first | (simp; done) | (simp; omega)) _).c1⟩, ⟨((((Bx1.other (by first | (simp; done) | (simp; omega)) _).other (by first | (simp; done) | (simp; omega)) _).other (by first | (simp; done) | (simp; omega)) _).other (by first | (simp; done) | (simp; omega)) _).c0, ((((Bx1.other (by first | (simp; done) | (simp; omega)) _).other (by first | (simp; done) | (simp; omega)) _).other (by first | (simp; done) | (simp; omega)) _).other (by first | (simp; done) | (simp; omega)) _).c1⟩, ⟨((((By1.other (by first | (simp; done) | (simp; omega)) _).other (by first | (simp; done) | (simp; omega)) _).other (by first | (simp; done) | (simp; omega)) _).other (by first | (simp; done) | (simp; omega)) _).c0, ((((By1.other (by first | (simp; done) | (simp; omega)) _).other (by first | (simp; done) | (simp; omega)) _).other (by first | (simp; done) | (simp; omega)) _).other (by first | (simp; done) | (simp; omega)) _).c1⟩⟩) ?_
      clear hK K
      try simp only [Act.put, List.setIfInBounds_toArray, List.set_cons_zero, List.set_cons_succ]
      refine anyT_done (by kernel_rfl) ?_ _
      clear fZq fZr zq0 zq1 zr0 zr1 hz1 hz2
      have hz1 := BZq.lt
      have hz2 := BZr.lt
      have F2 := ((BZq.set (.bool sgq2) (.slice aq2 nq2 cq2)).other (p := ⟨w.heap.size + 1 + 1 + 1, 0, none⟩) (by first | (simp; done) | (simp; omega)) (.bool sgrr)).other (p := ⟨w.heap.size + 1 + 1 + 1, 1, none⟩) (by first | (simp; done) | (simp; omega)) (.slice arr nrr crr)
      have F3 := (((BZr.other (p := ⟨w.heap.size + 1 + 1, 0, none⟩) (by first | (simp; done) | (simp; omega)) (.bool sgq2)).other (p := ⟨w.heap.size + 1 + 1, 1, none⟩) (by first | (simp; done) | (simp; omega)) (.slice aq2 nq2 cq2)).set (.bool sgrr) (.slice arr nrr crr))
      have f20 := F2.c0
      have f21 := F2.c1
      have f30 := F3.c0
      have f31 := F3.c1
      go_wp2_with fail
      refine bodyPost_ret (v := .tuple #[.agg #[.bool sgq2, .slice aq2 nq2 cq2], .agg #[.bool sgrr, .slice arr nrr crr], .int .i64 0]) (by first | (simp [results, Tryd.results12, go_sem, f20, f21, f30, f31]; done) | (simp [results, Tryd.results12, go_sem, f20, f21, f30, f31]; rfl)) rfl ?_
      refine ⟨sgq2, aq2, nq2, cq2, fq2, sgrr, arr, nrr, crr, frr, rfl, us_put4 Uq2 Nwq2 (by omega) (by omega) _ _ _ _, us_put4 Urr Nwrr (by omega) (by omega) _ _ _ _, Below.put4 Hw (by omega) (by omega) _ _ _ _, hid ?_, by omega, by omega⟩
      rw [Vq2.out, Vrr.out, VA.out, VB.out, ← HZ.out]
      exact hFM.out _ HZ0 HR0.out
  ·
    have hFD : Hid (∀ z, Hid (ival true Qm = z) → (Ro = 0 → FD A B z (A - z * B))) := hid (fun z hz h0 => by have := fd_plain (s1 := true) (s2 := false) HDV.out.1 HDV.out.2 (.inl h0); rw [Vx1.out, Vy1.out, show (true != false) = true from rfl, hz.out] at this; exact fd_rest this)
    have hFM : Hid (∀ z, Hid (ival true Qm = z) → Ro ≠ 0 → FD A B (z - 1) (A - (z - 1) * B)) := hid (fun z hz h0 => by have := fd_mend (s1 := true) (s2 := false) HDV.out.1 HDV.out.2 h0 (by decide); rw [Vx1.out, Vy1.out, show (true != false) = true from rfl, hz.out] at this; exact fd_rest this)
    have rA0 := BA.c0
    have rA1 := BA.c1
    have rB0 := BB.c0
    have rB1 := BB.c1
    have rZq0 := BZq.c0
    have rZq1 := BZq.c1
    have rZr0 := BZr.c0
    have rZr1 := BZr.c1
    have rx10 := Bx1.c0
    have rx11 := Bx1.c1
    have ry10 := By1.c0
    have ry11 := By1.c1
    go_wp2_with fail
    clear rA0 rA1 rB0 rB1 rZq0 rZq1 rZr0 rZr1 rx10 rx11 ry10 ry11
    refine (rnorm_any _ _ _ _ _ _ (by omega) Um).mono ?_
    rintro e w7 ⟨sgq, aq, nq, cq, fq, rfl, k1, k2, kb7, k4, k5, k6, Lq⟩
    obtain ⟨Z0, HZ0⟩ : ∃ z : Int, Hid (ival true Qm = z) := ⟨_, hid rfl⟩
    have Vq : Hid (ival sgq (val fq nq) = Z0) := hid (by rw [k6, HQm.out, HZ0.out])
    have Nwq := k2
    clear k6 k5 k4 k2
    replace BA := BA.keep kb7
    replace BB := BB.keep kb7
    replace BZq := BZq.keep kb7
    replace BZr := BZr.keep kb7
    replace Bx1 := Bx1.keep kb7
    replace By1 := By1.keep kb7
    replace UA := UA.below kb7 (Nat.le_refl _)
    replace UB := UB.below kb7 (Nat.le_refl _)
    replace Ux1 := Ux1.below kb7 (Nat.le_refl _)
    replace Uy1 := Uy1.below kb7 (Nat.le_refl _)
    replace Hw := Hw.trans (kb7.mono Hw.size)
    have Qx1 := Ux1
    have Qy1 := Uy1
    have Hq := Below.refl w7.heap.size w7
    have hx7 := Bx1.lt
    have hy7 := By1.lt
    replace Uo := Uo.below kb7 (Nat.le_refl _)
    have Uq := k1
    clear k1 kb7 Um
    have nsq := BZr.lt
    replace Nwq := New.below Nwq Uq (below_alloc w7 (.cells #[.bool sgq, .slice aq nq cq] 24)) (Nat.le_refl _)
    replace Uo := Uo.alloc (.cells #[.bool sgq, .slice aq nq cq] 24)
    have Bqq := Bx.made w7 (.bool sgq) (.slice aq nq cq) 24
    replace BA := BA.alloc (.cells #[.bool sgq, .slice aq nq cq] 24)
    replace BB := BB.alloc (.cells #[.bool sgq, .slice aq nq cq] 24)
    replace BZq := BZq.alloc (.cells #[.bool sgq, .slice aq nq cq] 24)
    replace BZr := BZr.alloc (.cells #[.bool sgq, .slice aq nq cq] 24)
    replace Bx1 := Bx1.alloc (.cells #[.bool sgq, .slice aq nq cq] 24)
    replace By1 := By1.alloc (.cells #[.bool sgq, .slice aq nq cq] 24)
    replace UA := UA.alloc (.cells #[.bool sgq, .slice aq nq cq] 24)
    replace UB := UB.alloc (.cells #[.bool sgq, .slice aq nq cq] 24)
    replace Ux1 := Ux1.alloc (.cells #[.bool sgq, .slice aq nq cq] 24)
    replace Uy1 := Uy1.alloc (.cells #[.bool sgq, .slice aq nq cq] 24)
    replace Uq := Uq.alloc (.cells #[.bool sgq, .slice aq nq cq] 24)
    replace Hq := Hq.alloc Hq.size (.cells #[.bool sgq, .slice aq nq cq] 24)
    replace Hw := Hw.alloc Hw.size (.cells #[.bool sgq, .slice aq nq cq] 24)
    have rA0 := BA.c0
    have rA1 := BA.c1
    have rB0 := BB.c0
    have rB1 := BB.c1
    have rZq0 := BZq.c0
    have rZq1 := BZq.c1
    have rZr0 := BZr.c0
    have rZr1 := BZr.c1
    have rx10 := Bx1.c0
    have rx11 := Bx1.c1
    have ry10 := By1.c0
    have ry11 := By1.c1
    have rqq0 := Bqq.c0
    have rqq1 := Bqq.c1
    go_wp2_with fail
    clear rA0 rA1 rB0 rB1 rZq0 rZq1 rZr0 rZr1 rx10 rx11 ry10 ry11 rqq0 rqq1
    generalize (w7.alloc (.cells #[.bool sgq, .slice aq nq cq] 24)) = w8 at BA BB BZq BZr Bx1 By1 Bqq UA UB Ux1 Uy1 Uq Hw Hq Nwq Uo ⊢
    refine (rtrim_any _ _ _ _ _ (by omega) Uo).mono ?_
    rintro e w9 ⟨at', nt, ct, ft, rfl, _, _, kb9, Mt, Vt, Lt⟩
    replace Nwq := New.below Nwq Uq kb9 (Nat.le_refl _)
    replace BA := BA.keep kb9
    replace BB := BB.keep kb9
    replace BZq := BZq.keep kb9
    replace BZr := BZr.keep kb9
    replace Bx1 := Bx1.keep kb9
    replace By1 := By1.keep kb9
    replace Bqq := Bqq.keep kb9
    replace UA := UA.below kb9 (Nat.le_refl _)
    replace UB := UB.below kb9 (Nat.le_refl _)
    replace Ux1 := Ux1.below kb9 (Nat.le_refl _)
    replace Uy1 := Uy1.below kb9 (Nat.le_refl _)
    replace Uq := Uq.below kb9 (Nat.le_refl _)
    replace Hw := Hw.trans (kb9.mono Hw.size)
    replace Hq := Hq.trans (kb9.mono Hq.size)
    clear kb9 Uo
    have HRt : Hid (val ft nt = Ro) := hid (Vt.out.trans HRo.out)
    by_cases hr : nt = 0
    ·
      have hR0 : Ro = 0 := by rw [← HRt.out, hr]; rfl
      have HR0 := hid hR0
      clear hR0
      subst hr
      obtain ⟨Z, HZ⟩ : ∃ z : Int, Hid (Z0 = z) := ⟨_, hid rfl⟩
      replace Vq : Hid (ival sgq (val fq nq) = Z) := hid (Vq.out.trans HZ.out)
      have rA0 := BA.c0
      have rA1 := BA.c1
      have rB0 := BB.c0
      have rB1 := BB.c1
      have rZq0 := BZq.c0
      have rZq1 := BZq.c1
      have rZr0 := BZr.c0
      have rZr1 := BZr.c1
      have rx10 := Bx1.c0
      have rx11 := Bx1.c1
      have ry10 := By1.c0
      have ry11 := By1.c1
      have rqq0 := Bqq.c0
      have rqq1 := Bqq.c1
      go_wp2_with fail
      clear rA0 rA1 rB0 rB1 rZq0 rZq1 rZr0 rZr1 rx10 rx11 ry10 ry11 rqq0 rqq1
      have rA0 := BA.c0
      have rA1 := BA.c1
      have rB0 := BB.c0
      have rB1 := BB.c1
      have rZq0 := BZq.c0
      have rZq1 := BZq.c1
      have rZr0 := BZr.c0
      have rZr1 := BZr.c1
      have rx10 := Bx1.c0
      have rx11 := Bx1.c1
      have ry10 := By1.c0
      have ry11 := By1.c1
      have rqq0 := Bqq.c0
      have rqq1 := Bqq.c1
      go_wp2_with fail
      clear rA0 rA1 rB0 rB1 rZq0 rZq1 rZr0 rZr1 rx10 rx11 ry10 ry11 rqq0 rqq1
      replace BA := BA.drew
      replace BB := BB.drew
      replace BZq := BZq.drew
      replace BZr := BZr.drew
      replace Bx1 := Bx1.drew
      replace By1 := By1.drew
      replace Bqq := Bqq.drew
      replace UA := UA.drew
      replace UB := UB.drew
      replace Ux1 := Ux1.drew
      replace Uy1 := Uy1.drew
      replace Uq := Uq.drew
      replace Nwq := Nwq.drew
      replace Hw := Hw.drew
      replace Hq := Hq.drew
      refine region_T (S := fun wx => (wx.cell? ⟨w7.heap.size, 0, none⟩ = some (.bool sgq) ∧ wx.cell? ⟨w7.heap.size, 1, none⟩ = some (.slice aq nq cq)) ∧ (wx.cell? ⟨w2.heap.size, 0, none⟩ = some (.bool true) ∧ wx.cell? ⟨w2.heap.size, 1, none⟩ = some (.slice ax1 nx1 cx1)) ∧ (wx.cell? ⟨w4.heap.size, 0, none⟩ = some (.bool false) ∧ wx.cell? ⟨w4.heap.size, 1, none⟩ = some (.slice ay1 ny1 cy1))) (T := fun _ => false) (by kernel_rfl) ?_
      have hS0 : (w9.drew.cell? ⟨w7.heap.size, 0, none⟩ = some (.bool sgq) ∧ w9.drew.cell? ⟨w7.heap.size, 1, none⟩ = some (.slice aq nq cq)) ∧ (w9.drew.cell? ⟨w2.heap.size, 0, none⟩ = some (.bool true) ∧ w9.drew.cell? ⟨w2.heap.size, 1, none⟩ = some (.slice ax1 nx1 cx1)) ∧ (w9.drew.cell? ⟨w4.heap.size, 0, none⟩ = some (.bool false) ∧ w9.drew.cell? ⟨w4.heap.size, 1, none⟩ = some (.slice ay1 ny1 cy1)) := ⟨⟨(Bqq).c0, (Bqq).c1⟩, ⟨(Bx1).c0, (Bx1).c1⟩, ⟨(By1).c0, (By1).c1⟩⟩
      refine anyT_take (i := 0) (v := ?_) rfl (by kernel_rfl) (by kernel_rfl) (by kernel_rfl) (by kernel_rfl) (by kernel_rfl) (fun _ _ _ h => h) (Or.inl ⟨by rfl, ?_⟩) hS0 ?_
      rotate_left 1
      · intro wz hz; obtain ⟨⟨_, _⟩, ⟨_, _⟩, ⟨_, _⟩⟩ := hz; go_simp; try with_reducible rfl
      try simp only [Act.put, List.setIfInBounds_toArray, List.set_cons_zero, List.set_cons_succ]
      refine anyT_take (i := 1) (v := ?_) rfl (by kernel_rfl) (by kernel_rfl) (by kernel_rfl) (by kernel_rfl) (by kernel_rfl) (fun _ _ _ h => h) (Or.inl ⟨by rfl, ?_⟩) hS0 ?_
      rotate_left 1
      · intro wz hz; obtain ⟨⟨_, _⟩, ⟨_, _⟩, ⟨_, _⟩⟩ := hz; go_simp; try with_reducible rfl
      try simp only [Act.put, List.setIfInBounds_toArray, List.set_cons_zero, List.set_cons_succ]
      refine anyT_take (i := 2) (v := ?_) rfl (by kernel_rfl) (by kernel_rfl) (by kernel_rfl) (by kernel_rfl) (by kernel_rfl) (fun _ _ _ h => h) (Or.inl ⟨by rfl, ?_⟩) hS0 ?_
      rotate_left 1
      · intro wz hz; obtain ⟨⟨_, _⟩, ⟨_, _⟩, ⟨_, _⟩⟩ := hz; go_simp; try with_reducible rfl
      try simp only [Act.put, List.setIfInBounds_toArray, List.set_cons_zero, List.set_cons_succ]
      refine anyT_take (i := 3) (v := ?_) rfl (by kernel_rfl) (by kernel_rfl) (by kernel_rfl) (by kernel_rfl) (by kernel_rfl) (fun _ _ _ h => h) (Or.inl ⟨by rfl, ?_⟩) hS0 ?_
      rotate_left 1
      · intro wz hz; obtain ⟨⟨_, _⟩, ⟨_, _⟩, ⟨_, _⟩⟩ := hz; go_simp; try with_reducible rfl
      try simp only [Act.put, List.setIfInBounds_toArray, List.set_cons_zero, List.set_cons_succ]
      clear hS0
      refine anyT_one (i := 4) (by kernel_rfl) rfl (fun K hK => ?_)
      go_simp
      refine (rmul_any _ _ _ _ _ _ _ _ _ _ _ (by omega) (by omega) Uq Uy1).mono ?_
      rintro e w10 ⟨sgpr, apr, npr, cpr, fpr, rfl, k1, k2, kb10, k4, k5, k6, Lpr⟩
      have Vpr : Hid (ival sgpr (val fpr npr) = Z * B) := hid (by rw [k6, Vq.out, Vy1.out])
      have Mpr := k4
      have Spr := hid k5
      clear k6 k5 k4 k2
      replace Nwq := New.below Nwq Uq kb10 (Nat.le_refl _)
      replace BA := BA.keep kb10
      replace BB := BB.keep kb10
      replace BZq := BZq.keep kb10
      replace BZr := BZr.keep kb10
      replace Bx1 := Bx1.keep kb10
      replace By1 := By1.keep kb10
      replace Bqq := Bqq.keep kb10
      replace UA := UA.below kb10 (Nat.le_refl _)
      replace UB := UB.below kb10 (Nat.le_refl _)
      replace Ux1 := Ux1.below kb10 (Nat.le_refl _)
      replace Uy1 := Uy1.below kb10 (Nat.le_refl _)
      replace Uq := Uq.below kb10 (Nat.le_refl _)
      replace Hw := Hw.trans (kb10.mono Hw.size)
      replace Hq := Hq.trans (kb10.mono Hq.size)
      have Upr := k1
      clear k1
      clear kb10
      refine hK.out _ _ (fun _ => ⟨⟨(Bqq).c0, (Bqq).c1⟩, ⟨(Bx1).c0, (Bx1).c1⟩, ⟨(By1).c0, (By1).c1⟩⟩) ?_
      clear hK K
      try simp only [Act.put, List.setIfInBounds_toArray, List.set_cons_zero, List.set_cons_succ]
      refine anyT_one (i := 5) (by kernel_rfl) rfl (fun K hK => ?_)
      go_simp
      have hz9 := BZr.lt
      refine (rsub_any _ _ _ _ _ _ _ _ _ _ _ (by omega) (by omega) Ux1 Upr).mono ?_
      rintro e w11 ⟨sgrr, arr, nrr, crr, frr, rfl, k1, k2, kb11, k4, k5, k6, Lrr⟩
      have Vrr : Hid (ival sgrr (val frr nrr) = A - Z * B) := hid (by rw [k6, Vx1.out, Vpr.out])
      have Mrr := k4
      have Srr := hid k5
      have Nwrr := k2; clear k6 k5 k4 k2
      replace Nwq := New.below Nwq Uq kb11 (Nat.le_refl _)
      replace BA := BA.keep kb11
      replace BB := BB.keep kb11
      replace BZq := BZq.keep kb11
      replace BZr := BZr.keep kb11
      replace Bx1 := Bx1.keep kb11
      replace By1 := By1.keep kb11
      replace Bqq := Bqq.keep kb11
      replace UA := UA.below kb11 (Nat.le_refl _)
      replace UB := UB.below kb11 (Nat.le_refl _)
      replace Ux1 := Ux1.below kb11 (Nat.le_refl _)
      replace Uy1 := Uy1.below kb11 (Nat.le_refl _)
      replace Uq := Uq.below kb11 (Nat.le_refl _)
      replace Upr := Upr.below kb11 (Nat.le_refl _)
      replace Hw := Hw.trans (kb11.mono Hw.size)
      replace Hq := Hq.trans (kb11.mono Hq.size)
      have Urr := k1
      clear k1
      clear kb11
      refine hK.out _ _ (fun _ => ⟨⟨(Bqq).c0, (Bqq).c1⟩, ⟨(Bx1).c0, (Bx1).c1⟩, ⟨(By1).c0, (By1).c1⟩⟩) ?_
      clear hK K
      try simp only [Act.put, List.setIfInBounds_toArray, List.set_cons_zero, List.set_cons_succ]
      have fZq := BZq.fr
      have fZr := BZr.fr
      have zq0 := BZq.c0
      have zq1 := BZq.c1
      have zr0 := BZr.c0
      have zr1 := BZr.c1
      have hz1 := BZq.lt
      have hz2 := BZr.lt
      refine anyT_one (i := 6) (by kernel_rfl) rfl (fun K hK => ?_)
      go_simp
      refine hK.out _ _ (fun _ => ⟨⟨((Bqq.other (by first | (simp; done) | (simp; omega)) _).other (by first | (simp; done) | (simp; omega)) _).c0, ((Bqq.other (by first | (simp; done) | (simp; omega)) _).other (by first | (simp; done) | (simp; omega)) _).c1⟩, ⟨((Bx1.other (by first | (simp; done) | (simp; omega)) _).other (by first | (simp; done) | (simp; omega)) _).c0, ((Bx1.other (by first | (simp; done) | (simp; omega)) _).other (by first | (simp; done) | (simp; omega)) _).c1⟩, ⟨((By1.other (by first | (simp; done) | (simp; omega)) _).other (by first | (simp; done) | (simp; omega)) _).c0, ((By1.other (by first | (simp; done) | (simp; omega)) _).other (by first | (simp; done) | (simp; omega)) _).c1⟩⟩) ?_
      clear hK K
      try simp only [Act.put, List.setIfInBounds_toArray, List.set_cons_zero, List.set_cons_succ]
      refine anyT_one (i := 7) (by kernel_rfl) rfl (fun K hK => ?_)
      go_simp
      refine hK.out _ _ (fun _ => ⟨⟨((((Bqq.other (by first | (simp; done) | (simp; omega)) _).other (by first | (simp; done) | (simp; omega)) _).other (by first | (simp; done) | (simp; omega)) _).other (by first | (simp; done) | (simp; omega)) _).c0, ((((Bqq.other (by first | (simp; done) | (simp; omega)) _).other (by first | (simp; done) | (simp; omega)) _).other (by first | (simp; done) | (simp; omega)) _).other (by first | (simp; done) | (simp; omega)) _).c1⟩, ⟨((((Bx1.other (by first | (simp; done) | (simp; omega)) _).other (by first | (simp; done) | (simp; omega)) _).other (by first | (simp; done) | (simp; omega)) _).other (by first | (simp; done) | (simp; omega)) _).c0, ((((Bx1.other (by first | (simp; done) | (simp; omega)) _).other (by first | (simp; done) | (simp; omega)) _).other (by first | (simp; done) | (simp; omega)) _).other (by first | (simp; done) | (simp; omega)) _).c1⟩, ⟨((((By1.other (by first | (simp; done) | (simp; omega)) _).other (by first | (simp; done) | (simp; omega)) _).other (by first | (simp; done) | (simp; omega)) _).other (by first | (simp; done) | (simp; omega)) _).c0, ((((By1.other (by first | (simp; done) | (simp; omega)) _).other (by first | (simp; done) | (simp; omega)) _).other (by first | (simp; done) | (simp; omega)) _).other (by first | (simp; done) | (simp; omega)) _).c1⟩⟩) ?_
      clear hK K
      try simp only [Act.put, List.setIfInBounds_toArray, List.set_cons_zero, List.set_cons_succ]
      refine anyT_one (i := 8) (by kernel_rfl) rfl (fun K hK => ?_)
      go_simp
      refine hK.out _ _ (fun _ => ⟨⟨((((Bqq.other (by first | (simp; done) | (simp; omega)) _).other (by first | (simp; done) | (simp; omega)) _).other (by first | (simp; done) | (simp; omega)) _).other (by first | (simp; done) | (simp; omega)) _).c0, ((((Bqq.other (by first | (simp; done) | (simp; omega)) _).other (by first | (simp; done) | (simp; omega)) _).other (by first | (simp; done) | (simp; omega)) _).other (by first | (simp; done) | (simp; omega)) _).c1⟩, ⟨((((Bx1.other (by first | (simp; done) | (simp; omega)) _).other (by first | (simp; done) | (simp; omega)) _).other (by first | (simp; done) | (simp; omega)) _).other (by first | (simp; done) | (simp; omega)) _).c0, ((((Bx1.other (by first | (simp; done) | (simp; omega)) _).other (by first | (simp; done) | (simp; omega)) _).other (by first | (simp; done) | (simp; omega)) _).other (by first | (simp; done) | (simp; omega)) _).c1⟩, ⟨((((By1.other (by first | (simp; done) | (simp; omega)) _).other (by first | (simp; done) | (simp; omega)) _).other (by first | (simp; done) | (simp; omega)) _).other (by first | (simp; done) | (simp; omega)) _).c0, ((((By1.other (by first | (simp; done) | (simp; omega)) _).other (by first | (simp; done) | (simp; omega)) _).other (by first | (simp; done) | (simp; omega)) _).other (by first | (simp; done) | (simp; omega)) _).c1⟩⟩) ?_
      clear hK K
      try simp only [Act.put, List.setIfInBounds_toArray, List.set_cons_zero, List.set_cons_succ]
      refine anyT_done (by kernel_rfl) ?_ _
      clear fZq fZr zq0 zq1 zr0 zr1 hz1 hz2
      have hz1 := BZq.lt
      have hz2 := BZr.lt
      have F2 := ((BZq.set (.bool sgq) (.slice aq nq cq)).other (p := ⟨w.heap.size + 1 + 1 + 1, 0, none⟩) (by first | (simp; done) | (simp; omega)) (.bool sgrr)).other (p := ⟨w.heap.size + 1 + 1 + 1, 1, none⟩) (by first | (simp; done) | (simp; omega)) (.slice arr nrr crr)
      have F3 := (((BZr.other (p := ⟨w.heap.size + 1 + 1, 0, none⟩) (by first | (simp; done) | (simp; omega)) (.bool sgq)).other (p := ⟨w.heap.size + 1 + 1, 1, none⟩) (by first | (simp; done) | (simp; omega)) (.slice aq nq cq)).set (.bool sgrr) (.slice arr nrr crr))
      have f20 := F2.c0
      have f21 := F2.c1
      have f30 := F3.c0
      have f31 := F3.c1
      go_wp2_with fail
      refine bodyPost_ret (v := .tuple #[.agg #[.bool sgq, .slice aq nq cq], .agg #[.bool sgrr, .slice arr nrr crr], .int .i64 0]) (by first | (simp [results, Tryd.results12, go_sem, f20, f21, f30, f31]; done) | (simp [results, Tryd.results12, go_sem, f20, f21, f30, f31]; rfl)) rfl ?_
      refine ⟨sgq, aq, nq, cq, fq, sgrr, arr, nrr, crr, frr, rfl, us_put4 Uq Nwq (by omega) (by omega) _ _ _ _, us_put4 Urr Nwrr (by omega) (by omega) _ _ _ _, Below.put4 Hw (by omega) (by omega) _ _ _ _, hid ?_, by omega, by omega⟩
      rw [Vq.out, Vrr.out, VA.out, VB.out, ← HZ.out]
      exact hFD.out _ HZ0 HR0.out
    ·
      have HR0 : Hid (Ro ≠ 0) := hid (by rw [← HRt.out]; intro h; exact hr (Mt.zero.1 h))
      have hrp : 0 < nt := by omega
      clear hr
      have rA0 := BA.c0
      have rA1 := BA.c1
      have rB0 := BB.c0
      have rB1 := BB.c1
      have rZq0 := BZq.c0
      have rZq1 := BZq.c1
      have rZr0 := BZr.c0
      have rZr1 := BZr.c1
      have rx10 := Bx1.c0
      have rx11 := Bx1.c1
      have ry10 := By1.c0
      have ry11 := By1.c1
      have rqq0 := Bqq.c0
      have rqq1 := Bqq.c1
      go_wp2_with fail
      clear rA0 rA1 rB0 rB1 rZq0 rZq1 rZr0 rZr1 rx10 rx11 ry10 ry11 rqq0 rqq1
      replace BA := BA.drew
      replace BB := BB.drew
      replace BZq := BZq.drew
      replace BZr := BZr.drew
      replace Bx1 := Bx1.drew
      replace By1 := By1.drew
      replace Bqq := Bqq.drew
      replace UA := UA.drew
      replace UB := UB.drew
      replace Ux1 := Ux1.drew
      replace Uy1 := Uy1.drew
      replace Uq := Uq.drew
      replace Nwq := Nwq.drew
      replace Hw := Hw.drew
      replace Hq := Hq.drew
      refine region_T (S := fun wx => wx.cell? ⟨w7.heap.size, 0, none⟩ = some (.bool sgq) ∧ wx.cell? ⟨w7.heap.size, 1, none⟩ = some (.slice aq nq cq)) (T := fun j => j == 3) (by kernel_rfl) ?_
      refine anyT_take (i := 0) (v := ?_) rfl (by kernel_rfl) (by kernel_rfl) (by kernel_rfl) (by kernel_rfl) (by kernel_rfl) (fun _ _ _ h => h) (Or.inl ⟨by rfl, ?_⟩) ⟨Bqq.c0, Bqq.c1⟩ ?_
      rotate_left 1
      · intro wz hz; obtain ⟨_, _⟩ := hz; go_simp; try with_reducible rfl
      try simp only [Act.put, List.setIfInBounds_toArray, List.set_cons_zero, List.set_cons_succ]
      refine anyT_one (i := 1) (by kernel_rfl) rfl (fun K hK => ?_)
      go_simp
      refine (rof_any _ _ (by omega) (by omega)).mono ?_
      rintro e w10 ⟨sgon, aon, non, con, fon, rfl, k1, k2, kb10, k4, k5, k6, Lon⟩
      have Von : Hid (ival sgon (val fon non) = 1) := hid (by rw [k6])
      have Mon := k4
      have Son := hid k5
      clear k6 k5 k4 k2
      replace BA := BA.keep kb10
      replace BB := BB.keep kb10
      replace BZq := BZq.keep kb10
      replace BZr := BZr.keep kb10
      replace Bx1 := Bx1.keep kb10
      replace By1 := By1.keep kb10
      replace Bqq := Bqq.keep kb10
      replace UA := UA.below kb10 (Nat.le_refl _)
      replace UB := UB.below kb10 (Nat.le_refl _)
      replace Ux1 := Ux1.below kb10 (Nat.le_refl _)
      replace Uy1 := Uy1.below kb10 (Nat.le_refl _)
      replace Uq := Uq.below kb10 (Nat.le_refl _)
      replace Hw := Hw.trans (kb10.mono Hw.size)
      replace Hq := Hq.trans (kb10.mono Hq.size)
      have Uon := k1
      clear k1
      clear kb10
      refine hK.out _ _ (fun _ => ⟨Bqq.c0, Bqq.c1⟩) ?_
      clear hK K
      try simp only [Act.put, List.setIfInBounds_toArray, List.set_cons_zero, List.set_cons_succ]
      refine anyT_one (i := 2) (by kernel_rfl) rfl (fun K hK => ?_)
      go_simp
      have hq8 := Bqq.lt
      refine (rsub_any _ _ _ _ _ _ _ _ _ _ _ (by omega) (by omega) Uq Uon).mono ?_
      rintro e w11 ⟨sgq2, aq2, nq2, cq2, fq2, rfl, k1, k2, kb11, k4, k5, k6, Lq2⟩
      have Vq2 : Hid (ival sgq2 (val fq2 nq2) = Z0 - 1) := hid (by rw [k6, Vq.out, Von.out])
      have Mq2 := k4
      have Sq2 := hid k5
      have Nwq2 := k2; clear k6 k5 k4 k2
      replace BA := BA.keep kb11
      replace BB := BB.keep kb11
      replace BZq := BZq.keep kb11
      replace BZr := BZr.keep kb11
      replace Bx1 := Bx1.keep kb11
      replace By1 := By1.keep kb11
      replace Bqq := Bqq.keep kb11
      replace UA := UA.below kb11 (Nat.le_refl _)
      replace UB := UB.below kb11 (Nat.le_refl _)
      replace Ux1 := Ux1.below kb11 (Nat.le_refl _)
      replace Uy1 := Uy1.below kb11 (Nat.le_refl _)
      replace Uq := Uq.below kb11 (Nat.le_refl _)
      replace Uon := Uon.below kb11 (Nat.le_refl _)
      replace Hw := Hw.trans (kb11.mono Hw.size)
      replace Hq := Hq.trans (kb11.mono Hq.size)
      have Uq2 := k1
      clear k1
      clear kb11
      refine hK.out _ _ (fun _ => ⟨Bqq.c0, Bqq.c1⟩) ?_
      clear hK K
      try simp only [Act.put, List.setIfInBounds_toArray, List.set_cons_zero, List.set_cons_succ]
      have rq0 := Bqq.c0
      have rq1 := Bqq.c1
      have rqf := Bqq.fr
      refine anyT_one (i := 3) (by kernel_rfl) rfl (fun K hK => ?_)
      go_simp
      refine hK.out _ _ (fun h => by cases h) ?_
      clear hK K rq0 rq1 rqf
      try simp only [Act.put, List.setIfInBounds_toArray, List.set_cons_zero, List.set_cons_succ]
      refine anyT_done (by kernel_rfl) ?_ _
      have hq9 := Bqq.lt
      replace Bqq := Bqq.set (.bool sgq2) (.slice aq2 nq2 cq2)
      replace BA := (BA.other (p := ⟨w7.heap.size, 0, none⟩) (by first | (simp; done) | (simp; omega)) (.bool sgq2)).other (p := ⟨w7.heap.size, 1, none⟩) (by first | (simp; done) | (simp; omega)) (.slice aq2 nq2 cq2)
      replace BB := (BB.other (p := ⟨w7.heap.size, 0, none⟩) (by first | (simp; done) | (simp; omega)) (.bool sgq2)).other (p := ⟨w7.heap.size, 1, none⟩) (by first | (simp; done) | (simp; omega)) (.slice aq2 nq2 cq2)
      replace BZq := (BZq.other (p := ⟨w7.heap.size, 0, none⟩) (by first | (simp; done) | (simp; omega)) (.bool sgq2)).other (p := ⟨w7.heap.size, 1, none⟩) (by first | (simp; done) | (simp; omega)) (.slice aq2 nq2 cq2)
      replace BZr := (BZr.other (p := ⟨w7.heap.size, 0, none⟩) (by first | (simp; done) | (simp; omega)) (.bool sgq2)).other (p := ⟨w7.heap.size, 1, none⟩) (by first | (simp; done) | (simp; omega)) (.slice aq2 nq2 cq2)
      replace Bx1 := (Bx1.other (p := ⟨w7.heap.size, 0, none⟩) (by first | (simp; done) | (simp; omega)) (.bool sgq2)).other (p := ⟨w7.heap.size, 1, none⟩) (by first | (simp; done) | (simp; omega)) (.slice aq2 nq2 cq2)
      replace By1 := (By1.other (p := ⟨w7.heap.size, 0, none⟩) (by first | (simp; done) | (simp; omega)) (.bool sgq2)).other (p := ⟨w7.heap.size, 1, none⟩) (by first | (simp; done) | (simp; omega)) (.slice aq2 nq2 cq2)
      have hqs := Hq.size
      replace Uq2 := (Uq2.apart Nwq2 (p := ⟨w7.heap.size, 0, none⟩) hq8 (.bool sgq2)).apart (Nwq2.set _ _) (p := ⟨w7.heap.size, 1, none⟩) hq8 (.slice aq2 nq2 cq2)
      replace Nwq2 := (Nwq2.set ⟨w7.heap.size, 0, none⟩ (.bool sgq2)).set ⟨w7.heap.size, 1, none⟩ (.slice aq2 nq2 cq2)
      replace Hq := (Hq.setCell (p := ⟨w7.heap.size, 0, none⟩) (Nat.le_refl _) (.bool sgq2)).setCell (p := ⟨w7.heap.size, 1, none⟩) (Nat.le_refl _) (.slice aq2 nq2 cq2)
      replace Hw := (Hw.setCell (p := ⟨w7.heap.size, 0, none⟩) (by first | (simp; done) | (simp; omega)) (.bool sgq2)).setCell (p := ⟨w7.heap.size, 1, none⟩) (by first | (simp; done) | (simp; omega)) (.slice aq2 nq2 cq2)
      clear UA UB Uq Uon Ux1 Uy1
      have Ux1 := Qx1.below Hq (Nat.le_refl _)
      have Uy1 := Qy1.below Hq (Nat.le_refl _)
      clear Nwq
      generalize ((w11.setCell ⟨w7.heap.size, 0, none⟩ (.bool sgq2)).setCell ⟨w7.heap.size, 1, none⟩ (.slice aq2 nq2 cq2)) = w12 at BA BB BZq BZr Bx1 By1 Bqq Ux1 Uy1 Uq2 Hw Hq Nwq2 ⊢
      obtain ⟨Z, HZ⟩ : ∃ z : Int, Hid (Z0 - 1 = z) := ⟨_, hid rfl⟩
      replace Vq2 : Hid (ival sgq2 (val fq2 nq2) = Z) := hid (Vq2.out.trans HZ.out)
      have rA0 := BA.c0
      have rA1 := BA.c1
      have rB0 := BB.c0
      have rB1 := BB.c1
      have rZq0 := BZq.c0
      have rZq1 := BZq.c1
      have rZr0 := BZr.c0
      have rZr1 := BZr.c1
      have rx10 := Bx1.c0
      have rx11 := Bx1.c1
      have ry10 := By1.c0
      have ry11 := By1.c1
      have rqq0 := Bqq.c0
      have rqq1 := Bqq.c1
      go_wp2_with fail
      clear rA0 rA1 rB0 rB1 rZq0 rZq1 rZr0 rZr1 rx10 rx11 ry10 ry11 rqq0 rqq1
      replace BA := BA.drew
      replace BB := BB.drew
      replace BZq := BZq.drew
      replace BZr := BZr.drew
      replace Bx1 := Bx1.drew
      replace By1 := By1.drew
      replace Bqq := Bqq.drew
      replace Ux1 := Ux1.drew
      replace Uy1 := Uy1.drew
      replace Uq2 := Uq2.drew
      replace Nwq2 := Nwq2.drew
      replace Hw := Hw.drew
      replace Hq := Hq.drew
      refine region_T (S := fun wx => (wx.cell? ⟨w7.heap.size, 0, none⟩ = some (.bool sgq2) ∧ wx.cell? ⟨w7.heap.size, 1, none⟩ = some (.slice aq2 nq2 cq2)) ∧ (wx.cell? ⟨w2.heap.size, 0, none⟩ = some (.bool true) ∧ wx.cell? ⟨w2.heap.size, 1, none⟩ = some (.slice ax1 nx1 cx1)) ∧ (wx.cell? ⟨w4.heap.size, 0, none⟩ = some (.bool false) ∧ wx.cell? ⟨w4.heap.size, 1, none⟩ = some (.slice ay1 ny1 cy1))) (T := fun _ => false) (by kernel_rfl) ?_
      have hS0 : (w12.drew.cell? ⟨w7.heap.size, 0, none⟩ = some (.bool sgq2) ∧ w12.drew.cell? ⟨w7.heap.size, 1, none⟩ = some (.slice aq2 nq2 cq2)) ∧ (w12.drew.cell? ⟨w2.heap.size, 0, none⟩ = some (.bool true) ∧ w12.drew.cell? ⟨w2.heap.size, 1, none⟩ = some (.slice ax1 nx1 cx1)) ∧ (w12.drew.cell? ⟨w4.heap.size, 0, none⟩ = some (.bool false) ∧ w12.drew.cell? ⟨w4.heap.size, 1, none⟩ = some (.slice ay1 ny1 cy1)) := ⟨⟨(Bqq).c0, (Bqq).c1⟩, ⟨(Bx1).c0, (Bx1).c1⟩, ⟨(By1).c0, (By1).c1⟩⟩
      refine anyT_take (i := 0) (v := ?_) rfl (by kernel_rfl) (by kernel_rfl) (by kernel_rfl) (by kernel_rfl) (by kernel_rfl) (fun _ _ _ h => h) (Or.inl ⟨by rfl, ?_⟩) hS0 ?_
      rotate_left 1
      · intro wz hz; obtain ⟨⟨_, _⟩, ⟨_, _⟩, ⟨_, _⟩⟩ := hz; go_simp; try with_reducible rfl
      try simp only [Act.put, List.setIfInBounds_toArray, List.set_cons_zero, List.set_cons_succ]
      refine anyT_take (i := 1) (v := ?_) rfl (by kernel_rfl) (by kernel_rfl) (by kernel_rfl) (by kernel_rfl) (by kernel_rfl) (fun _ _ _ h => h) (Or.inl ⟨by rfl, ?_⟩) hS0 ?_
      rotate_left 1
      · intro wz hz; obtain ⟨⟨_, _⟩, ⟨_, _⟩, ⟨_, _⟩⟩ := hz; go_simp; try with_reducible rfl
      try simp only [Act.put, List.setIfInBounds_toArray, List.set_cons_zero, List.set_cons_succ]
      refine anyT_take (i := 2) (v := ?_) rfl (by kernel_rfl) (by kernel_rfl) (by kernel_rfl) (by kernel_rfl) (by kernel_rfl) (fun _ _ _ h => h) (Or.inl ⟨by rfl, ?_⟩) hS0 ?_
      rotate_left 1
      · intro wz hz; obtain ⟨⟨_, _⟩, ⟨_, _⟩, ⟨_, _⟩⟩ := hz; go_simp; try with_reducible rfl
      try simp only [Act.put, List.setIfInBounds_toArray, List.set_cons_zero, List.set_cons_succ]
      refine anyT_take (i := 3) (v := ?_) rfl (by kernel_rfl) (by kernel_rfl) (by kernel_rfl) (by kernel_rfl) (by kernel_rfl) (fun _ _ _ h => h) (Or.inl ⟨by rfl, ?_⟩) hS0 ?_
      rotate_left 1
      · intro wz hz; obtain ⟨⟨_, _⟩, ⟨_, _⟩, ⟨_, _⟩⟩ := hz; go_simp; try with_reducible rfl
      try simp only [Act.put, List.setIfInBounds_toArray, List.set_cons_zero, List.set_cons_succ]
      clear hS0
      refine anyT_one (i := 4) (by kernel_rfl) rfl (fun K hK => ?_)
      go_simp
      refine (rmul_any _ _ _ _ _ _ _ _ _ _ _ (by omega) (by omega) Uq2 Uy1).mono ?_
      rintro e w13 ⟨sgpr, apr, npr, cpr, fpr, rfl, k1, k2, kb13, k4, k5, k6, Lpr⟩
      have Vpr : Hid (ival sgpr (val fpr npr) = Z * B) := hid (by rw [k6, Vq2.out, Vy1.out])
      have Mpr := k4
      have Spr := hid k5
      clear k6 k5 k4 k2
      replace Nwq2 := New.below Nwq2 Uq2 kb13 (Nat.le_refl _)
      replace BA := BA.keep kb13
      replace BB := BB.keep kb13
      replace BZq := BZq.keep kb13
      replace BZr := BZr.keep kb13
      replace Bx1 := Bx1.keep kb13
      replace By1 := By1.keep kb13
      replace Bqq := Bqq.keep kb13
      replace Ux1 := Ux1.below kb13 (Nat.le_refl _)
      replace Uy1 := Uy1.below kb13 (Nat.le_refl _)
      replace Uq2 := Uq2.below kb13 (Nat.le_refl _)
      replace Hw := Hw.trans (kb13.mono Hw.size)
      replace Hq := Hq.trans (kb13.mono Hq.size)
      have Upr := k1
      clear k1
      clear kb13
      refine hK.out _ _ (fun _ => ⟨⟨(Bqq).c0, (Bqq).c1⟩, ⟨(Bx1).c0, (Bx1).c1⟩, ⟨(By1).c0, (By1).c1⟩⟩) ?_
      clear hK K
      try simp only [Act.put, List.setIfInBounds_toArray, List.set_cons_zero, List.set_cons_succ]
      refine anyT_one (i := 5) (by kernel_rfl) rfl (fun K hK => ?_)
      go_simp
      have hz9 := BZr.lt
      refine (rsub_any _ _ _ _ _ _ _ _ _ _ _ (by omega) (by omega) Ux1 Upr).mono ?_
      rintro e w14 ⟨sgrr, arr, nrr, crr, frr, rfl, k1, k2, kb14, k4, k5, k6, Lrr⟩
      have Vrr : Hid (ival sgrr (val frr nrr) = A - Z * B) := hid (by rw [k6, Vx1.out, Vpr.out])
      have Mrr := k4
      have Srr := hid k5
      have Nwrr := k2; clear k6 k5 k4 k2
      replace Nwq2 := New.below Nwq2 Uq2 kb14 (Nat.le_refl _)
      replace BA := BA.keep kb14
      replace BB := BB.keep kb14
      replace BZq := BZq.keep kb14
      replace BZr := BZr.keep kb14
      replace Bx1 := Bx1.keep kb14
      replace By1 := By1.keep kb14
      replace Bqq := Bqq.keep kb14
      replace Ux1 := Ux1.below kb14 (Nat.le_refl _)
      replace Uy1 := Uy1.below kb14 (Nat.le_refl _)
      replace Uq2 := Uq2.below kb14 (Nat.le_refl _)
      replace Upr := Upr.below kb14 (Nat.le_refl _)
      replace Hw := Hw.trans (kb14.mono Hw.size)
      replace Hq := Hq.trans (kb14.mono Hq.size)
      have Urr := k1
      clear k1
      clear kb14
      refine hK.out _ _ (fun _ => ⟨⟨(Bqq).c0, (Bqq).c1⟩, ⟨(Bx1).c0, (Bx1).c1⟩, ⟨(By1).c0, (By1).c1⟩⟩) ?_
      clear hK K
      try simp only [Act.put, List.setIfInBounds_toArray, List.set_cons_zero, List.set_cons_succ]
      have fZq := BZq.fr
      have fZr := BZr.fr
      have zq0 := BZq.c0
      have zq1 := BZq.c1
      have zr0 := BZr.c0
      have zr1 := BZr.c1
      have hz1 := BZq.lt
      have hz2 := BZr.lt
      refine anyT_one (i := 6) (by kernel_rfl) rfl (fun K hK => ?_)
      go_simp
      refine hK.out _ _ (fun _ => ⟨⟨((Bqq.other (by first | (simp; done) | (simp; omega)) _).other (by first | (simp; done) | (simp; omega)) _).c0, ((Bqq.other (by first | (simp; done) | (simp; omega)) _).other (by first | (simp; done) | (simp; omega)) _).c1⟩, ⟨((Bx1.other (by first | (simp; done) | (simp; omega)) _).other (by first | (simp; done) | (simp; omega)) _).c0, ((Bx1.other (by first | (simp; done) | (simp; omega)) _).other (by first | (simp; done) | (simp; omega)) _).c1⟩, ⟨((By1.other (by first | (simp; done) | (simp; omega)) _).other (by first | (simp; done) | (simp; omega)) _).c0, ((By1.other (by first | (simp; done) | (simp; omega)) _).other (by first | (simp; done) | (simp; omega)) _).c1⟩⟩) ?_
      clear hK K
      try simp only [Act.put, List.setIfInBounds_toArray, List.set_cons_zero, List.set_cons_succ]
      refine anyT_one (i := 7) (by kernel_rfl) rfl (fun K hK => ?_)
      go_simp
      refine hK.out _ _ (fun _ => ⟨⟨((((Bqq.other (by first | (simp; done) | (simp; omega)) _).other (by first | (simp; done) | (simp; omega)) _).other (by first | (simp; done) | (simp; omega)) _).other (by first | (simp; done) | (simp; omega)) _).c0, ((((Bqq.other (by first | (simp; done) | (simp; omega)) _).other (by first | (simp; done) | (simp; omega)) _).other (by first | (simp; done) | (simp; omega)) _).other (by first | (simp; done) | (simp; omega)) _).c1⟩, ⟨((((Bx1.other (by first | (simp; done) | (simp; omega)) _).other (by first | (simp; done) | (simp; omega)) _).other (by first | (simp; done) | (simp; omega)) _).other (by first | (simp; done) | (simp; omega)) _).c0, ((((Bx1.other (by first | (simp; done) | (simp; omega)) _).other (by first | (simp; done) | (simp; omega)) _).other (by first | (simp; done) | (simp; omega)) _).other (by first | (simp; done) | (simp; omega)) _).c1⟩, ⟨((((By1.other (by first | (simp; done) | (simp; omega)) _).other (by first | (simp; done) | (simp; omega)) _).other (by first | (simp; done) | (simp; omega)) _).other (by first | (simp; done) | (simp; omega)) _).c0, ((((By1.other (by first | (simp; done) | (simp; omega)) _).other (by first | (simp; done) | (simp; omega)) _).other (by first | (simp; done) | (simp; omega)) _).other (by first | (simp; done) | (simp; omega)) _).c1⟩⟩) ?_
      clear hK K
      try simp only [Act.put, List.setIfInBounds_toArray, List.set_cons_zero, List.set_cons_succ]
      refine anyT_one (i := 8) (by kernel_rfl) rfl (fun K hK => ?_)
      go_simp
      refine hK.out _ _ (fun _ => ⟨⟨((((Bqq.other (by first | (simp; done) | (simp; omega)) _).other (by first | (simp; done) | (simp; omega)) _).other (by first | (simp; done) | (simp; omega)) _).other (by first | (simp; done) | (simp; omega)) _).c0, ((((Bqq.other (by first | (simp; done) | (simp; omega)) _).other (by first | (simp; done) | (simp; omega)) _).other (by first | (simp; done) | (simp; omega)) _).other (by first | (simp; done) | (simp; omega)) _).c1⟩, ⟨((((Bx1.other (by first | (simp; done) | (simp; omega)) _).other (by first | (simp; done) | (simp; omega)) _).other (by first | (simp; done) | (simp; omega)) _).other (by first | (simp; done) | (simp; omega)) _).c0, ((((Bx1.other (by first | (simp; done) | (simp; omega)) _).other (by first | (simp; done) | (simp; omega)) _).other (by first | (simp; done) | (simp; omega)) _).other (by first | (simp; done) | (simp; omega)) _).c1⟩, ⟨((((By1.other (by first | (simp; done) | (simp; omega)) _).other (by first | (simp; done) | (simp; omega)) _).other (by first | (simp; done) | (simp; omega)) _).other (by first | (simp; done) | (simp; omega)) _).c0, ((((By1.other (by first | (simp; done) | (simp; omega)) _).other (by first | (simp; done) | (simp; omega)) _).other (by first | (simp; done) | (simp; omega)) _).other (by first | (simp; done) | (simp; omega)) _).c1⟩⟩) ?_
      clear hK K
      try simp only [Act.put, List.setIfInBounds_toArray, List.set_cons_zero, List.set_cons_succ]
      refine anyT_done (by kernel_rfl) ?_ _
      clear fZq fZr zq0 zq1 zr0 zr1 hz1 hz2
      have hz1 := BZq.lt
      have hz2 := BZr.lt
      have F2 := ((BZq.set (.bool sgq2) (.slice aq2 nq2 cq2)).other (p := ⟨w.heap.size + 1 + 1 + 1, 0, none⟩) (by first | (simp; done) | (simp; omega)) (.bool sgrr)).other (p := ⟨w.heap.size + 1 + 1 + 1, 1, none⟩) (by first | (simp; done) | (simp; omega)) (.slice arr nrr crr)
      have F3 := (((BZr.other (p := ⟨w.heap.size + 1 + 1, 0, none⟩) (by first | (simp; done) | (simp; omega)) (.bool sgq2)).other (p := ⟨w.heap.size + 1 + 1, 1, none⟩) (by first | (simp; done) | (simp; omega)) (.slice aq2 nq2 cq2)).set (.bool sgrr) (.slice arr nrr crr))
      have f20 := F2.c0
      have f21 := F2.c1
      have f30 := F3.c0
      have f31 := F3.c1
      go_wp2_with fail
      refine bodyPost_ret (v := .tuple #[.agg #[.bool sgq2, .slice aq2 nq2 cq2], .agg #[.bool sgrr, .slice arr nrr crr], .int .i64 0]) (by first | (simp [results, Tryd.results12, go_sem, f20, f21, f30, f31]; done) | (simp [results, Tryd.results12, go_sem, f20, f21, f30, f31]; rfl)) rfl ?_
      refine ⟨sgq2, aq2, nq2, cq2, fq2, sgrr, arr, nrr, crr, frr, rfl, us_put4 Uq2 Nwq2 (by omega) (by omega) _ _ _ _, us_put4 Urr Nwrr (by omega) (by omega) _ _ _ _, Below.put4 Hw (by omega) (by omega) _ _ _ _, hid ?_, by omega, by omega⟩
      rw [Vq2.out, Vrr.out, VA.out, VB.out, ← HZ.out]
      exact hFM.out _ HZ0 HR0.out
  ·
    have hFD : Hid (∀ z, Hid (ival false Qm = z) → (FD A B z (A - z * B))) := hid (fun z hz => by have := fd_plain (s1 := true) (s2 := true) HDV.out.1 HDV.out.2 (.inr rfl); rw [Vx1.out, Vy1.out, show (true != true) = false from rfl, hz.out] at this; exact fd_rest this)
    have rA0 := BA.c0
    have rA1 := BA.c1
    have rB0 := BB.c0
    have rB1 := BB.c1
    have rZq0 := BZq.c0
    have rZq1 := BZq.c1
    have rZr0 := BZr.c0
    have rZr1 := BZr.c1
    have rx10 := Bx1.c0
    have rx11 := Bx1.c1
    have ry10 := By1.c0
    have ry11 := By1.c1
    go_wp2_with fail
    clear rA0 rA1 rB0 rB1 rZq0 rZq1 rZr0 rZr1 rx10 rx11 ry10 ry11
    refine (rnorm_any _ _ _ _ _ _ (by omega) Um).mono ?_
    rintro e w7 ⟨sgq, aq, nq, cq, fq, rfl, k1, k2, kb7, k4, k5, k6, Lq⟩
    obtain ⟨Z0, HZ0⟩ : ∃ z : Int, Hid (ival false Qm = z) := ⟨_, hid rfl⟩
    have Vq : Hid (ival sgq (val fq nq) = Z0) := hid (by rw [k6, HQm.out, HZ0.out])
    have Nwq := k2
    clear k6 k5 k4 k2
    replace BA := BA.keep kb7
    replace BB := BB.keep kb7
    replace BZq := BZq.keep kb7
    replace BZr := BZr.keep kb7
    replace Bx1 := Bx1.keep kb7
    replace By1 := By1.keep kb7
    replace UA := UA.below kb7 (Nat.le_refl _)
    replace UB := UB.below kb7 (Nat.le_refl _)
    replace Ux1 := Ux1.below kb7 (Nat.le_refl _)
    replace Uy1 := Uy1.below kb7 (Nat.le_refl _)
    replace Hw := Hw.trans (kb7.mono Hw.size)
    replace Uo := Uo.below kb7 (Nat.le_refl _)
    have Uq := k1
    clear k1 kb7 Um
    have nsq := BZr.lt
    replace Nwq := New.below Nwq Uq (below_alloc w7 (.cells #[.bool sgq, .slice aq nq cq] 24)) (Nat.le_refl _)
    replace Uo := Uo.alloc (.cells #[.bool sgq, .slice aq nq cq] 24)
    have Bqq := Bx.made w7 (.bool sgq) (.slice aq nq cq) 24
    replace BA := BA.alloc (.cells #[.bool sgq, .slice aq nq cq] 24)
    replace BB := BB.alloc (.cells #[.bool sgq, .slice aq nq cq] 24)
    replace BZq := BZq.alloc (.cells #[.bool sgq, .slice aq nq cq] 24)
    replace BZr := BZr.alloc (.cells #[.bool sgq, .slice aq nq cq] 24)
    replace Bx1 := Bx1.alloc (.cells #[.bool sgq, .slice aq nq cq] 24)
    replace By1 := By1.alloc (.cells #[.bool sgq, .slice aq nq cq] 24)
    replace UA := UA.alloc (.cells #[.bool sgq, .slice aq nq cq] 24)
    replace UB := UB.alloc (.cells #[.bool sgq, .slice aq nq cq] 24)
    replace Ux1 := Ux1.alloc (.cells #[.bool sgq, .slice aq nq cq] 24)
    replace Uy1 := Uy1.alloc (.cells #[.bool sgq, .slice aq nq cq] 24)
    replace Uq := Uq.alloc (.cells #[.bool sgq, .slice aq nq cq] 24)
    replace Hw := Hw.alloc Hw.size (.cells #[.bool sgq, .slice aq nq cq] 24)
    have rA0 := BA.c0
    have rA1 := BA.c1
    have rB0 := BB.c0
    have rB1 := BB.c1
    have rZq0 := BZq.c0
    have rZq1 := BZq.c1
    have rZr0 := BZr.c0
    have rZr1 := BZr.c1
    have rx10 := Bx1.c0
    have rx11 := Bx1.c1
    have ry10 := By1.c0
    have ry11 := By1.c1
    have rqq0 := Bqq.c0
    have rqq1 := Bqq.c1
    go_wp2_with fail
    clear rA0 rA1 rB0 rB1 rZq0 rZq1 rZr0 rZr1 rx10 rx11 ry10 ry11 rqq0 rqq1
    generalize (w7.alloc (.cells #[.bool sgq, .slice aq nq cq] 24)) = w8 at BA BB BZq BZr Bx1 By1 Bqq UA UB Ux1 Uy1 Uq Hw Nwq ⊢
    have HZ := HZ0
    obtain ⟨Z, HZ⟩ : ∃ z : Int, Hid (Z0 = z) := ⟨_, hid rfl⟩
    replace Vq : Hid (ival sgq (val fq nq) = Z) := hid (Vq.out.trans HZ.out)
    have rA0 := BA.c0
    have rA1 := BA.c1
    have rB0 := BB.c0
    have rB1 := BB.c1
    have rZq0 := BZq.c0
    have rZq1 := BZq.c1
    have rZr0 := BZr.c0
    have rZr1 := BZr.c1
    have rx10 := Bx1.c0
    have rx11 := Bx1.c1
    have ry10 := By1.c0
    have ry11 := By1.c1
    have rqq0 := Bqq.c0
    have rqq1 := Bqq.c1
    go_wp2_with fail
    clear rA0 rA1 rB0 rB1 rZq0 rZq1 rZr0 rZr1 rx10 rx11 ry10 ry11 rqq0 rqq1
    replace BA := BA.drew
    replace BB := BB.drew
    replace BZq := BZq.drew
    replace BZr := BZr.drew
    replace Bx1 := Bx1.drew
    replace By1 := By1.drew
    replace Bqq := Bqq.drew
    replace UA := UA.drew
    replace UB := UB.drew
    replace Ux1 := Ux1.drew
    replace Uy1 := Uy1.drew
    replace Uq := Uq.drew
    replace Nwq := Nwq.drew
    replace Hw := Hw.drew
    refine region_T (S := fun wx => (wx.cell? ⟨w7.heap.size, 0, none⟩ = some (.bool sgq) ∧ wx.cell? ⟨w7.heap.size, 1, none⟩ = some (.slice aq nq cq)) ∧ (wx.cell? ⟨w2.heap.size, 0, none⟩ = some (.bool true) ∧ wx.cell? ⟨w2.heap.size, 1, none⟩ = some (.slice ax1 nx1 cx1)) ∧ (wx.cell? ⟨w4.heap.size, 0, none⟩ = some (.bool true) ∧ wx.cell? ⟨w4.heap.size, 1, none⟩ = some (.slice ay1 ny1 cy1))) (T := fun _ => false) (by kernel_rfl) ?_
    have hS0 : (w8.drew.cell? ⟨w7.heap.size, 0, none⟩ = some (.bool sgq) ∧ w8.drew.cell? ⟨w7.heap.size, 1, none⟩ = some (.slice aq nq cq)) ∧ (w8.drew.cell? ⟨w2.heap.size, 0, none⟩ = some (.bool true) ∧ w8.drew.cell? ⟨w2.heap.size, 1, none⟩ = some (.slice ax1 nx1 cx1)) ∧ (w8.drew.cell? ⟨w4.heap.size, 0, none⟩ = some (.bool true) ∧ w8.drew.cell? ⟨w4.heap.size, 1, none⟩ = some (.slice ay1 ny1 cy1)) := ⟨⟨(Bqq).c0, (Bqq).c1⟩, ⟨(Bx1).c0, (Bx1).c1⟩, ⟨(By1).c0, (By1).c1⟩⟩
    refine anyT_take (i := 0) (v := ?_) rfl (by kernel_rfl) (by kernel_rfl) (by kernel_rfl) (by kernel_rfl) (by kernel_rfl) (fun _ _ _ h => h) (Or.inl ⟨by rfl, ?_⟩) hS0 ?_
    rotate_left 1
    · intro wz hz; obtain ⟨⟨_, _⟩, ⟨_, _⟩, ⟨_, _⟩⟩ := hz; go_simp; try with_reducible rfl
    try simp only [Act.put, List.setIfInBounds_toArray, List.set_cons_zero, List.set_cons_succ]
    refine anyT_take (i := 1) (v := ?_) rfl (by kernel_rfl) (by kernel_rfl) (by kernel_rfl) (by kernel_rfl) (by kernel_rfl) (fun _ _ _ h => h) (Or.inl ⟨by rfl, ?_⟩) hS0 ?_
    rotate_left 1
    · intro wz hz; obtain ⟨⟨_, _⟩, ⟨_, _⟩, ⟨_, _⟩⟩ := hz; go_simp; try with_reducible rfl
    try simp only [Act.put, List.setIfInBounds_toArray, List.set_cons_zero, List.set_cons_succ]
    refine anyT_take (i := 2) (v := ?_) rfl (by kernel_rfl) (by kernel_rfl) (by kernel_rfl) (by kernel_rfl) (by kernel_rfl) (fun _ _ _ h => h) (Or.inl ⟨by rfl, ?_⟩) hS0 ?_
    rotate_left 1
    · intro wz hz; obtain ⟨⟨_, _⟩, ⟨_, _⟩, ⟨_, _⟩⟩ := hz; go_simp; try with_reducible rfl
    try simp only [Act.put, List.setIfInBounds_toArray, List.set_cons_zero, List.set_cons_succ]
    refine anyT_take (i := 3) (v := ?_) rfl (by kernel_rfl) (by kernel_rfl) (by kernel_rfl) (by kernel_rfl) (by kernel_rfl) (fun _ _ _ h => h) (Or.inl ⟨by rfl, ?_⟩) hS0 ?_
    rotate_left 1
    · intro wz hz; obtain ⟨⟨_, _⟩, ⟨_, _⟩, ⟨_, _⟩⟩ := hz; go_simp; try with_reducible rfl
    try simp only [Act.put, List.setIfInBounds_toArray, List.set_cons_zero, List.set_cons_succ]
    clear hS0
    refine anyT_one (i := 4) (by kernel_rfl) rfl (fun K hK => ?_)
    go_simp
    refine (rmul_any _ _ _ _ _ _ _ _ _ _ _ (by omega) (by omega) Uq Uy1).mono ?_
    rintro e w9 ⟨sgpr, apr, npr, cpr, fpr, rfl, k1, k2, kb9, k4, k5, k6, Lpr⟩
    have Vpr : Hid (ival sgpr (val fpr npr) = Z * B) := hid (by rw [k6, Vq.out, Vy1.out])
    have Mpr := k4
    have Spr := hid k5
    clear k6 k5 k4 k2
    replace Nwq := New.below Nwq Uq kb9 (Nat.le_refl _)
    replace BA := BA.keep kb9
    replace BB := BB.keep kb9
    replace BZq := BZq.keep kb9
    replace BZr := BZr.keep kb9
    replace Bx1 := Bx1.keep kb9
    replace By1 := By1.keep kb9
    replace Bqq := Bqq.keep kb9
    replace UA := UA.below kb9 (Nat.le_refl _)
    replace UB := UB.below kb9 (Nat.le_refl _)
    replace Ux1 := Ux1.below kb9 (Nat.le_refl _)
    replace Uy1 := Uy1.below kb9 (Nat.le_refl _)
    replace Uq := Uq.below kb9 (Nat.le_refl _)
    replace Hw := Hw.trans (kb9.mono Hw.size)
    have Upr := k1
    clear k1
    clear kb9
    refine hK.out _ _ (fun _ => ⟨⟨(Bqq).c0, (Bqq).c1⟩, ⟨(Bx1).c0, (Bx1).c1⟩, ⟨(By1).c0, (By1).c1⟩⟩) ?_
    clear hK K
    try simp only [Act.put, List.setIfInBounds_toArray, List.set_cons_zero, List.set_cons_succ]
    refine anyT_one (i := 5) (by kernel_rfl) rfl (fun K hK => ?_)
    go_simp
    have hz9 := BZr.lt
    refine (rsub_any _ _ _ _ _ _ _ _ _ _ _ (by omega) (by omega) Ux1 Upr).mono ?_
    rintro e w10 ⟨sgrr, arr, nrr, crr, frr, rfl, k1, k2, kb10, k4, k5, k6, Lrr⟩
    have Vrr : Hid (ival sgrr (val frr nrr) = A - Z * B) := hid (by rw [k6, Vx1.out, Vpr.out])
    have Mrr := k4
    have Srr := hid k5
    have Nwrr := k2; clear k6 k5 k4 k2
    replace Nwq := New.below Nwq Uq kb10 (Nat.le_refl _)
    replace BA := BA.keep kb10
    replace BB := BB.keep kb10
    replace BZq := BZq.keep kb10
    replace BZr := BZr.keep kb10
    replace Bx1 := Bx1.keep kb10
    replace By1 := By1.keep kb10
    replace Bqq := Bqq.keep kb10
    replace UA := UA.below kb10 (Nat.le_refl _)
    replace UB := UB.below kb10 (Nat.le_refl _)
    replace Ux1 := Ux1.below kb10 (Nat.le_refl _)
    replace Uy1 := Uy1.below kb10 (Nat.le_refl _)
    replace Uq := Uq.below kb10 (Nat.le_refl _)
    replace Upr := Upr.below kb10 (Nat.le_refl _)
    replace Hw := Hw.trans (kb10.mono Hw.size)
    have Urr := k1
    clear k1
    clear kb10
    refine hK.out _ _ (fun _ => ⟨⟨(Bqq).c0, (Bqq).c1⟩, ⟨(Bx1).c0, (Bx1).c1⟩, ⟨(By1).c0, (By1).c1⟩⟩) ?_
    clear hK K
    try simp only [Act.put, List.setIfInBounds_toArray, List.set_cons_zero, List.set_cons_succ]
    have fZq := BZq.fr
    have fZr := BZr.fr
    have zq0 := BZq.c0
    have zq1 := BZq.c1
    have zr0 := BZr.c0
    have zr1 := BZr.c1
    have hz1 := BZq.lt
    have hz2 := BZr.lt
    refine anyT_one (i := 6) (by kernel_rfl) rfl (fun K hK => ?_)
    go_simp
    refine hK.out _ _ (fun _ => ⟨⟨((Bqq.other (by first | (simp; done) | (simp; omega)) _).other (by first | (simp; done) | (simp; omega)) _).c0, ((Bqq.other (by first | (simp; done) | (simp; omega)) _).other (by first | (simp; done) | (simp; omega)) _).c1⟩, ⟨((Bx1.other (by first | (simp; done) | (simp; omega)) _).other (by first | (simp; done) | (simp; omega)) _).c0, ((Bx1.other (by first | (simp; done) | (simp; omega)) _).other (by first | (simp; done) | (simp; omega)) _).c1⟩, ⟨((By1.other (by first | (simp; done) | (simp; omega)) _).other (by first | (simp; done) | (simp; omega)) _).c0, ((By1.other (by first | (simp; done) | (simp; omega)) _).other (by first | (simp; done) | (simp; omega)) _).c1⟩⟩) ?_
    clear hK K
    try simp only [Act.put, List.setIfInBounds_toArray, List.set_cons_zero, List.set_cons_succ]
    refine anyT_one (i := 7) (by kernel_rfl) rfl (fun K hK => ?_)
    go_simp
    refine hK.out _ _ (fun _ => ⟨⟨((((Bqq.other (by first | (simp; done) | (simp; omega)) _).other (by first | (simp; done) | (simp; omega)) _).other (by first | (simp; done) | (simp; omega)) _).other (by first | (simp; done) | (simp; omega)) _).c0, ((((Bqq.other (by first | (simp; done) | (simp; omega)) _).other (by first | (simp; done) | (simp; omega)) _).other (by first | (simp; done) | (simp; omega)) _).other (by first | (simp; done) | (simp; omega)) _).c1⟩, ⟨((((Bx1.other (by first | (simp; done) | (simp; omega)) _).other (by first | (simp; done) | (simp; omega)) _).other (by first | (simp; done) | (simp; omega)) _).other (by first | (simp; done) | (simp; omega)) _).c0, ((((Bx1.other (by first | (simp; done) | (simp; omega)) _).other (by first | (simp; done) | (simp; omega)) _).other (by first | (simp; done) | (simp; omega)) _).other (by first | (simp; done) | (simp; omega)) _).c1⟩, ⟨((((By1.other (by first | (simp; done) | (simp; omega)) _).other (by first | (simp; done) | (simp; omega)) _).other (by first | (simp; done) | (simp; omega)) _).other (by first | (simp; done) | (simp; omega)) _).c0, ((((By1.other (by first | (simp; done) | (simp; omega)) _).other (by first | (simp; done) | (simp; omega)) _).other (by first | (simp; done) | (simp; omega)) _).other (by first | (simp; done) | (simp; omega)) _).c1⟩⟩) ?_
    clear hK K
    try simp only [Act.put, List.setIfInBounds_toArray, List.set_cons_zero, List.set_cons_succ]
    refine anyT_one (i := 8) (by kernel_rfl) rfl (fun K hK => ?_)
    go_simp
    refine hK.out _ _ (fun _ => ⟨⟨((((Bqq.other (by first | (simp; done) | (simp; omega)) _).other (by first | (simp; done) | (simp; omega)) _).other (by first | (simp; done) | (simp; omega)) _).other (by first | (simp; done) | (simp; omega)) _).c0, ((((Bqq.other (by first | (simp; done) | (simp; omega)) _).other (by first | (simp; done) | (simp; omega)) _).other (by first | (simp; done) | (simp; omega)) _).other (by first | (simp; done) | (simp; omega)) _).c1⟩, ⟨((((Bx1.other (by first | (simp; done) | (simp; omega)) _).other (by first | (simp; done) | (simp; omega)) _).other (by first | (simp; done) | (simp; omega)) _).other (by first | (simp; done) | (simp; omega)) _).c0, ((((Bx1.other (by first | (simp; done) | (simp; omega)) _).other (by first | (simp; done) | (simp; omega)) _).other (by first | (simp; done) | (simp; omega)) _).other (by first | (simp; done) | (simp; omega)) _).c1⟩, ⟨((((By1.other (by first | (simp; done) | (simp; omega)) _).other (by first | (simp; done) | (simp; omega)) _).other (by first | (simp; done) | (simp; omega)) _).other (by first | (simp; done) | (simp; omega)) _).c0, ((((By1.other (by first | (simp; done) | (simp; omega)) _).other (by first | (simp; done) | (simp; omega)) _).other (by first | (simp; done) | (simp; omega)) _).other (by first | (simp; done) | (simp; omega)) _).c1⟩⟩) ?_
    clear hK K
    try simp only [Act.put, List.setIfInBounds_toArray, List.set_cons_zero, List.set_cons_succ]
    refine anyT_done (by kernel_rfl) ?_ _
    clear fZq fZr zq0 zq1 zr0 zr1 hz1 hz2
    have hz1 := BZq.lt
    have hz2 := BZr.lt
    have F2 := ((BZq.set (.bool sgq) (.slice aq nq cq)).other (p := ⟨w.heap.size + 1 + 1 + 1, 0, none⟩) (by first | (simp; done) | (simp; omega)) (.bool sgrr)).other (p := ⟨w.heap.size + 1 + 1 + 1, 1, none⟩) (by first | (simp; done) | (simp; omega)) (.slice arr nrr crr)
    have F3 := (((BZr.other (p := ⟨w.heap.size + 1 + 1, 0, none⟩) (by first | (simp; done) | (simp; omega)) (.bool sgq)).other (p := ⟨w.heap.size + 1 + 1, 1, none⟩) (by first | (simp; done) | (simp; omega)) (.slice aq nq cq)).set (.bool sgrr) (.slice arr nrr crr))
    have f20 := F2.c0
    have f21 := F2.c1
    have f30 := F3.c0
    have f31 := F3.c1
    go_wp2_with fail
    refine bodyPost_ret (v := .tuple #[.agg #[.bool sgq, .slice aq nq cq], .agg #[.bool sgrr, .slice arr nrr crr], .int .i64 0]) (by first | (simp [results, Tryd.results12, go_sem, f20, f21, f30, f31]; done) | (simp [results, Tryd.results12, go_sem, f20, f21, f30, f31]; rfl)) rfl ?_
    refine ⟨sgq, aq, nq, cq, fq, sgrr, arr, nrr, crr, frr, rfl, us_put4 Uq Nwq (by omega) (by omega) _ _ _ _, us_put4 Urr Nwrr (by omega) (by omega) _ _ _ _, Below.put4 Hw (by omega) (by omega) _ _ _ _, hid ?_, by omega, by omega⟩
    rw [Vq.out, Vrr.out, VA.out, VB.out, ← HZ.out]
    exact hFD.out _ HZ0
end Go.Proofs.YticfggljaagcmaaDoor
