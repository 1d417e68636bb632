/-
  BigQuotient, walked.
-/
import Derived.Test.YticfggljaagcmaaDoorAwake
import Derived.Test.YticfggljaagcmaaDoorDivBoth
import Derived.Test.YticfggljaagcmaaDoorDraw
namespace Go.Proofs.YticfggljaagcmaaDoor
set_option linter.all false
open Go.RowKit

theorem sgn_ne {z : Int} (h : ¬ z = 0) : ¬ sgn z = 0 := by
  rcases Int.lt_trichotomy z 0 with h' | h' | h'
  · rw [sgn_neg h']; omega
  · exact absurd h' h
  · rw [sgn_pos h']; omega
theorem fd_side {A B Z R : Int} (hB : B ≠ 0) (h : FD A B Z R) : sgn R = 0 ∨ sgn R = sgn B := by
  obtain ⟨_, h1, h2⟩ := h
  rcases Int.lt_trichotomy R 0 with h' | h' | h'
  · right
    have : B < 0 := by
      rcases Int.lt_trichotomy B 0 with c | c | c
      · exact c
      · exact absurd c hB
      · have := h1 c; omega
    rw [sgn_neg h', sgn_neg this]
  · left; rw [h']; rfl
  · right
    have : 0 < B := by
      rcases Int.lt_trichotomy B 0 with c | c | c
      · have := h2 c; omega
      · exact absurd c hB
      · exact c
    rw [sgn_pos h', sgn_pos this]

theorem ival_cases (s : Bool) (v : Nat) : ival s v = v ∨ ival s v = -(v : Int) := by cases s <;> simp [ival]
theorem fd_near {A B Z R : Int} {sr sb : Bool} {vr vb : Nat} (hB : B ≠ 0) (h : FD A B Z R) (hr : ival sr vr = R) (hb : ival sb vb = B) : cmpI (vr : Int) (vb : Int) = -1 := by
  obtain ⟨_, h1, h2⟩ := h
  apply cmpI_lt
  have h3 := ival_cases sr vr
  have h4 := ival_cases sb vb
  rw [hr] at h3
  rw [hb] at h4
  rcases Int.lt_trichotomy B 0 with c | c | c
  · have := h2 c; omega
  · exact absurd c hB
  · have := h1 c; omega
/-- Once more the divisor: the quotient is one more, the rest the same. -/
theorem dd_more {A B Z R X Y er : Int} (hB : B ≠ 0) (h : FD A B Z R) (h' : DD (A + B) B X Y er) : X = Z + 1 ∧ Y = R ∧ er = 0 := by
  rcases h' with ⟨c, _⟩ | ⟨_, hf, he⟩
  · exact absurd c hB
  · have h2 : FD (A + B) B (Z + 1) R := ⟨by rw [Int.add_mul, Int.one_mul, h.1]; omega, h.2⟩
    have := fd_one hf h2 hB
    exact ⟨this.1, this.2, he⟩

set_option maxHeartbeats 16000000 in
set_option maxRecDepth 100000 in
theorem bigQuotient_walk (sgA : Bool) (aA : Option Addr) (nA cA : Nat) (fA : Nat → Nat) (sgB : Bool) (aB : Option Addr) (nB cB : Nat) (fB : Nat → Nat) (w : World) (hA : nA ≤ 1048576) (UA : Us w aA nA cA fA) (hB : nB ≤ 1048576) (UB : Us w aB nB cB fB) :
    Calls Tryd.prog 8 #[.agg #[.bool sgA, .slice aA nA cA], .agg #[.bool sgB, .slice aB nB cB]] w fun e w' => e = .returned (.bool true) ∧ Below w.heap.size w w' := by
  have Hw := Below.refl w.heap.size w
  obtain ⟨A, VA⟩ : ∃ A : Int, Hid (ival sgA (val fA nA) = A) := ⟨_, hid rfl⟩
  obtain ⟨B, VB⟩ : ∃ B : Int, Hid (ival sgB (val fB nB) = B) := ⟨_, hid rfl⟩
  have BA : Bx (w.alloc (.cells #[.bool sgA, .slice aA nA cA] 24)) (w.heap.size) (.bool sgA) (.slice aA nA cA) := by exact Bx.made w (.bool sgA) (.slice aA nA cA) 24
  replace BA := BA.alloc (.cells #[.bool sgB, .slice aB nB cB] 24)
  have BB : Bx ((w.alloc (.cells #[.bool sgA, .slice aA nA cA] 24)).alloc (.cells #[.bool sgB, .slice aB nB cB] 24)) (w.heap.size + 1) (.bool sgB) (.slice aB nB cB) := by simpa using Bx.made (w.alloc (.cells #[.bool sgA, .slice aA nA cA] 24)) (.bool sgB) (.slice aB nB cB) 24
  replace UA := UA.alloc (.cells #[.bool sgA, .slice aA nA cA] 24)
  replace UA := UA.alloc (.cells #[.bool sgB, .slice aB nB cB] 24)
  replace UB := UB.alloc (.cells #[.bool sgA, .slice aA nA cA] 24)
  replace UB := UB.alloc (.cells #[.bool sgB, .slice aB nB cB] 24)
  replace Hw := Hw.alloc (Nat.le_refl _) (.cells #[.bool sgA, .slice aA nA cA] 24)
  replace Hw := Hw.alloc (by simp) (.cells #[.bool sgB, .slice aB nB cB] 24)
  go_enter Tryd.func8, Tryd.ntmps8
  go_wp2_with fail
  generalize ((w.alloc (.cells #[.bool sgA, .slice aA nA cA] 24)).alloc (.cells #[.bool sgB, .slice aB nB cB] 24)) = w1 at BA BB UA UB Hw ⊢
  refine (awake_any _).mono ?_
  rintro e w2 ⟨rfl, kb2⟩
  replace BA := BA.keep kb2
  replace BB := BB.keep kb2
  replace UA := UA.below kb2 (Nat.le_refl _)
  replace UB := UB.below kb2 (Nat.le_refl _)
  replace Hw := Hw.trans (kb2.mono Hw.size)
  clear kb2
  have rA0 := BA.c0
  have rA1 := BA.c1
  have rB0 := BB.c0
  have rB1 := BB.c1
  go_wp2_with fail
  clear rA0 rA1 rB0 rB1
  refine (divMod_both _ _ _ _ _ _ _ _ _ _ _ (by omega) (by omega) UA UB).mono ?_
  rintro e w3 ⟨sgq, aq, nq, cq, fq, sgr, ar, nr, cr, fr, er, rfl, k1, k2, kb3, HD, Lq, Lr, Mq, Sq, Mr, Sr, HN⟩
  clear HN Sq Sr
  obtain ⟨Z, Vq⟩ : ∃ z : Int, Hid (ival sgq (val fq nq) = z) := ⟨_, hid rfl⟩
  obtain ⟨R, Vr⟩ : ∃ z : Int, Hid (ival sgr (val fr nr) = z) := ⟨_, hid rfl⟩
  rw [VA.out, VB.out, Vq.out, Vr.out] at HD
  replace BA := BA.keep kb3
  replace BB := BB.keep kb3
  replace UA := UA.below kb3 (Nat.le_refl _)
  replace UB := UB.below kb3 (Nat.le_refl _)
  replace Hw := Hw.trans (kb3.mono Hw.size)
  have Uq := k1
  have Ur := k2
  clear k1 k2 kb3
  have Nq := Bx.made w3 (.bool sgq) (.slice aq nq cq) 24
  replace BA := BA.alloc (.cells #[.bool sgq, .slice aq nq cq] 24)
  replace BB := BB.alloc (.cells #[.bool sgq, .slice aq nq cq] 24)
  replace UA := UA.alloc (.cells #[.bool sgq, .slice aq nq cq] 24)
  replace UB := UB.alloc (.cells #[.bool sgq, .slice aq nq cq] 24)
  replace Uq := Uq.alloc (.cells #[.bool sgq, .slice aq nq cq] 24)
  replace Ur := Ur.alloc (.cells #[.bool sgq, .slice aq nq cq] 24)
  replace Hw := Hw.alloc Hw.size (.cells #[.bool sgq, .slice aq nq cq] 24)
  have Bq := Nq
  clear Nq
  have Nr : Bx ((w3.alloc (.cells #[.bool sgq, .slice aq nq cq] 24)).alloc (.cells #[.bool sgr, .slice ar nr cr] 24)) (w3.heap.size + 1) (.bool sgr) (.slice ar nr cr) := by simpa using Bx.made (w3.alloc (.cells #[.bool sgq, .slice aq nq cq] 24)) (.bool sgr) (.slice ar nr cr) 24
  replace BA := BA.alloc (.cells #[.bool sgr, .slice ar nr cr] 24)
  replace BB := BB.alloc (.cells #[.bool sgr, .slice ar nr cr] 24)
  replace Bq := Bq.alloc (.cells #[.bool sgr, .slice ar nr cr] 24)
  replace UA := UA.alloc (.cells #[.bool sgr, .slice ar nr cr] 24)
  replace UB := UB.alloc (.cells #[.bool sgr, .slice ar nr cr] 24)
  replace Uq := Uq.alloc (.cells #[.bool sgr, .slice ar nr cr] 24)
  replace Ur := Ur.alloc (.cells #[.bool sgr, .slice ar nr cr] 24)
  replace Hw := Hw.alloc Hw.size (.cells #[.bool sgr, .slice ar nr cr] 24)
  have Br := Nr
  clear Nr
  have rA0 := BA.c0
  have rA1 := BA.c1
  have rB0 := BB.c0
  have rB1 := BB.c1
  have rq0 := Bq.c0
  have rq1 := Bq.c1
  have rr0 := Br.c0
  have rr1 := Br.c1
  go_wp2_with fail
  clear rA0 rA1 rB0 rB1 rq0 rq1 rr0 rr1
  generalize ((w3.alloc (.cells #[.bool sgq, .slice aq nq cq] 24)).alloc (.cells #[.bool sgr, .slice ar nr cr] 24)) = w4 at BA BB Bq Br UA UB Uq Ur Hw ⊢
  rcases HD.out with ⟨hB0, hZ0, hR0, rfl⟩ | ⟨hB0, hFD, rfl⟩
  · have nq0 : nq = 0 := (ival_zero_iff Mq).1 (Vq.out.trans hZ0)
    have nr0 : nr = 0 := (ival_zero_iff Mr).1 (Vr.out.trans hR0)
    subst nq0 nr0
    clear HD hZ0 hR0 Mq Mr
    refine (sign_any _ _ _ _ _ _ (by omega) UB).mono ?_
    rintro e w5 ⟨rfl, kb5⟩
    rw [VB.out, hB0, sgn_zero]
    replace BA := BA.keep kb5
    replace BB := BB.keep kb5
    replace Bq := Bq.keep kb5
    replace Br := Br.keep kb5
    replace UA := UA.below kb5 (Nat.le_refl _)
    replace UB := UB.below kb5 (Nat.le_refl _)
    replace Uq := Uq.below kb5 (Nat.le_refl _)
    replace Ur := Ur.below kb5 (Nat.le_refl _)
    replace Hw := Hw.trans (kb5.mono Hw.size)
    clear kb5
    clear hB0
    have rA0 := BA.c0
    have rA1 := BA.c1
    have rB0 := BB.c0
    have rB1 := BB.c1
    have rq0 := Bq.c0
    have rq1 := Bq.c1
    have rr0 := Br.c0
    have rr1 := Br.c1
    have lq := Uq.le
    have lr := Ur.le
    go_wp2_with fail
    go_ret
    exact ⟨rfl, Hw⟩
  · obtain ⟨sB, SB⟩ : ∃ s : Int, Hid (sgn B = s) := ⟨_, hid rfl⟩
    have HB := hid hB0
    have HF := hid hFD
    have hs0 : ¬ sB = 0 := by rw [← SB.out]; exact sgn_ne hB0
    have hs1 : (sB == 0) = false := by simp [hs0]
    have NR : Hid (cmpI ((val fr nr : Nat) : Int) ((val fB nB : Nat) : Int) = -1) := hid (fd_near hB0 hFD Vr.out VB.out)
    have SR : Hid (sgn R = 0 ∨ sgn R = sB) := hid (by rw [← SB.out]; exact fd_side hB0 hFD)
    obtain ⟨sR, SRv⟩ : ∃ s : Int, Hid (sgn R = s) := ⟨_, hid rfl⟩
    rw [SRv.out] at SR
    clear HD hB0 hFD Mq Mr
    refine (sign_any _ _ _ _ _ _ (by omega) UB).mono ?_
    rintro e w5 ⟨rfl, kb5⟩
    rw [VB.out, SB.out]
    replace BA := BA.keep kb5
    replace BB := BB.keep kb5
    replace Bq := Bq.keep kb5
    replace Br := Br.keep kb5
    replace UA := UA.below kb5 (Nat.le_refl _)
    replace UB := UB.below kb5 (Nat.le_refl _)
    replace Uq := Uq.below kb5 (Nat.le_refl _)
    replace Ur := Ur.below kb5 (Nat.le_refl _)
    replace Hw := Hw.trans (kb5.mono Hw.size)
    clear kb5
    have rA0 := BA.c0
    have rA1 := BA.c1
    have rB0 := BB.c0
    have rB1 := BB.c1
    have rq0 := Bq.c0
    have rq1 := Bq.c1
    have rr0 := Br.c0
    have rr1 := Br.c1
    go_wp2_with fail
    clear rA0 rA1 rB0 rB1 rq0 rq1 rr0 rr1
    replace BA := BA.drew
    replace BB := BB.drew
    replace Bq := Bq.drew
    replace Br := Br.drew
    replace UA := UA.drew
    replace UB := UB.drew
    replace Uq := Uq.drew
    replace Ur := Ur.drew
    replace Hw := Hw.drew
    have tk1 : True := trivial
    have tk2 : True := trivial
    have tk3 : True := trivial
    go_region_held3 (fun wx => (wx.cell? ⟨w.heap.size, 0, none⟩ = some (.bool sgA) ∧ wx.cell? ⟨w.heap.size, 1, none⟩ = some (.slice aA nA cA)) ∧ (wx.cell? ⟨w.heap.size + 1, 0, none⟩ = some (.bool sgB) ∧ wx.cell? ⟨w.heap.size + 1, 1, none⟩ = some (.slice aB nB cB)) ∧ (wx.cell? ⟨w3.heap.size, 0, none⟩ = some (.bool sgq) ∧ wx.cell? ⟨w3.heap.size, 1, none⟩ = some (.slice aq nq cq)) ∧ (wx.cell? ⟨w3.heap.size + 1, 0, none⟩ = some (.bool sgr) ∧ wx.cell? ⟨w3.heap.size + 1, 1, none⟩ = some (.slice ar nr cr))) (with_reducible exact ⟨⟨BA.c0, BA.c1⟩, ⟨BB.c0, BB.c1⟩, ⟨Bq.c0, Bq.c1⟩, ⟨Br.c0, Br.c1⟩⟩) (first | (have _t := tk1; go_at_call 26; refine (mul_any _ _ _ _ _ _ _ _ _ _ _ (by omega) (by omega) Uq UB).mono ?_; rintro e w6 ⟨sgqb, aqb, nqb, cqb, fqb, rfl, k1, k2, kb6, k4, k5, k6, Lqb⟩; have Vqb : Hid (ival sgqb (val fqb nqb) = Z * B) := hid (by rw [k6, Vq.out, VB.out]); have Mqb := k4; have Sqb := hid k5; clear k6 k5 k4 k2; replace BA := BA.keep kb6; replace BB := BB.keep kb6; replace Bq := Bq.keep kb6; replace Br := Br.keep kb6; replace UA := UA.below kb6 (Nat.le_refl _); replace UB := UB.below kb6 (Nat.le_refl _); replace Uq := Uq.below kb6 (Nat.le_refl _); replace Ur := Ur.below kb6 (Nat.le_refl _); replace Hw := Hw.trans (kb6.mono Hw.size); have Uqb := k1; clear k1; clear kb6; clear tk1) | (have _t := tk2; go_at_call 24; refine (add_any _ _ _ _ _ _ _ _ _ _ _ (by omega) (by omega) Uqb Ur).mono ?_; rintro e w7 ⟨sgqr, aqr, nqr, cqr, fqr, rfl, k1, k2, kb7, k4, k5, k6, Lqr⟩; have Vqr : Hid (ival sgqr (val fqr nqr) = Z * B + R) := hid (by rw [k6, Vqb.out, Vr.out]); have Mqr := k4; have Sqr := hid k5; clear k6 k5 k4 k2; replace BA := BA.keep kb7; replace BB := BB.keep kb7; replace Bq := Bq.keep kb7; replace Br := Br.keep kb7; replace UA := UA.below kb7 (Nat.le_refl _); replace UB := UB.below kb7 (Nat.le_refl _); replace Uq := Uq.below kb7 (Nat.le_refl _); replace Ur := Ur.below kb7 (Nat.le_refl _); replace Uqb := Uqb.below kb7 (Nat.le_refl _); replace Hw := Hw.trans (kb7.mono Hw.size); have Uqr := k1; clear k1; clear kb7; clear tk2) | (have _t := tk3; go_at_call 32; refine (cmp_any _ _ _ _ _ _ _ _ _ _ _ (by omega) (by omega) Uqr UA).mono ?_; rintro e w8 ⟨rfl, kb8⟩; rw [Vqr.out, VA.out, cmpI_eq HF.out.1.symm]; replace BA := BA.keep kb8; replace BB := BB.keep kb8; replace Bq := Bq.keep kb8; replace Br := Br.keep kb8; replace UA := UA.below kb8 (Nat.le_refl _); replace UB := UB.below kb8 (Nat.le_refl _); replace Uq := Uq.below kb8 (Nat.le_refl _); replace Ur := Ur.below kb8 (Nat.le_refl _); replace Uqb := Uqb.below kb8 (Nat.le_refl _); replace Uqr := Uqr.below kb8 (Nat.le_refl _); replace Hw := Hw.trans (kb8.mono Hw.size); clear kb8; clear tk3))
    clear Uqb
    clear Uqr
    have rA0 := BA.c0
    have rA1 := BA.c1
    have rB0 := BB.c0
    have rB1 := BB.c1
    have rq0 := Bq.c0
    have rq1 := Bq.c1
    have rr0 := Br.c0
    have rr1 := Br.c1
    go_wp2_with fail
    clear rA0 rA1 rB0 rB1 rq0 rq1 rr0 rr1
    refine (sign_any _ _ _ _ _ _ (by omega) Ur).mono ?_
    rintro e w9 ⟨rfl, kb9⟩
    rw [Vr.out, SRv.out]
    replace BA := BA.keep kb9
    replace BB := BB.keep kb9
    replace Bq := Bq.keep kb9
    replace Br := Br.keep kb9
    replace UA := UA.below kb9 (Nat.le_refl _)
    replace UB := UB.below kb9 (Nat.le_refl _)
    replace Uq := Uq.below kb9 (Nat.le_refl _)
    replace Ur := Ur.below kb9 (Nat.le_refl _)
    replace Hw := Hw.trans (kb9.mono Hw.size)
    clear kb9
    have rA0 := BA.c0
    have rA1 := BA.c1
    have rB0 := BB.c0
    have rB1 := BB.c1
    have rq0 := Bq.c0
    have rq1 := Bq.c1
    have rr0 := Br.c0
    have rr1 := Br.c1
    go_wp2_with fail
    clear rA0 rA1 rB0 rB1 rq0 rq1 rr0 rr1
    replace BA := BA.drew
    replace BB := BB.drew
    replace Bq := Bq.drew
    replace Br := Br.drew
    replace UA := UA.drew
    replace UB := UB.drew
    replace Uq := Uq.drew
    replace Ur := Ur.drew
    replace Hw := Hw.drew
    have tk4 : True := trivial
    have tk5 : True := trivial
    have tk6 : True := trivial
    go_region_held3 (fun wx => (wx.cell? ⟨w.heap.size + 1, 0, none⟩ = some (.bool sgB) ∧ wx.cell? ⟨w.heap.size + 1, 1, none⟩ = some (.slice aB nB cB)) ∧ (wx.cell? ⟨w3.heap.size + 1, 0, none⟩ = some (.bool sgr) ∧ wx.cell? ⟨w3.heap.size + 1, 1, none⟩ = some (.slice ar nr cr))) (with_reducible exact ⟨⟨BB.c0, BB.c1⟩, ⟨Br.c0, Br.c1⟩⟩) (first | (have _t := tk4; go_at_call 23; refine (abs_any _ _ _ _ _ _ (by omega) Ur).mono ?_; rintro e w10 ⟨sgra, ara, nra, cra, fra, rfl, k1, k2, kb10, k4, k5, k6, Lra⟩; have Vra : Hid (ival sgra (val fra nra) = ((val fr nr : Nat) : Int)) := hid (by rw [k6]); have Mra := k4; have Sra := hid k5; clear k6 k5 k4 k2; replace BA := BA.keep kb10; replace BB := BB.keep kb10; replace Bq := Bq.keep kb10; replace Br := Br.keep kb10; replace UA := UA.below kb10 (Nat.le_refl _); replace UB := UB.below kb10 (Nat.le_refl _); replace Uq := Uq.below kb10 (Nat.le_refl _); replace Ur := Ur.below kb10 (Nat.le_refl _); replace Hw := Hw.trans (kb10.mono Hw.size); have Ura := k1; clear k1; clear kb10; clear tk4) | (have _t := tk5; go_at_call 23; refine (abs_any _ _ _ _ _ _ (by omega) UB).mono ?_; rintro e w11 ⟨sgba, aba, nba, cba, fba, rfl, k1, k2, kb11, k4, k5, k6, Lba⟩; have Vba : Hid (ival sgba (val fba nba) = ((val fB nB : Nat) : Int)) := hid (by rw [k6]); have Mba := k4; have Sba := hid k5; clear k6 k5 k4 k2; replace BA := BA.keep kb11; replace BB := BB.keep kb11; replace Bq := Bq.keep kb11; replace Br := Br.keep kb11; replace UA := UA.below kb11 (Nat.le_refl _); replace UB := UB.below kb11 (Nat.le_refl _); replace Uq := Uq.below kb11 (Nat.le_refl _); replace Ur := Ur.below kb11 (Nat.le_refl _); replace Ura := Ura.below kb11 (Nat.le_refl _); replace Hw := Hw.trans (kb11.mono Hw.size); have Uba := k1; clear k1; clear kb11; clear tk5) | (have _t := tk6; go_at_call 32; refine (cmp_any _ _ _ _ _ _ _ _ _ _ _ (by omega) (by omega) Ura Uba).mono ?_; rintro e w12 ⟨rfl, kb12⟩; rw [Vra.out, Vba.out, NR.out]; replace BA := BA.keep kb12; replace BB := BB.keep kb12; replace Bq := Bq.keep kb12; replace Br := Br.keep kb12; replace UA := UA.below kb12 (Nat.le_refl _); replace UB := UB.below kb12 (Nat.le_refl _); replace Uq := Uq.below kb12 (Nat.le_refl _); replace Ur := Ur.below kb12 (Nat.le_refl _); replace Ura := Ura.below kb12 (Nat.le_refl _); replace Uba := Uba.below kb12 (Nat.le_refl _); replace Hw := Hw.trans (kb12.mono Hw.size); clear kb12; clear tk6))
    clear Ura
    clear Uba
    have rA0 := BA.c0
    have rA1 := BA.c1
    have rB0 := BB.c0
    have rB1 := BB.c1
    have rq0 := Bq.c0
    have rq1 := Bq.c1
    have rr0 := Br.c0
    have rr1 := Br.c1
    go_wp2_with fail
    clear rA0 rA1 rB0 rB1 rq0 rq1 rr0 rr1
    obtain ⟨D, hD⟩ : ∃ D : World, D = w12.drew := ⟨_, rfl⟩
    replace BA := BA.drew
    replace BB := BB.drew
    replace Bq := Bq.drew
    replace Br := Br.drew
    replace UA := UA.drew
    replace UB := UB.drew
    replace Uq := Uq.drew
    replace Ur := Ur.drew
    replace Hw := Hw.drew
    rw [← hD] at BA BB Bq Br UA UB Uq Ur Hw
    go_cut [13, 14, 15] from 13 to 69 (fun v13 v14 v15 wx => ∃ k13 k14 sgx ax nx cx fx sgy ay ny cy fy, v13 = .pointer (some ⟨k13, 0, none⟩) ∧ v14 = .pointer (some ⟨k14, 0, none⟩) ∧ v15 = .int .i64 0 ∧ Bx wx k13 (.bool sgx) (.slice ax nx cx) ∧ Bx wx k14 (.bool sgy) (.slice ay ny cy) ∧ Us wx ax nx cx fx ∧ Us wx ay ny cy fy ∧ Hid (ival sgx (val fx nx) = Z + 1) ∧ Hid (ival sgy (val fy ny) = R) ∧ nx ≤ 16777216 ∧ ny ≤ 16777216 ∧ Below D.heap.size D wx)
    case first =>
     refine region_T (S := fun wx => Below D.heap.size D wx) (T := fun _ => false) (by kernel_rfl) ?_
     rw [← hD]
     clear hD
     have hb : Below D.heap.size D D := Below.refl _ _
     refine anyT_take (i := 0) (v := ?_) rfl (by kernel_rfl) (by kernel_rfl) (by kernel_rfl) (by kernel_rfl) (by kernel_rfl) (fun _ _ _ h => h) (Or.inl ⟨by rfl, ?_⟩) hb ?_
     rotate_left 1
     · intro wz hz; have ra0 := (BA.keep hz).c0; have ra1 := (BA.keep hz).c1; go_simp; try with_reducible rfl
     try simp only [Act.put, List.setIfInBounds_toArray, List.set_cons_zero, List.set_cons_succ]
     refine anyT_take (i := 1) (v := ?_) rfl (by kernel_rfl) (by kernel_rfl) (by kernel_rfl) (by kernel_rfl) (by kernel_rfl) (fun _ _ _ h => h) (Or.inl ⟨by rfl, ?_⟩) hb ?_
     rotate_left 1
     · intro wz hz; have ra0 := (BB.keep hz).c0; have ra1 := (BB.keep hz).c1; go_simp; try with_reducible rfl
     try simp only [Act.put, List.setIfInBounds_toArray, List.set_cons_zero, List.set_cons_succ]
     refine anyT_take (i := 3) (v := ?_) rfl (by kernel_rfl) (by kernel_rfl) (by kernel_rfl) (by kernel_rfl) (by kernel_rfl) (fun _ _ _ h => h) (Or.inl ⟨by rfl, ?_⟩) hb ?_
     rotate_left 1
     · intro wz hz; have ra0 := (BB.keep hz).c0; have ra1 := (BB.keep hz).c1; go_simp; try with_reducible rfl
     try simp only [Act.put, List.setIfInBounds_toArray, List.set_cons_zero, List.set_cons_succ]
     refine anyT_three (i := 2) (j := 9) (k := 10) (by kernel_rfl) rfl rfl rfl (fun K hK => ?_) (fun K hK => ?_) (fun K hK => ?_)
     · go_simp
       refine (add_any _ _ _ _ _ _ _ _ _ _ _ (by omega) (by omega) (UA.below hb (Nat.le_refl _)) (UB.below hb (Nat.le_refl _))).mono ?_
       rintro e v1 ⟨sgs1, as1, ns1, cs1, fs1, rfl, k1, _, kb, _, _, k6, Ls1⟩
       have Vs1 : Hid (ival sgs1 (val fs1 ns1) = A + B) := hid (by rw [k6, VA.out, VB.out])
       clear k6
       replace hb := hb.trans (kb.mono hb.size)
       have Us1 := k1
       clear k1 kb
       refine hK.out _ _ (fun _ => hb) ?_
       clear hK K
       try simp only [Act.put, List.setIfInBounds_toArray, List.set_cons_zero, List.set_cons_succ]
       refine anyT_three (i := 4) (j := 9) (k := 10) (by kernel_rfl) rfl rfl rfl (fun K hK => ?_) (fun K hK => ?_) (fun K hK => ?_)
       · go_simp
         refine (divMod_both _ _ _ _ _ _ _ _ _ _ _ (by omega) (by omega) Us1 (UB.below hb (Nat.le_refl _))).mono ?_
         rintro e v2 ⟨sgp, ap, np, cp, fp, sgo, ao, no, co, fo, er2, rfl, k1, k2, kb, HD2, Lp, Lo, _, _, _, _, HN2⟩
         rw [Vs1.out, VB.out] at HD2
         obtain ⟨e1, e2, e3⟩ := dd_more HB.out HF.out HD2.out
         subst e3
         have Vp := hid e1
         have Vo := hid e2
         clear e1 e2 HD2
         replace hb := hb.trans (kb.mono hb.size)
         have Up := k1
         have Uo := k2
         clear k1 k2 kb HN2 Us1 Vs1
         refine hK.out _ _ (fun _ => hb) ?_
         clear hK K
         try simp only [Act.put, List.setIfInBounds_toArray, List.set_cons_zero, List.set_cons_succ]
         refine anyT_take (i := 5) (v := ?_) rfl (by kernel_rfl) (by kernel_rfl) (by kernel_rfl) (by kernel_rfl) (by kernel_rfl) (fun _ _ _ h => h) (Or.inl ⟨by rfl, ?_⟩) hb ?_
         rotate_left 1
         · intro wz hz; go_simp; try with_reducible rfl
         try simp only [Act.put, List.setIfInBounds_toArray, List.set_cons_zero, List.set_cons_succ]
         refine anyT_take (i := 6) (v := ?_) rfl (by kernel_rfl) (by kernel_rfl) (by kernel_rfl) (by kernel_rfl) (by kernel_rfl) (fun _ _ _ h => h) (Or.inl ⟨by rfl, ?_⟩) hb ?_
         rotate_left 1
         · intro wz hz; go_simp; try with_reducible rfl
         try simp only [Act.put, List.setIfInBounds_toArray, List.set_cons_zero, List.set_cons_succ]
         refine anyT_take (i := 7) (v := ?_) rfl (by kernel_rfl) (by kernel_rfl) (by kernel_rfl) (by kernel_rfl) (by kernel_rfl) (fun _ _ _ h => h) (Or.inl ⟨by rfl, ?_⟩) hb ?_
         rotate_left 1
         · intro wz hz; go_simp; try with_reducible rfl
         try simp only [Act.put, List.setIfInBounds_toArray, List.set_cons_zero, List.set_cons_succ]
         refine anyT_take (i := 8) (v := ?_) rfl (by kernel_rfl) (by kernel_rfl) (by kernel_rfl) (by kernel_rfl) (by kernel_rfl) (fun _ _ _ h => h) (Or.inl ⟨by rfl, ?_⟩) hb ?_
         rotate_left 1
         · intro wz hz; go_simp; try with_reducible rfl
         try simp only [Act.put, List.setIfInBounds_toArray, List.set_cons_zero, List.set_cons_succ]
         refine anyT_two (i := 9) (j := 10) (by kernel_rfl) rfl rfl (fun K hK => ?_) (fun K hK => ?_)
         · go_simp
           have hk13 := hb.size
           have Op13 := Off.us Up (Nat.le_refl v2.heap.size)
           have Oo13 := Off.us Uo (Nat.le_refl v2.heap.size)
           replace Up := Up.alloc (.cells #[.bool false, .slice none 0 0] 24)
           replace Uo := Uo.alloc (.cells #[.bool false, .slice none 0 0] 24)
           replace hb := hb.alloc hb.size (.cells #[.bool false, .slice none 0 0] 24)
           have Bk13 := Bx.made v2 (.bool false) (.slice none 0 0) 24
           generalize v2.alloc (.cells #[.bool false, .slice none 0 0] 24) = v3 at hb Bk13 Up Uo ⊢
           refine hK.out _ _ (fun _ => hb) ?_
           clear hK K
           try simp only [Act.put, List.setIfInBounds_toArray, List.set_cons_zero, List.set_cons_succ]
           refine anyT_one (i := 10) (by kernel_rfl) rfl (fun K hK => ?_)
           go_simp
           have hk14 := hb.size
           have hne : v2.heap.size ≠ v3.heap.size := Nat.ne_of_lt Bk13.lt
           have Op14 := Off.us Up (Nat.le_refl v3.heap.size)
           have Oo14 := Off.us Uo (Nat.le_refl v3.heap.size)
           replace Up := Up.alloc (.cells #[.bool false, .slice none 0 0] 24)
           replace Uo := Uo.alloc (.cells #[.bool false, .slice none 0 0] 24)
           replace hb := hb.alloc hb.size (.cells #[.bool false, .slice none 0 0] 24)
           have Bk14 := Bx.made v3 (.bool false) (.slice none 0 0) 24
           replace Bk13 := Bk13.alloc (.cells #[.bool false, .slice none 0 0] 24)
           generalize v3.alloc (.cells #[.bool false, .slice none 0 0] 24) = v4 at hb Bk14 Up Uo Bk13 ⊢
           refine hK.out _ _ (fun _ => hb) ?_
           clear hK K
           try simp only [Act.put, List.setIfInBounds_toArray, List.set_cons_zero, List.set_cons_succ]
           refine anyT_one (i := 11) (by kernel_rfl) rfl (fun K hK => ?_)
           have r0 := Bk13.c0
           have r1 := Bk13.c1
           have fr := Bk13.fr
           go_simp
           replace Bk13 := Bk13.set (.bool sgp) (.slice ap np cp)
           replace Bk14 := bx_off Bk14 hne (.bool sgp) (.slice ap np cp)
           replace Up := us_off Up Op13 (.bool sgp) (.slice ap np cp)
           replace Uo := us_off Uo Oo13 (.bool sgp) (.slice ap np cp)
           replace hb := below_put2 hb hk13 (.bool sgp) (.slice ap np cp)
           generalize (v4.setCell ⟨v2.heap.size, 0, none⟩ (.bool sgp)).setCell ⟨v2.heap.size, 1, none⟩ (.slice ap np cp) = v5 at hb Bk13 Bk14 Up Uo ⊢
           clear r0 r1 fr
           refine hK.out _ _ (fun _ => hb) ?_
           clear hK K
           try simp only [Act.put, List.setIfInBounds_toArray, List.set_cons_zero, List.set_cons_succ]
           refine anyT_one (i := 12) (by kernel_rfl) rfl (fun K hK => ?_)
           have r0 := Bk14.c0
           have r1 := Bk14.c1
           have fr := Bk14.fr
           go_simp
           replace Bk14 := Bk14.set (.bool sgo) (.slice ao no co)
           replace Bk13 := bx_off Bk13 (Ne.symm hne) (.bool sgo) (.slice ao no co)
           replace Up := us_off Up Op14 (.bool sgo) (.slice ao no co)
           replace Uo := us_off Uo Oo14 (.bool sgo) (.slice ao no co)
           replace hb := below_put2 hb hk14 (.bool sgo) (.slice ao no co)
           generalize (v5.setCell ⟨v3.heap.size, 0, none⟩ (.bool sgo)).setCell ⟨v3.heap.size, 1, none⟩ (.slice ao no co) = v6 at hb Bk13 Bk14 Up Uo ⊢
           clear r0 r1 fr
           refine hK.out _ _ (fun _ => hb) ?_
           clear hK K
           try simp only [Act.put, List.setIfInBounds_toArray, List.set_cons_zero, List.set_cons_succ]
           refine anyT_one (i := 13) (by kernel_rfl) rfl (fun K hK => ?_)
           go_simp
           refine hK.out _ _ (fun _ => hb) ?_
           clear hK K
           try simp only [Act.put, List.setIfInBounds_toArray, List.set_cons_zero, List.set_cons_succ]
           refine anyT_done (by kernel_rfl) ?_ _
           go_wp2_with fail
           go_meet
           exact ⟨_, _, sgp, ap, np, cp, fp, sgo, ao, no, co, fo, rfl, rfl, rfl, Bk13, Bk14, Up, Uo, Vp, Vo, by omega, by omega, hb⟩
         · go_simp
           have hk14 := hb.size
           have Op14 := Off.us Up (Nat.le_refl v2.heap.size)
           have Oo14 := Off.us Uo (Nat.le_refl v2.heap.size)
           replace Up := Up.alloc (.cells #[.bool false, .slice none 0 0] 24)
           replace Uo := Uo.alloc (.cells #[.bool false, .slice none 0 0] 24)
           replace hb := hb.alloc hb.size (.cells #[.bool false, .slice none 0 0] 24)
           have Bk14 := Bx.made v2 (.bool false) (.slice none 0 0) 24
           generalize v2.alloc (.cells #[.bool false, .slice none 0 0] 24) = v7 at hb Bk14 Up Uo ⊢
           refine hK.out _ _ (fun _ => hb) ?_
           clear hK K
           try simp only [Act.put, List.setIfInBounds_toArray, List.set_cons_zero, List.set_cons_succ]
           refine anyT_one (i := 9) (by kernel_rfl) rfl (fun K hK => ?_)
           go_simp
           have hk13 := hb.size
           have hne : v2.heap.size ≠ v7.heap.size := Nat.ne_of_lt Bk14.lt
           have Op13 := Off.us Up (Nat.le_refl v7.heap.size)
           have Oo13 := Off.us Uo (Nat.le_refl v7.heap.size)
           replace Up := Up.alloc (.cells #[.bool false, .slice none 0 0] 24)
           replace Uo := Uo.alloc (.cells #[.bool false, .slice none 0 0] 24)
           replace hb := hb.alloc hb.size (.cells #[.bool false, .slice none 0 0] 24)
           have Bk13 := Bx.made v7 (.bool false) (.slice none 0 0) 24
           replace Bk14 := Bk14.alloc (.cells #[.bool false, .slice none 0 0] 24)
           generalize v7.alloc (.cells #[.bool false, .slice none 0 0] 24) = v8 at hb Bk13 Up Uo Bk14 ⊢
           refine hK.out _ _ (fun _ => hb) ?_
           clear hK K
           try simp only [Act.put, List.setIfInBounds_toArray, List.set_cons_zero, List.set_cons_succ]
           refine anyT_one (i := 11) (by kernel_rfl) rfl (fun K hK => ?_)
           have r0 := Bk13.c0
           have r1 := Bk13.c1
           have fr := Bk13.fr
           go_simp
           replace Bk13 := Bk13.set (.bool sgp) (.slice ap np cp)
           replace Bk14 := bx_off Bk14 (Ne.symm hne) (.bool sgp) (.slice ap np cp)
           replace Up := us_off Up Op13 (.bool sgp) (.slice ap np cp)
           replace Uo := us_off Uo Oo13 (.bool sgp) (.slice ap np cp)
           replace hb := below_put2 hb hk13 (.bool sgp) (.slice ap np cp)
           generalize (v8.setCell ⟨v7.heap.size, 0, none⟩ (.bool sgp)).setCell ⟨v7.heap.size, 1, none⟩ (.slice ap np cp) = v9 at hb Bk13 Bk14 Up Uo ⊢
           clear r0 r1 fr
           refine hK.out _ _ (fun _ => hb) ?_
           clear hK K
           try simp only [Act.put, List.setIfInBounds_toArray, List.set_cons_zero, List.set_cons_succ]
           refine anyT_one (i := 12) (by kernel_rfl) rfl (fun K hK => ?_)
           have r0 := Bk14.c0
           have r1 := Bk14.c1
           have fr := Bk14.fr
           go_simp
           replace Bk14 := Bk14.set (.bool sgo) (.slice ao no co)
           replace Bk13 := bx_off Bk13 hne (.bool sgo) (.slice ao no co)
           replace Up := us_off Up Op14 (.bool sgo) (.slice ao no co)
           replace Uo := us_off Uo Oo14 (.bool sgo) (.slice ao no co)
           replace hb := below_put2 hb hk14 (.bool sgo) (.slice ao no co)
           generalize (v9.setCell ⟨v2.heap.size, 0, none⟩ (.bool sgo)).setCell ⟨v2.heap.size, 1, none⟩ (.slice ao no co) = v10 at hb Bk13 Bk14 Up Uo ⊢
           clear r0 r1 fr
           refine hK.out _ _ (fun _ => hb) ?_
           clear hK K
           try simp only [Act.put, List.setIfInBounds_toArray, List.set_cons_zero, List.set_cons_succ]
           refine anyT_one (i := 13) (by kernel_rfl) rfl (fun K hK => ?_)
           go_simp
           refine hK.out _ _ (fun _ => hb) ?_
           clear hK K
           try simp only [Act.put, List.setIfInBounds_toArray, List.set_cons_zero, List.set_cons_succ]
           refine anyT_done (by kernel_rfl) ?_ _
           go_wp2_with fail
           go_meet
           exact ⟨_, _, sgp, ap, np, cp, fp, sgo, ao, no, co, fo, rfl, rfl, rfl, Bk13, Bk14, Up, Uo, Vp, Vo, by omega, by omega, hb⟩
       · go_simp
         have hk13 := hb.size
         replace Us1 := Us1.alloc (.cells #[.bool false, .slice none 0 0] 24)
         replace hb := hb.alloc hb.size (.cells #[.bool false, .slice none 0 0] 24)
         have Bk13 := Bx.made v1 (.bool false) (.slice none 0 0) 24
         generalize v1.alloc (.cells #[.bool false, .slice none 0 0] 24) = v11 at hb Bk13 Us1 ⊢
         refine hK.out _ _ (fun _ => hb) ?_
         clear hK K
         try simp only [Act.put, List.setIfInBounds_toArray, List.set_cons_zero, List.set_cons_succ]
         refine anyT_two (i := 4) (j := 10) (by kernel_rfl) rfl rfl (fun K hK => ?_) (fun K hK => ?_)
         · go_simp
           refine (divMod_both _ _ _ _ _ _ _ _ _ _ _ (by omega) (by omega) Us1 (UB.below hb (Nat.le_refl _))).mono ?_
           rintro e v12 ⟨sgp, ap, np, cp, fp, sgo, ao, no, co, fo, er2, rfl, k1, k2, kb, HD2, Lp, Lo, _, _, _, _, HN2⟩
           rw [Vs1.out, VB.out] at HD2
           obtain ⟨e1, e2, e3⟩ := dd_more HB.out HF.out HD2.out
           subst e3
           have Vp := hid e1
           have Vo := hid e2
           clear e1 e2 HD2
           have Op13 := Off.new HN2.out.1 Bk13.lt
           have Oo13 := Off.new HN2.out.2.1 Bk13.lt
           replace Bk13 := Bk13.keep kb
           replace hb := hb.trans (kb.mono hb.size)
           have Up := k1
           have Uo := k2
           clear k1 k2 kb HN2 Us1 Vs1
           refine hK.out _ _ (fun _ => hb) ?_
           clear hK K
           try simp only [Act.put, List.setIfInBounds_toArray, List.set_cons_zero, List.set_cons_succ]
           refine anyT_take (i := 5) (v := ?_) rfl (by kernel_rfl) (by kernel_rfl) (by kernel_rfl) (by kernel_rfl) (by kernel_rfl) (fun _ _ _ h => h) (Or.inl ⟨by rfl, ?_⟩) hb ?_
           rotate_left 1
           · intro wz hz; go_simp; try with_reducible rfl
           try simp only [Act.put, List.setIfInBounds_toArray, List.set_cons_zero, List.set_cons_succ]
           refine anyT_take (i := 6) (v := ?_) rfl (by kernel_rfl) (by kernel_rfl) (by kernel_rfl) (by kernel_rfl) (by kernel_rfl) (fun _ _ _ h => h) (Or.inl ⟨by rfl, ?_⟩) hb ?_
           rotate_left 1
           · intro wz hz; go_simp; try with_reducible rfl
           try simp only [Act.put, List.setIfInBounds_toArray, List.set_cons_zero, List.set_cons_succ]
           refine anyT_take (i := 7) (v := ?_) rfl (by kernel_rfl) (by kernel_rfl) (by kernel_rfl) (by kernel_rfl) (by kernel_rfl) (fun _ _ _ h => h) (Or.inl ⟨by rfl, ?_⟩) hb ?_
           rotate_left 1
           · intro wz hz; go_simp; try with_reducible rfl
           try simp only [Act.put, List.setIfInBounds_toArray, List.set_cons_zero, List.set_cons_succ]
           refine anyT_take (i := 8) (v := ?_) rfl (by kernel_rfl) (by kernel_rfl) (by kernel_rfl) (by kernel_rfl) (by kernel_rfl) (fun _ _ _ h => h) (Or.inl ⟨by rfl, ?_⟩) hb ?_
           rotate_left 1
           · intro wz hz; go_simp; try with_reducible rfl
           try simp only [Act.put, List.setIfInBounds_toArray, List.set_cons_zero, List.set_cons_succ]
           refine anyT_one (i := 10) (by kernel_rfl) rfl (fun K hK => ?_)
           go_simp
           have hk14 := hb.size
           have hne : v1.heap.size ≠ v12.heap.size := Nat.ne_of_lt Bk13.lt
           have Op14 := Off.us Up (Nat.le_refl v12.heap.size)
           have Oo14 := Off.us Uo (Nat.le_refl v12.heap.size)
           replace Up := Up.alloc (.cells #[.bool false, .slice none 0 0] 24)
           replace Uo := Uo.alloc (.cells #[.bool false, .slice none 0 0] 24)
           replace hb := hb.alloc hb.size (.cells #[.bool false, .slice none 0 0] 24)
           have Bk14 := Bx.made v12 (.bool false) (.slice none 0 0) 24
           replace Bk13 := Bk13.alloc (.cells #[.bool false, .slice none 0 0] 24)
           generalize v12.alloc (.cells #[.bool false, .slice none 0 0] 24) = v13 at hb Bk14 Up Uo Bk13 ⊢
           refine hK.out _ _ (fun _ => hb) ?_
           clear hK K
           try simp only [Act.put, List.setIfInBounds_toArray, List.set_cons_zero, List.set_cons_succ]
           refine anyT_one (i := 11) (by kernel_rfl) rfl (fun K hK => ?_)
           have r0 := Bk13.c0
           have r1 := Bk13.c1
           have fr := Bk13.fr
           go_simp
           replace Bk13 := Bk13.set (.bool sgp) (.slice ap np cp)
           replace Bk14 := bx_off Bk14 hne (.bool sgp) (.slice ap np cp)
           replace Up := us_off Up Op13 (.bool sgp) (.slice ap np cp)
           replace Uo := us_off Uo Oo13 (.bool sgp) (.slice ap np cp)
           replace hb := below_put2 hb hk13 (.bool sgp) (.slice ap np cp)
           generalize (v13.setCell ⟨v1.heap.size, 0, none⟩ (.bool sgp)).setCell ⟨v1.heap.size, 1, none⟩ (.slice ap np cp) = v14 at hb Bk13 Bk14 Up Uo ⊢
           clear r0 r1 fr
           refine hK.out _ _ (fun _ => hb) ?_
           clear hK K
           try simp only [Act.put, List.setIfInBounds_toArray, List.set_cons_zero, List.set_cons_succ]
           refine anyT_one (i := 12) (by kernel_rfl) rfl (fun K hK => ?_)
           have r0 := Bk14.c0
           have r1 := Bk14.c1
           have fr := Bk14.fr
           go_simp
           replace Bk14 := Bk14.set (.bool sgo) (.slice ao no co)
           replace Bk13 := bx_off Bk13 (Ne.symm hne) (.bool sgo) (.slice ao no co)
           replace Up := us_off Up Op14 (.bool sgo) (.slice ao no co)
           replace Uo := us_off Uo Oo14 (.bool sgo) (.slice ao no co)
           replace hb := below_put2 hb hk14 (.bool sgo) (.slice ao no co)
           generalize (v14.setCell ⟨v12.heap.size, 0, none⟩ (.bool sgo)).setCell ⟨v12.heap.size, 1, none⟩ (.slice ao no co) = v15 at hb Bk13 Bk14 Up Uo ⊢
           clear r0 r1 fr
           refine hK.out _ _ (fun _ => hb) ?_
           clear hK K
           try simp only [Act.put, List.setIfInBounds_toArray, List.set_cons_zero, List.set_cons_succ]
           refine anyT_one (i := 13) (by kernel_rfl) rfl (fun K hK => ?_)
           go_simp
           refine hK.out _ _ (fun _ => hb) ?_
           clear hK K
           try simp only [Act.put, List.setIfInBounds_toArray, List.set_cons_zero, List.set_cons_succ]
           refine anyT_done (by kernel_rfl) ?_ _
           go_wp2_with fail
           go_meet
           exact ⟨_, _, sgp, ap, np, cp, fp, sgo, ao, no, co, fo, rfl, rfl, rfl, Bk13, Bk14, Up, Uo, Vp, Vo, by omega, by omega, hb⟩
         · go_simp
           have hk14 := hb.size
           have hne : v1.heap.size ≠ v11.heap.size := Nat.ne_of_lt Bk13.lt
           replace Us1 := Us1.alloc (.cells #[.bool false, .slice none 0 0] 24)
           replace hb := hb.alloc hb.size (.cells #[.bool false, .slice none 0 0] 24)
           have Bk14 := Bx.made v11 (.bool false) (.slice none 0 0) 24
           replace Bk13 := Bk13.alloc (.cells #[.bool false, .slice none 0 0] 24)
           generalize v11.alloc (.cells #[.bool false, .slice none 0 0] 24) = v16 at hb Bk14 Us1 Bk13 ⊢
           refine hK.out _ _ (fun _ => hb) ?_
           clear hK K
           try simp only [Act.put, List.setIfInBounds_toArray, List.set_cons_zero, List.set_cons_succ]
           refine anyT_one (i := 4) (by kernel_rfl) rfl (fun K hK => ?_)
           go_simp
           refine (divMod_both _ _ _ _ _ _ _ _ _ _ _ (by omega) (by omega) Us1 (UB.below hb (Nat.le_refl _))).mono ?_
           rintro e v17 ⟨sgp, ap, np, cp, fp, sgo, ao, no, co, fo, er2, rfl, k1, k2, kb, HD2, Lp, Lo, _, _, _, _, HN2⟩
           rw [Vs1.out, VB.out] at HD2
           obtain ⟨e1, e2, e3⟩ := dd_more HB.out HF.out HD2.out
           subst e3
           have Vp := hid e1
           have Vo := hid e2
           clear e1 e2 HD2
           have Op13 := Off.new HN2.out.1 Bk13.lt
           have Oo13 := Off.new HN2.out.2.1 Bk13.lt
           replace Bk13 := Bk13.keep kb
           have Op14 := Off.new HN2.out.1 Bk14.lt
           have Oo14 := Off.new HN2.out.2.1 Bk14.lt
           replace Bk14 := Bk14.keep kb
           replace hb := hb.trans (kb.mono hb.size)
           have Up := k1
           have Uo := k2
           clear k1 k2 kb HN2 Us1 Vs1
           refine hK.out _ _ (fun _ => hb) ?_
           clear hK K
           try simp only [Act.put, List.setIfInBounds_toArray, List.set_cons_zero, List.set_cons_succ]
           refine anyT_take (i := 5) (v := ?_) rfl (by kernel_rfl) (by kernel_rfl) (by kernel_rfl) (by kernel_rfl) (by kernel_rfl) (fun _ _ _ h => h) (Or.inl ⟨by rfl, ?_⟩) hb ?_
           rotate_left 1
           · intro wz hz; go_simp; try with_reducible rfl
           try simp only [Act.put, List.setIfInBounds_toArray, List.set_cons_zero, List.set_cons_succ]
           refine anyT_take (i := 6) (v := ?_) rfl (by kernel_rfl) (by kernel_rfl) (by kernel_rfl) (by kernel_rfl) (by kernel_rfl) (fun _ _ _ h => h) (Or.inl ⟨by rfl, ?_⟩) hb ?_
           rotate_left 1
           · intro wz hz; go_simp; try with_reducible rfl
           try simp only [Act.put, List.setIfInBounds_toArray, List.set_cons_zero, List.set_cons_succ]
           refine anyT_take (i := 7) (v := ?_) rfl (by kernel_rfl) (by kernel_rfl) (by kernel_rfl) (by kernel_rfl) (by kernel_rfl) (fun _ _ _ h => h) (Or.inl ⟨by rfl, ?_⟩) hb ?_
           rotate_left 1
           · intro wz hz; go_simp; try with_reducible rfl
           try simp only [Act.put, List.setIfInBounds_toArray, List.set_cons_zero, List.set_cons_succ]
           refine anyT_take (i := 8) (v := ?_) rfl (by kernel_rfl) (by kernel_rfl) (by kernel_rfl) (by kernel_rfl) (by kernel_rfl) (fun _ _ _ h => h) (Or.inl ⟨by rfl, ?_⟩) hb ?_
           rotate_left 1
           · intro wz hz; go_simp; try with_reducible rfl
           try simp only [Act.put, List.setIfInBounds_toArray, List.set_cons_zero, List.set_cons_succ]
           refine anyT_one (i := 11) (by kernel_rfl) rfl (fun K hK => ?_)
           have r0 := Bk13.c0
           have r1 := Bk13.c1
           have fr := Bk13.fr
           go_simp
           replace Bk13 := Bk13.set (.bool sgp) (.slice ap np cp)
           replace Bk14 := bx_off Bk14 hne (.bool sgp) (.slice ap np cp)
           replace Up := us_off Up Op13 (.bool sgp) (.slice ap np cp)
           replace Uo := us_off Uo Oo13 (.bool sgp) (.slice ap np cp)
           replace hb := below_put2 hb hk13 (.bool sgp) (.slice ap np cp)
           generalize (v17.setCell ⟨v1.heap.size, 0, none⟩ (.bool sgp)).setCell ⟨v1.heap.size, 1, none⟩ (.slice ap np cp) = v18 at hb Bk13 Bk14 Up Uo ⊢
           clear r0 r1 fr
           refine hK.out _ _ (fun _ => hb) ?_
           clear hK K
           try simp only [Act.put, List.setIfInBounds_toArray, List.set_cons_zero, List.set_cons_succ]
           refine anyT_one (i := 12) (by kernel_rfl) rfl (fun K hK => ?_)
           have r0 := Bk14.c0
           have r1 := Bk14.c1
           have fr := Bk14.fr
           go_simp
           replace Bk14 := Bk14.set (.bool sgo) (.slice ao no co)
           replace Bk13 := bx_off Bk13 (Ne.symm hne) (.bool sgo) (.slice ao no co)
           replace Up := us_off Up Op14 (.bool sgo) (.slice ao no co)
           replace Uo := us_off Uo Oo14 (.bool sgo) (.slice ao no co)
           replace hb := below_put2 hb hk14 (.bool sgo) (.slice ao no co)
           generalize (v18.setCell ⟨v11.heap.size, 0, none⟩ (.bool sgo)).setCell ⟨v11.heap.size, 1, none⟩ (.slice ao no co) = v19 at hb Bk13 Bk14 Up Uo ⊢
           clear r0 r1 fr
           refine hK.out _ _ (fun _ => hb) ?_
           clear hK K
           try simp only [Act.put, List.setIfInBounds_toArray, List.set_cons_zero, List.set_cons_succ]
           refine anyT_one (i := 13) (by kernel_rfl) rfl (fun K hK => ?_)
           go_simp
           refine hK.out _ _ (fun _ => hb) ?_
           clear hK K
           try simp only [Act.put, List.setIfInBounds_toArray, List.set_cons_zero, List.set_cons_succ]
           refine anyT_done (by kernel_rfl) ?_ _
           go_wp2_with fail
           go_meet
           exact ⟨_, _, sgp, ap, np, cp, fp, sgo, ao, no, co, fo, rfl, rfl, rfl, Bk13, Bk14, Up, Uo, Vp, Vo, by omega, by omega, hb⟩
       · go_simp
         have hk14 := hb.size
         replace Us1 := Us1.alloc (.cells #[.bool false, .slice none 0 0] 24)
         replace hb := hb.alloc hb.size (.cells #[.bool false, .slice none 0 0] 24)
         have Bk14 := Bx.made v1 (.bool false) (.slice none 0 0) 24
         generalize v1.alloc (.cells #[.bool false, .slice none 0 0] 24) = v20 at hb Bk14 Us1 ⊢
         refine hK.out _ _ (fun _ => hb) ?_
         clear hK K
         try simp only [Act.put, List.setIfInBounds_toArray, List.set_cons_zero, List.set_cons_succ]
         refine anyT_two (i := 4) (j := 9) (by kernel_rfl) rfl rfl (fun K hK => ?_) (fun K hK => ?_)
         · go_simp
           refine (divMod_both _ _ _ _ _ _ _ _ _ _ _ (by omega) (by omega) Us1 (UB.below hb (Nat.le_refl _))).mono ?_
           rintro e v21 ⟨sgp, ap, np, cp, fp, sgo, ao, no, co, fo, er2, rfl, k1, k2, kb, HD2, Lp, Lo, _, _, _, _, HN2⟩
           rw [Vs1.out, VB.out] at HD2
           obtain ⟨e1, e2, e3⟩ := dd_more HB.out HF.out HD2.out
           subst e3
           have Vp := hid e1
           have Vo := hid e2
           clear e1 e2 HD2
           have Op14 := Off.new HN2.out.1 Bk14.lt
           have Oo14 := Off.new HN2.out.2.1 Bk14.lt
           replace Bk14 := Bk14.keep kb
           replace hb := hb.trans (kb.mono hb.size)
           have Up := k1
           have Uo := k2
           clear k1 k2 kb HN2 Us1 Vs1
           refine hK.out _ _ (fun _ => hb) ?_
           clear hK K
           try simp only [Act.put, List.setIfInBounds_toArray, List.set_cons_zero, List.set_cons_succ]
           refine anyT_take (i := 5) (v := ?_) rfl (by kernel_rfl) (by kernel_rfl) (by kernel_rfl) (by kernel_rfl) (by kernel_rfl) (fun _ _ _ h => h) (Or.inl ⟨by rfl, ?_⟩) hb ?_
           rotate_left 1
           · intro wz hz; go_simp; try with_reducible rfl
           try simp only [Act.put, List.setIfInBounds_toArray, List.set_cons_zero, List.set_cons_succ]
           refine anyT_take (i := 6) (v := ?_) rfl (by kernel_rfl) (by kernel_rfl) (by kernel_rfl) (by kernel_rfl) (by kernel_rfl) (fun _ _ _ h => h) (Or.inl ⟨by rfl, ?_⟩) hb ?_
           rotate_left 1
           · intro wz hz; go_simp; try with_reducible rfl
           try simp only [Act.put, List.setIfInBounds_toArray, List.set_cons_zero, List.set_cons_succ]
           refine anyT_take (i := 7) (v := ?_) rfl (by kernel_rfl) (by kernel_rfl) (by kernel_rfl) (by kernel_rfl) (by kernel_rfl) (fun _ _ _ h => h) (Or.inl ⟨by rfl, ?_⟩) hb ?_
           rotate_left 1
           · intro wz hz; go_simp; try with_reducible rfl
           try simp only [Act.put, List.setIfInBounds_toArray, List.set_cons_zero, List.set_cons_succ]
           refine anyT_take (i := 8) (v := ?_) rfl (by kernel_rfl) (by kernel_rfl) (by kernel_rfl) (by kernel_rfl) (by kernel_rfl) (fun _ _ _ h => h) (Or.inl ⟨by rfl, ?_⟩) hb ?_
           rotate_left 1
           · intro wz hz; go_simp; try with_reducible rfl
           try simp only [Act.put, List.setIfInBounds_toArray, List.set_cons_zero, List.set_cons_succ]
           refine anyT_one (i := 9) (by kernel_rfl) rfl (fun K hK => ?_)
           go_simp
           have hk13 := hb.size
           have hne : v1.heap.size ≠ v21.heap.size := Nat.ne_of_lt Bk14.lt
           have Op13 := Off.us Up (Nat.le_refl v21.heap.size)
           have Oo13 := Off.us Uo (Nat.le_refl v21.heap.size)
           replace Up := Up.alloc (.cells #[.bool false, .slice none 0 0] 24)
           replace Uo := Uo.alloc (.cells #[.bool false, .slice none 0 0] 24)
           replace hb := hb.alloc hb.size (.cells #[.bool false, .slice none 0 0] 24)
           have Bk13 := Bx.made v21 (.bool false) (.slice none 0 0) 24
           replace Bk14 := Bk14.alloc (.cells #[.bool false, .slice none 0 0] 24)
           generalize v21.alloc (.cells #[.bool false, .slice none 0 0] 24) = v22 at hb Bk13 Up Uo Bk14 ⊢
           refine hK.out _ _ (fun _ => hb) ?_
           clear hK K
           try simp only [Act.put, List.setIfInBounds_toArray, List.set_cons_zero, List.set_cons_succ]
           refine anyT_one (i := 11) (by kernel_rfl) rfl (fun K hK => ?_)
           have r0 := Bk13.c0
           have r1 := Bk13.c1
           have fr := Bk13.fr
           go_simp
           replace Bk13 := Bk13.set (.bool sgp) (.slice ap np cp)
           replace Bk14 := bx_off Bk14 (Ne.symm hne) (.bool sgp) (.slice ap np cp)
           replace Up := us_off Up Op13 (.bool sgp) (.slice ap np cp)
           replace Uo := us_off Uo Oo13 (.bool sgp) (.slice ap np cp)
           replace hb := below_put2 hb hk13 (.bool sgp) (.slice ap np cp)
           generalize (v22.setCell ⟨v21.heap.size, 0, none⟩ (.bool sgp)).setCell ⟨v21.heap.size, 1, none⟩ (.slice ap np cp) = v23 at hb Bk13 Bk14 Up Uo ⊢
           clear r0 r1 fr
           refine hK.out _ _ (fun _ => hb) ?_
           clear hK K
           try simp only [Act.put, List.setIfInBounds_toArray, List.set_cons_zero, List.set_cons_succ]
           refine anyT_one (i := 12) (by kernel_rfl) rfl (fun K hK => ?_)
           have r0 := Bk14.c0
           have r1 := Bk14.c1
           have fr := Bk14.fr
           go_simp
           replace Bk14 := Bk14.set (.bool sgo) (.slice ao no co)
           replace Bk13 := bx_off Bk13 hne (.bool sgo) (.slice ao no co)
           replace Up := us_off Up Op14 (.bool sgo) (.slice ao no co)
           replace Uo := us_off Uo Oo14 (.bool sgo) (.slice ao no co)
           replace hb := below_put2 hb hk14 (.bool sgo) (.slice ao no co)
           generalize (v23.setCell ⟨v1.heap.size, 0, none⟩ (.bool sgo)).setCell ⟨v1.heap.size, 1, none⟩ (.slice ao no co) = v24 at hb Bk13 Bk14 Up Uo ⊢
           clear r0 r1 fr
           refine hK.out _ _ (fun _ => hb) ?_
           clear hK K
           try simp only [Act.put, List.setIfInBounds_toArray, List.set_cons_zero, List.set_cons_succ]
           refine anyT_one (i := 13) (by kernel_rfl) rfl (fun K hK => ?_)
           go_simp
           refine hK.out _ _ (fun _ => hb) ?_
           clear hK K
           try simp only [Act.put, List.setIfInBounds_toArray, List.set_cons_zero, List.set_cons_succ]
           refine anyT_done (by kernel_rfl) ?_ _
           go_wp2_with fail
           go_meet
           exact ⟨_, _, sgp, ap, np, cp, fp, sgo, ao, no, co, fo, rfl, rfl, rfl, Bk13, Bk14, Up, Uo, Vp, Vo, by omega, by omega, hb⟩
         · go_simp
           have hk13 := hb.size
           have hne : v1.heap.size ≠ v20.heap.size := Nat.ne_of_lt Bk14.lt
           replace Us1 := Us1.alloc (.cells #[.bool false, .slice none 0 0] 24)
           replace hb := hb.alloc hb.size (.cells #[.bool false, .slice none 0 0] 24)
           have Bk13 := Bx.made v20 (.bool false) (.slice none 0 0) 24
           replace Bk14 := Bk14.alloc (.cells #[.bool false, .slice none 0 0] 24)
           generalize v20.alloc (.cells #[.bool false, .slice none 0 0] 24) = v25 at hb Bk13 Us1 Bk14 ⊢
           refine hK.out _ _ (fun _ => hb) ?_
           clear hK K
           try simp only [Act.put, List.setIfInBounds_toArray, List.set_cons_zero, List.set_cons_succ]
           refine anyT_one (i := 4) (by kernel_rfl) rfl (fun K hK => ?_)
           go_simp
           refine (divMod_both _ _ _ _ _ _ _ _ _ _ _ (by omega) (by omega) Us1 (UB.below hb (Nat.le_refl _))).mono ?_
           rintro e v26 ⟨sgp, ap, np, cp, fp, sgo, ao, no, co, fo, er2, rfl, k1, k2, kb, HD2, Lp, Lo, _, _, _, _, HN2⟩
           rw [Vs1.out, VB.out] at HD2
           obtain ⟨e1, e2, e3⟩ := dd_more HB.out HF.out HD2.out
           subst e3
           have Vp := hid e1
           have Vo := hid e2
           clear e1 e2 HD2
           have Op14 := Off.new HN2.out.1 Bk14.lt
           have Oo14 := Off.new HN2.out.2.1 Bk14.lt
           replace Bk14 := Bk14.keep kb
           have Op13 := Off.new HN2.out.1 Bk13.lt
           have Oo13 := Off.new HN2.out.2.1 Bk13.lt
           replace Bk13 := Bk13.keep kb
           replace hb := hb.trans (kb.mono hb.size)
           have Up := k1
           have Uo := k2
           clear k1 k2 kb HN2 Us1 Vs1
           refine hK.out _ _ (fun _ => hb) ?_
           clear hK K
           try simp only [Act.put, List.setIfInBounds_toArray, List.set_cons_zero, List.set_cons_succ]
           refine anyT_take (i := 5) (v := ?_) rfl (by kernel_rfl) (by kernel_rfl) (by kernel_rfl) (by kernel_rfl) (by kernel_rfl) (fun _ _ _ h => h) (Or.inl ⟨by rfl, ?_⟩) hb ?_
           rotate_left 1
           · intro wz hz; go_simp; try with_reducible rfl
           try simp only [Act.put, List.setIfInBounds_toArray, List.set_cons_zero, List.set_cons_succ]
           refine anyT_take (i := 6) (v := ?_) rfl (by kernel_rfl) (by kernel_rfl) (by kernel_rfl) (by kernel_rfl) (by kernel_rfl) (fun _ _ _ h => h) (Or.inl ⟨by rfl, ?_⟩) hb ?_
           rotate_left 1
           · intro wz hz; go_simp; try with_reducible rfl
           try simp only [Act.put, List.setIfInBounds_toArray, List.set_cons_zero, List.set_cons_succ]
           refine anyT_take (i := 7) (v := ?_) rfl (by kernel_rfl) (by kernel_rfl) (by kernel_rfl) (by kernel_rfl) (by kernel_rfl) (fun _ _ _ h => h) (Or.inl ⟨by rfl, ?_⟩) hb ?_
           rotate_left 1
           · intro wz hz; go_simp; try with_reducible rfl
           try simp only [Act.put, List.setIfInBounds_toArray, List.set_cons_zero, List.set_cons_succ]
           refine anyT_take (i := 8) (v := ?_) rfl (by kernel_rfl) (by kernel_rfl) (by kernel_rfl) (by kernel_rfl) (by kernel_rfl) (fun _ _ _ h => h) (Or.inl ⟨by rfl, ?_⟩) hb ?_
           rotate_left 1
           · intro wz hz; go_simp; try with_reducible rfl
           try simp only [Act.put, List.setIfInBounds_toArray, List.set_cons_zero, List.set_cons_succ]
           refine anyT_one (i := 11) (by kernel_rfl) rfl (fun K hK => ?_)
           have r0 := Bk13.c0
           have r1 := Bk13.c1
           have fr := Bk13.fr
           go_simp
           replace Bk13 := Bk13.set (.bool sgp) (.slice ap np cp)
           replace Bk14 := bx_off Bk14 (Ne.symm hne) (.bool sgp) (.slice ap np cp)
           replace Up := us_off Up Op13 (.bool sgp) (.slice ap np cp)
           replace Uo := us_off Uo Oo13 (.bool sgp) (.slice ap np cp)
           replace hb := below_put2 hb hk13 (.bool sgp) (.slice ap np cp)
           generalize (v26.setCell ⟨v20.heap.size, 0, none⟩ (.bool sgp)).setCell ⟨v20.heap.size, 1, none⟩ (.slice ap np cp) = v27 at hb Bk13 Bk14 Up Uo ⊢
           clear r0 r1 fr
           refine hK.out _ _ (fun _ => hb) ?_
           clear hK K
           try simp only [Act.put, List.setIfInBounds_toArray, List.set_cons_zero, List.set_cons_succ]
           refine anyT_one (i := 12) (by kernel_rfl) rfl (fun K hK => ?_)
           have r0 := Bk14.c0
           have r1 := Bk14.c1
           have fr := Bk14.fr
           go_simp
           replace Bk14 := Bk14.set (.bool sgo) (.slice ao no co)
           replace Bk13 := bx_off Bk13 hne (.bool sgo) (.slice ao no co)
           replace Up := us_off Up Op14 (.bool sgo) (.slice ao no co)
           replace Uo := us_off Uo Oo14 (.bool sgo) (.slice ao no co)
           replace hb := below_put2 hb hk14 (.bool sgo) (.slice ao no co)
           generalize (v27.setCell ⟨v1.heap.size, 0, none⟩ (.bool sgo)).setCell ⟨v1.heap.size, 1, none⟩ (.slice ao no co) = v28 at hb Bk13 Bk14 Up Uo ⊢
           clear r0 r1 fr
           refine hK.out _ _ (fun _ => hb) ?_
           clear hK K
           try simp only [Act.put, List.setIfInBounds_toArray, List.set_cons_zero, List.set_cons_succ]
           refine anyT_one (i := 13) (by kernel_rfl) rfl (fun K hK => ?_)
           go_simp
           refine hK.out _ _ (fun _ => hb) ?_
           clear hK K
           try simp only [Act.put, List.setIfInBounds_toArray, List.set_cons_zero, List.set_cons_succ]
           refine anyT_done (by kernel_rfl) ?_ _
           go_wp2_with fail
           go_meet
           exact ⟨_, _, sgp, ap, np, cp, fp, sgo, ao, no, co, fo, rfl, rfl, rfl, Bk13, Bk14, Up, Uo, Vp, Vo, by omega, by omega, hb⟩
     · go_simp
       have hk13 := hb.size
       replace hb := hb.alloc hb.size (.cells #[.bool false, .slice none 0 0] 24)
       have Bk13 := Bx.made D (.bool false) (.slice none 0 0) 24
       generalize D.alloc (.cells #[.bool false, .slice none 0 0] 24) = v29 at hb Bk13 ⊢
       refine hK.out _ _ (fun _ => hb) ?_
       clear hK K
       try simp only [Act.put, List.setIfInBounds_toArray, List.set_cons_zero, List.set_cons_succ]
       refine anyT_two (i := 2) (j := 10) (by kernel_rfl) rfl rfl (fun K hK => ?_) (fun K hK => ?_)
       · go_simp
         refine (add_any _ _ _ _ _ _ _ _ _ _ _ (by omega) (by omega) (UA.below hb (Nat.le_refl _)) (UB.below hb (Nat.le_refl _))).mono ?_
         rintro e v30 ⟨sgs1, as1, ns1, cs1, fs1, rfl, k1, _, kb, _, _, k6, Ls1⟩
         have Vs1 : Hid (ival sgs1 (val fs1 ns1) = A + B) := hid (by rw [k6, VA.out, VB.out])
         clear k6
         replace Bk13 := Bk13.keep kb
         replace hb := hb.trans (kb.mono hb.size)
         have Us1 := k1
         clear k1 kb
         refine hK.out _ _ (fun _ => hb) ?_
         clear hK K
         try simp only [Act.put, List.setIfInBounds_toArray, List.set_cons_zero, List.set_cons_succ]
         refine anyT_two (i := 4) (j := 10) (by kernel_rfl) rfl rfl (fun K hK => ?_) (fun K hK => ?_)
         · go_simp
           refine (divMod_both _ _ _ _ _ _ _ _ _ _ _ (by omega) (by omega) Us1 (UB.below hb (Nat.le_refl _))).mono ?_
           rintro e v31 ⟨sgp, ap, np, cp, fp, sgo, ao, no, co, fo, er2, rfl, k1, k2, kb, HD2, Lp, Lo, _, _, _, _, HN2⟩
           rw [Vs1.out, VB.out] at HD2
           obtain ⟨e1, e2, e3⟩ := dd_more HB.out HF.out HD2.out
           subst e3
           have Vp := hid e1
           have Vo := hid e2
           clear e1 e2 HD2
           have Op13 := Off.new HN2.out.1 Bk13.lt
           have Oo13 := Off.new HN2.out.2.1 Bk13.lt
           replace Bk13 := Bk13.keep kb
           replace hb := hb.trans (kb.mono hb.size)
           have Up := k1
           have Uo := k2
           clear k1 k2 kb HN2 Us1 Vs1
           refine hK.out _ _ (fun _ => hb) ?_
           clear hK K
           try simp only [Act.put, List.setIfInBounds_toArray, List.set_cons_zero, List.set_cons_succ]
           refine anyT_take (i := 5) (v := ?_) rfl (by kernel_rfl) (by kernel_rfl) (by kernel_rfl) (by kernel_rfl) (by kernel_rfl) (fun _ _ _ h => h) (Or.inl ⟨by rfl, ?_⟩) hb ?_
           rotate_left 1
           · intro wz hz; go_simp; try with_reducible rfl
           try simp only [Act.put, List.setIfInBounds_toArray, List.set_cons_zero, List.set_cons_succ]
           refine anyT_take (i := 6) (v := ?_) rfl (by kernel_rfl) (by kernel_rfl) (by kernel_rfl) (by kernel_rfl) (by kernel_rfl) (fun _ _ _ h => h) (Or.inl ⟨by rfl, ?_⟩) hb ?_
           rotate_left 1
           · intro wz hz; go_simp; try with_reducible rfl
           try simp only [Act.put, List.setIfInBounds_toArray, List.set_cons_zero, List.set_cons_succ]
           refine anyT_take (i := 7) (v := ?_) rfl (by kernel_rfl) (by kernel_rfl) (by kernel_rfl) (by kernel_rfl) (by kernel_rfl) (fun _ _ _ h => h) (Or.inl ⟨by rfl, ?_⟩) hb ?_
           rotate_left 1
           · intro wz hz; go_simp; try with_reducible rfl
           try simp only [Act.put, List.setIfInBounds_toArray, List.set_cons_zero, List.set_cons_succ]
           refine anyT_take (i := 8) (v := ?_) rfl (by kernel_rfl) (by kernel_rfl) (by kernel_rfl) (by kernel_rfl) (by kernel_rfl) (fun _ _ _ h => h) (Or.inl ⟨by rfl, ?_⟩) hb ?_
           rotate_left 1
           · intro wz hz; go_simp; try with_reducible rfl
           try simp only [Act.put, List.setIfInBounds_toArray, List.set_cons_zero, List.set_cons_succ]
           refine anyT_one (i := 10) (by kernel_rfl) rfl (fun K hK => ?_)
           go_simp
           have hk14 := hb.size
           have hne : D.heap.size ≠ v31.heap.size := Nat.ne_of_lt Bk13.lt
           have Op14 := Off.us Up (Nat.le_refl v31.heap.size)
           have Oo14 := Off.us Uo (Nat.le_refl v31.heap.size)
           replace Up := Up.alloc (.cells #[.bool false, .slice none 0 0] 24)
           replace Uo := Uo.alloc (.cells #[.bool false, .slice none 0 0] 24)
           replace hb := hb.alloc hb.size (.cells #[.bool false, .slice none 0 0] 24)
           have Bk14 := Bx.made v31 (.bool false) (.slice none 0 0) 24
           replace Bk13 := Bk13.alloc (.cells #[.bool false, .slice none 0 0] 24)
           generalize v31.alloc (.cells #[.bool false, .slice none 0 0] 24) = v32 at hb Bk14 Up Uo Bk13 ⊢
           refine hK.out _ _ (fun _ => hb) ?_
           clear hK K
           try simp only [Act.put, List.setIfInBounds_toArray, List.set_cons_zero, List.set_cons_succ]
           refine anyT_one (i := 11) (by kernel_rfl) rfl (fun K hK => ?_)
           have r0 := Bk13.c0
           have r1 := Bk13.c1
           have fr := Bk13.fr
           go_simp
           replace Bk13 := Bk13.set (.bool sgp) (.slice ap np cp)
           replace Bk14 := bx_off Bk14 hne (.bool sgp) (.slice ap np cp)
           replace Up := us_off Up Op13 (.bool sgp) (.slice ap np cp)
           replace Uo := us_off Uo Oo13 (.bool sgp) (.slice ap np cp)
           replace hb := below_put2 hb hk13 (.bool sgp) (.slice ap np cp)
           generalize (v32.setCell ⟨D.heap.size, 0, none⟩ (.bool sgp)).setCell ⟨D.heap.size, 1, none⟩ (.slice ap np cp) = v33 at hb Bk13 Bk14 Up Uo ⊢
           clear r0 r1 fr
           refine hK.out _ _ (fun _ => hb) ?_
           clear hK K
           try simp only [Act.put, List.setIfInBounds_toArray, List.set_cons_zero, List.set_cons_succ]
           refine anyT_one (i := 12) (by kernel_rfl) rfl (fun K hK => ?_)
           have r0 := Bk14.c0
           have r1 := Bk14.c1
           have fr := Bk14.fr
           go_simp
           replace Bk14 := Bk14.set (.bool sgo) (.slice ao no co)
           replace Bk13 := bx_off Bk13 (Ne.symm hne) (.bool sgo) (.slice ao no co)
           replace Up := us_off Up Op14 (.bool sgo) (.slice ao no co)
           replace Uo := us_off Uo Oo14 (.bool sgo) (.slice ao no co)
           replace hb := below_put2 hb hk14 (.bool sgo) (.slice ao no co)
           generalize (v33.setCell ⟨v31.heap.size, 0, none⟩ (.bool sgo)).setCell ⟨v31.heap.size, 1, none⟩ (.slice ao no co) = v34 at hb Bk13 Bk14 Up Uo ⊢
           clear r0 r1 fr
           refine hK.out _ _ (fun _ => hb) ?_
           clear hK K
           try simp only [Act.put, List.setIfInBounds_toArray, List.set_cons_zero, List.set_cons_succ]
           refine anyT_one (i := 13) (by kernel_rfl) rfl (fun K hK => ?_)
           go_simp
           refine hK.out _ _ (fun _ => hb) ?_
           clear hK K
           try simp only [Act.put, List.setIfInBounds_toArray, List.set_cons_zero, List.set_cons_succ]
           refine anyT_done (by kernel_rfl) ?_ _
           go_wp2_with fail
           go_meet
           exact ⟨_, _, sgp, ap, np, cp, fp, sgo, ao, no, co, fo, rfl, rfl, rfl, Bk13, Bk14, Up, Uo, Vp, Vo, by omega, by omega, hb⟩
         · go_simp
           have hk14 := hb.size
           have hne : D.heap.size ≠ v30.heap.size := Nat.ne_of_lt Bk13.lt
           replace Us1 := Us1.alloc (.cells #[.bool false, .slice none 0 0] 24)
           replace hb := hb.alloc hb.size (.cells #[.bool false, .slice none 0 0] 24)
           have Bk14 := Bx.made v30 (.bool false) (.slice none 0 0) 24
           replace Bk13 := Bk13.alloc (.cells #[.bool false, .slice none 0 0] 24)
           generalize v30.alloc (.cells #[.bool false, .slice none 0 0] 24) = v35 at hb Bk14 Us1 Bk13 ⊢
           refine hK.out _ _ (fun _ => hb) ?_
           clear hK K
           try simp only [Act.put, List.setIfInBounds_toArray, List.set_cons_zero, List.set_cons_succ]
           refine anyT_one (i := 4) (by kernel_rfl) rfl (fun K hK => ?_)
           go_simp
           refine (divMod_both _ _ _ _ _ _ _ _ _ _ _ (by omega) (by omega) Us1 (UB.below hb (Nat.le_refl _))).mono ?_
           rintro e v36 ⟨sgp, ap, np, cp, fp, sgo, ao, no, co, fo, er2, rfl, k1, k2, kb, HD2, Lp, Lo, _, _, _, _, HN2⟩
           rw [Vs1.out, VB.out] at HD2
           obtain ⟨e1, e2, e3⟩ := dd_more HB.out HF.out HD2.out
           subst e3
           have Vp := hid e1
           have Vo := hid e2
           clear e1 e2 HD2
           have Op13 := Off.new HN2.out.1 Bk13.lt
           have Oo13 := Off.new HN2.out.2.1 Bk13.lt
           replace Bk13 := Bk13.keep kb
           have Op14 := Off.new HN2.out.1 Bk14.lt
           have Oo14 := Off.new HN2.out.2.1 Bk14.lt
           replace Bk14 := Bk14.keep kb
           replace hb := hb.trans (kb.mono hb.size)
           have Up := k1
           have Uo := k2
           clear k1 k2 kb HN2 Us1 Vs1
           refine hK.out _ _ (fun _ => hb) ?_
           clear hK K
           try simp only [Act.put, List.setIfInBounds_toArray, List.set_cons_zero, List.set_cons_succ]
           refine anyT_take (i := 5) (v := ?_) rfl (by kernel_rfl) (by kernel_rfl) (by kernel_rfl) (by kernel_rfl) (by kernel_rfl) (fun _ _ _ h => h) (Or.inl ⟨by rfl, ?_⟩) hb ?_
           rotate_left 1
           · intro wz hz; go_simp; try with_reducible rfl
           try simp only [Act.put, List.setIfInBounds_toArray, List.set_cons_zero, List.set_cons_succ]
           refine anyT_take (i := 6) (v := ?_) rfl (by kernel_rfl) (by kernel_rfl) (by kernel_rfl) (by kernel_rfl) (by kernel_rfl) (fun _ _ _ h => h) (Or.inl ⟨by rfl, ?_⟩) hb ?_
           rotate_left 1
           · intro wz hz; go_simp; try with_reducible rfl
           try simp only [Act.put, List.setIfInBounds_toArray, List.set_cons_zero, List.set_cons_succ]
           refine anyT_take (i := 7) (v := ?_) rfl (by kernel_rfl) (by kernel_rfl) (by kernel_rfl) (by kernel_rfl) (by kernel_rfl) (fun _ _ _ h => h) (Or.inl ⟨by rfl, ?_⟩) hb ?_
           rotate_left 1
           · intro wz hz; go_simp; try with_reducible rfl
           try simp only [Act.put, List.setIfInBounds_toArray, List.set_cons_zero, List.set_cons_succ]
           refine anyT_take (i := 8) (v := ?_) rfl (by kernel_rfl) (by kernel_rfl) (by kernel_rfl) (by kernel_rfl) (by kernel_rfl) (fun _ _ _ h => h) (Or.inl ⟨by rfl, ?_⟩) hb ?_
           rotate_left 1
           · intro wz hz; go_simp; try with_reducible rfl
           try simp only [Act.put, List.setIfInBounds_toArray, List.set_cons_zero, List.set_cons_succ]
           refine anyT_one (i := 11) (by kernel_rfl) rfl (fun K hK => ?_)
           have r0 := Bk13.c0
           have r1 := Bk13.c1
           have fr := Bk13.fr
           go_simp
           replace Bk13 := Bk13.set (.bool sgp) (.slice ap np cp)
           replace Bk14 := bx_off Bk14 hne (.bool sgp) (.slice ap np cp)
           replace Up := us_off Up Op13 (.bool sgp) (.slice ap np cp)
           replace Uo := us_off Uo Oo13 (.bool sgp) (.slice ap np cp)
           replace hb := below_put2 hb hk13 (.bool sgp) (.slice ap np cp)
           generalize (v36.setCell ⟨D.heap.size, 0, none⟩ (.bool sgp)).setCell ⟨D.heap.size, 1, none⟩ (.slice ap np cp) = v37 at hb Bk13 Bk14 Up Uo ⊢
           clear r0 r1 fr
           refine hK.out _ _ (fun _ => hb) ?_
           clear hK K
           try simp only [Act.put, List.setIfInBounds_toArray, List.set_cons_zero, List.set_cons_succ]
           refine anyT_one (i := 12) (by kernel_rfl) rfl (fun K hK => ?_)
           have r0 := Bk14.c0
           have r1 := Bk14.c1
           have fr := Bk14.fr
           go_simp
           replace Bk14 := Bk14.set (.bool sgo) (.slice ao no co)
           replace Bk13 := bx_off Bk13 (Ne.symm hne) (.bool sgo) (.slice ao no co)
           replace Up := us_off Up Op14 (.bool sgo) (.slice ao no co)
           replace Uo := us_off Uo Oo14 (.bool sgo) (.slice ao no co)
           replace hb := below_put2 hb hk14 (.bool sgo) (.slice ao no co)
           generalize (v37.setCell ⟨v30.heap.size, 0, none⟩ (.bool sgo)).setCell ⟨v30.heap.size, 1, none⟩ (.slice ao no co) = v38 at hb Bk13 Bk14 Up Uo ⊢
           clear r0 r1 fr
           refine hK.out _ _ (fun _ => hb) ?_
           clear hK K
           try simp only [Act.put, List.setIfInBounds_toArray, List.set_cons_zero, List.set_cons_succ]
           refine anyT_one (i := 13) (by kernel_rfl) rfl (fun K hK => ?_)
           go_simp
           refine hK.out _ _ (fun _ => hb) ?_
           clear hK K
           try simp only [Act.put, List.setIfInBounds_toArray, List.set_cons_zero, List.set_cons_succ]
           refine anyT_done (by kernel_rfl) ?_ _
           go_wp2_with fail
           go_meet
           exact ⟨_, _, sgp, ap, np, cp, fp, sgo, ao, no, co, fo, rfl, rfl, rfl, Bk13, Bk14, Up, Uo, Vp, Vo, by omega, by omega, hb⟩
       · go_simp
         have hk14 := hb.size
         have hne : D.heap.size ≠ v29.heap.size := Nat.ne_of_lt Bk13.lt
         replace hb := hb.alloc hb.size (.cells #[.bool false, .slice none 0 0] 24)
         have Bk14 := Bx.made v29 (.bool false) (.slice none 0 0) 24
         replace Bk13 := Bk13.alloc (.cells #[.bool false, .slice none 0 0] 24)
         generalize v29.alloc (.cells #[.bool false, .slice none 0 0] 24) = v39 at hb Bk14 Bk13 ⊢
         refine hK.out _ _ (fun _ => hb) ?_
         clear hK K
         try simp only [Act.put, List.setIfInBounds_toArray, List.set_cons_zero, List.set_cons_succ]
         refine anyT_one (i := 2) (by kernel_rfl) rfl (fun K hK => ?_)
         go_simp
         refine (add_any _ _ _ _ _ _ _ _ _ _ _ (by omega) (by omega) (UA.below hb (Nat.le_refl _)) (UB.below hb (Nat.le_refl _))).mono ?_
         rintro e v40 ⟨sgs1, as1, ns1, cs1, fs1, rfl, k1, _, kb, _, _, k6, Ls1⟩
         have Vs1 : Hid (ival sgs1 (val fs1 ns1) = A + B) := hid (by rw [k6, VA.out, VB.out])
         clear k6
         replace Bk13 := Bk13.keep kb
         replace Bk14 := Bk14.keep kb
         replace hb := hb.trans (kb.mono hb.size)
         have Us1 := k1
         clear k1 kb
         refine hK.out _ _ (fun _ => hb) ?_
         clear hK K
         try simp only [Act.put, List.setIfInBounds_toArray, List.set_cons_zero, List.set_cons_succ]
         refine anyT_one (i := 4) (by kernel_rfl) rfl (fun K hK => ?_)
         go_simp
         refine (divMod_both _ _ _ _ _ _ _ _ _ _ _ (by omega) (by omega) Us1 (UB.below hb (Nat.le_refl _))).mono ?_
         rintro e v41 ⟨sgp, ap, np, cp, fp, sgo, ao, no, co, fo, er2, rfl, k1, k2, kb, HD2, Lp, Lo, _, _, _, _, HN2⟩
         rw [Vs1.out, VB.out] at HD2
         obtain ⟨e1, e2, e3⟩ := dd_more HB.out HF.out HD2.out
         subst e3
         have Vp := hid e1
         have Vo := hid e2
         clear e1 e2 HD2
         have Op13 := Off.new HN2.out.1 Bk13.lt
         have Oo13 := Off.new HN2.out.2.1 Bk13.lt
         replace Bk13 := Bk13.keep kb
         have Op14 := Off.new HN2.out.1 Bk14.lt
         have Oo14 := Off.new HN2.out.2.1 Bk14.lt
         replace Bk14 := Bk14.keep kb
         replace hb := hb.trans (kb.mono hb.size)
         have Up := k1
         have Uo := k2
         clear k1 k2 kb HN2 Us1 Vs1
         refine hK.out _ _ (fun _ => hb) ?_
         clear hK K
         try simp only [Act.put, List.setIfInBounds_toArray, List.set_cons_zero, List.set_cons_succ]
         refine anyT_take (i := 5) (v := ?_) rfl (by kernel_rfl) (by kernel_rfl) (by kernel_rfl) (by kernel_rfl) (by kernel_rfl) (fun _ _ _ h => h) (Or.inl ⟨by rfl, ?_⟩) hb ?_
         rotate_left 1
         · intro wz hz; go_simp; try with_reducible rfl
         try simp only [Act.put, List.setIfInBounds_toArray, List.set_cons_zero, List.set_cons_succ]
         refine anyT_take (i := 6) (v := ?_) rfl (by kernel_rfl) (by kernel_rfl) (by kernel_rfl) (by kernel_rfl) (by kernel_rfl) (fun _ _ _ h => h) (Or.inl ⟨by rfl, ?_⟩) hb ?_
         rotate_left 1
         · intro wz hz; go_simp; try with_reducible rfl
         try simp only [Act.put, List.setIfInBounds_toArray, List.set_cons_zero, List.set_cons_succ]
         refine anyT_take (i := 7) (v := ?_) rfl (by kernel_rfl) (by kernel_rfl) (by kernel_rfl) (by kernel_rfl) (by kernel_rfl) (fun _ _ _ h => h) (Or.inl ⟨by rfl, ?_⟩) hb ?_
         rotate_left 1
         · intro wz hz; go_simp; try with_reducible rfl
         try simp only [Act.put, List.setIfInBounds_toArray, List.set_cons_zero, List.set_cons_succ]
         refine anyT_take (i := 8) (v := ?_) rfl (by kernel_rfl) (by kernel_rfl) (by kernel_rfl) (by kernel_rfl) (by kernel_rfl) (fun _ _ _ h => h) (Or.inl ⟨by rfl, ?_⟩) hb ?_
         rotate_left 1
         · intro wz hz; go_simp; try with_reducible rfl
         try simp only [Act.put, List.setIfInBounds_toArray, List.set_cons_zero, List.set_cons_succ]
         refine anyT_one (i := 11) (by kernel_rfl) rfl (fun K hK => ?_)
         have r0 := Bk13.c0
         have r1 := Bk13.c1
         have fr := Bk13.fr
         go_simp
         replace Bk13 := Bk13.set (.bool sgp) (.slice ap np cp)
         replace Bk14 := bx_off Bk14 hne (.bool sgp) (.slice ap np cp)
         replace Up := us_off Up Op13 (.bool sgp) (.slice ap np cp)
         replace Uo := us_off Uo Oo13 (.bool sgp) (.slice ap np cp)
         replace hb := below_put2 hb hk13 (.bool sgp) (.slice ap np cp)
         generalize (v41.setCell ⟨D.heap.size, 0, none⟩ (.bool sgp)).setCell ⟨D.heap.size, 1, none⟩ (.slice ap np cp) = v42 at hb Bk13 Bk14 Up Uo ⊢
         clear r0 r1 fr
         refine hK.out _ _ (fun _ => hb) ?_
         clear hK K
         try simp only [Act.put, List.setIfInBounds_toArray, List.set_cons_zero, List.set_cons_succ]
         refine anyT_one (i := 12) (by kernel_rfl) rfl (fun K hK => ?_)
         have r0 := Bk14.c0
         have r1 := Bk14.c1
         have fr := Bk14.fr
         go_simp
         replace Bk14 := Bk14.set (.bool sgo) (.slice ao no co)
         replace Bk13 := bx_off Bk13 (Ne.symm hne) (.bool sgo) (.slice ao no co)
         replace Up := us_off Up Op14 (.bool sgo) (.slice ao no co)
         replace Uo := us_off Uo Oo14 (.bool sgo) (.slice ao no co)
         replace hb := below_put2 hb hk14 (.bool sgo) (.slice ao no co)
         generalize (v42.setCell ⟨v29.heap.size, 0, none⟩ (.bool sgo)).setCell ⟨v29.heap.size, 1, none⟩ (.slice ao no co) = v43 at hb Bk13 Bk14 Up Uo ⊢
         clear r0 r1 fr
         refine hK.out _ _ (fun _ => hb) ?_
         clear hK K
         try simp only [Act.put, List.setIfInBounds_toArray, List.set_cons_zero, List.set_cons_succ]
         refine anyT_one (i := 13) (by kernel_rfl) rfl (fun K hK => ?_)
         go_simp
         refine hK.out _ _ (fun _ => hb) ?_
         clear hK K
         try simp only [Act.put, List.setIfInBounds_toArray, List.set_cons_zero, List.set_cons_succ]
         refine anyT_done (by kernel_rfl) ?_ _
         go_wp2_with fail
         go_meet
         exact ⟨_, _, sgp, ap, np, cp, fp, sgo, ao, no, co, fo, rfl, rfl, rfl, Bk13, Bk14, Up, Uo, Vp, Vo, by omega, by omega, hb⟩
     · go_simp
       have hk14 := hb.size
       replace hb := hb.alloc hb.size (.cells #[.bool false, .slice none 0 0] 24)
       have Bk14 := Bx.made D (.bool false) (.slice none 0 0) 24
       generalize D.alloc (.cells #[.bool false, .slice none 0 0] 24) = v44 at hb Bk14 ⊢
       refine hK.out _ _ (fun _ => hb) ?_
       clear hK K
       try simp only [Act.put, List.setIfInBounds_toArray, List.set_cons_zero, List.set_cons_succ]
       refine anyT_two (i := 2) (j := 9) (by kernel_rfl) rfl rfl (fun K hK => ?_) (fun K hK => ?_)
       · go_simp
         refine (add_any _ _ _ _ _ _ _ _ _ _ _ (by omega) (by omega) (UA.below hb (Nat.le_refl _)) (UB.below hb (Nat.le_refl _))).mono ?_
         rintro e v45 ⟨sgs1, as1, ns1, cs1, fs1, rfl, k1, _, kb, _, _, k6, Ls1⟩
         have Vs1 : Hid (ival sgs1 (val fs1 ns1) = A + B) := hid (by rw [k6, VA.out, VB.out])
         clear k6
         replace Bk14 := Bk14.keep kb
         replace hb := hb.trans (kb.mono hb.size)
         have Us1 := k1
         clear k1 kb
         refine hK.out _ _ (fun _ => hb) ?_
         clear hK K
         try simp only [Act.put, List.setIfInBounds_toArray, List.set_cons_zero, List.set_cons_succ]
         refine anyT_two (i := 4) (j := 9) (by kernel_rfl) rfl rfl (fun K hK => ?_) (fun K hK => ?_)
         · go_simp
           refine (divMod_both _ _ _ _ _ _ _ _ _ _ _ (by omega) (by omega) Us1 (UB.below hb (Nat.le_refl _))).mono ?_
           rintro e v46 ⟨sgp, ap, np, cp, fp, sgo, ao, no, co, fo, er2, rfl, k1, k2, kb, HD2, Lp, Lo, _, _, _, _, HN2⟩
           rw [Vs1.out, VB.out] at HD2
           obtain ⟨e1, e2, e3⟩ := dd_more HB.out HF.out HD2.out
           subst e3
           have Vp := hid e1
           have Vo := hid e2
           clear e1 e2 HD2
           have Op14 := Off.new HN2.out.1 Bk14.lt
           have Oo14 := Off.new HN2.out.2.1 Bk14.lt
           replace Bk14 := Bk14.keep kb
           replace hb := hb.trans (kb.mono hb.size)
           have Up := k1
           have Uo := k2
           clear k1 k2 kb HN2 Us1 Vs1
           refine hK.out _ _ (fun _ => hb) ?_
           clear hK K
           try simp only [Act.put, List.setIfInBounds_toArray, List.set_cons_zero, List.set_cons_succ]
           refine anyT_take (i := 5) (v := ?_) rfl (by kernel_rfl) (by kernel_rfl) (by kernel_rfl) (by kernel_rfl) (by kernel_rfl) (fun _ _ _ h => h) (Or.inl ⟨by rfl, ?_⟩) hb ?_
           rotate_left 1
           · intro wz hz; go_simp; try with_reducible rfl
           try simp only [Act.put, List.setIfInBounds_toArray, List.set_cons_zero, List.set_cons_succ]
           refine anyT_take (i := 6) (v := ?_) rfl (by kernel_rfl) (by kernel_rfl) (by kernel_rfl) (by kernel_rfl) (by kernel_rfl) (fun _ _ _ h => h) (Or.inl ⟨by rfl, ?_⟩) hb ?_
           rotate_left 1
           · intro wz hz; go_simp; try with_reducible rfl
           try simp only [Act.put, List.setIfInBounds_toArray, List.set_cons_zero, List.set_cons_succ]
           refine anyT_take (i := 7) (v := ?_) rfl (by kernel_rfl) (by kernel_rfl) (by kernel_rfl) (by kernel_rfl) (by kernel_rfl) (fun _ _ _ h => h) (Or.inl ⟨by rfl, ?_⟩) hb ?_
           rotate_left 1
           · intro wz hz; go_simp; try with_reducible rfl
           try simp only [Act.put, List.setIfInBounds_toArray, List.set_cons_zero, List.set_cons_succ]
           refine anyT_take (i := 8) (v := ?_) rfl (by kernel_rfl) (by kernel_rfl) (by kernel_rfl) (by kernel_rfl) (by kernel_rfl) (fun _ _ _ h => h) (Or.inl ⟨by rfl, ?_⟩) hb ?_
           rotate_left 1
           · intro wz hz; go_simp; try with_reducible rfl
           try simp only [Act.put, List.setIfInBounds_toArray, List.set_cons_zero, List.set_cons_succ]
           refine anyT_one (i := 9) (by kernel_rfl) rfl (fun K hK => ?_)
           go_simp
           have hk13 := hb.size
           have hne : D.heap.size ≠ v46.heap.size := Nat.ne_of_lt Bk14.lt
           have Op13 := Off.us Up (Nat.le_refl v46.heap.size)
           have Oo13 := Off.us Uo (Nat.le_refl v46.heap.size)
           replace Up := Up.alloc (.cells #[.bool false, .slice none 0 0] 24)
           replace Uo := Uo.alloc (.cells #[.bool false, .slice none 0 0] 24)
           replace hb := hb.alloc hb.size (.cells #[.bool false, .slice none 0 0] 24)
           have Bk13 := Bx.made v46 (.bool false) (.slice none 0 0) 24
           replace Bk14 := Bk14.alloc (.cells #[.bool false, .slice none 0 0] 24)
           generalize v46.alloc (.cells #[.bool false, .slice none 0 0] 24) = v47 at hb Bk13 Up Uo Bk14 ⊢
           refine hK.out _ _ (fun _ => hb) ?_
           clear hK K
           try simp only [Act.put, List.setIfInBounds_toArray, List.set_cons_zero, List.set_cons_succ]
           refine anyT_one (i := 11) (by kernel_rfl) rfl (fun K hK => ?_)
           have r0 := Bk13.c0
           have r1 := Bk13.c1
           have fr := Bk13.fr
           go_simp
           replace Bk13 := Bk13.set (.bool sgp) (.slice ap np cp)
           replace Bk14 := bx_off Bk14 (Ne.symm hne) (.bool sgp) (.slice ap np cp)
           replace Up := us_off Up Op13 (.bool sgp) (.slice ap np cp)
           replace Uo := us_off Uo Oo13 (.bool sgp) (.slice ap np cp)
           replace hb := below_put2 hb hk13 (.bool sgp) (.slice ap np cp)
           generalize (v47.setCell ⟨v46.heap.size, 0, none⟩ (.bool sgp)).setCell ⟨v46.heap.size, 1, none⟩ (.slice ap np cp) = v48 at hb Bk13 Bk14 Up Uo ⊢
           clear r0 r1 fr
           refine hK.out _ _ (fun _ => hb) ?_
           clear hK K
           try simp only [Act.put, List.setIfInBounds_toArray, List.set_cons_zero, List.set_cons_succ]
           refine anyT_one (i := 12) (by kernel_rfl) rfl (fun K hK => ?_)
           have r0 := Bk14.c0
           have r1 := Bk14.c1
           have fr := Bk14.fr
           go_simp
           replace Bk14 := Bk14.set (.bool sgo) (.slice ao no co)
           replace Bk13 := bx_off Bk13 hne (.bool sgo) (.slice ao no co)
           replace Up := us_off Up Op14 (.bool sgo) (.slice ao no co)
           replace Uo := us_off Uo Oo14 (.bool sgo) (.slice ao no co)
           replace hb := below_put2 hb hk14 (.bool sgo) (.slice ao no co)
           generalize (v48.setCell ⟨D.heap.size, 0, none⟩ (.bool sgo)).setCell ⟨D.heap.size, 1, none⟩ (.slice ao no co) = v49 at hb Bk13 Bk14 Up Uo ⊢
           clear r0 r1 fr
           refine hK.out _ _ (fun _ => hb) ?_
           clear hK K
           try simp only [Act.put, List.setIfInBounds_toArray, List.set_cons_zero, List.set_cons_succ]
           refine anyT_one (i := 13) (by kernel_rfl) rfl (fun K hK => ?_)
           go_simp
           refine hK.out _ _ (fun _ => hb) ?_
           clear hK K
           try simp only [Act.put, List.setIfInBounds_toArray, List.set_cons_zero, List.set_cons_succ]
           refine anyT_done (by kernel_rfl) ?_ _
           go_wp2_with fail
           go_meet
           exact ⟨_, _, sgp, ap, np, cp, fp, sgo, ao, no, co, fo, rfl, rfl, rfl, Bk13, Bk14, Up, Uo, Vp, Vo, by omega, by omega, hb⟩
         · go_simp
           have hk13 := hb.size
           have hne : D.heap.size ≠ v45.heap.size := Nat.ne_of_lt Bk14.lt
           replace Us1 := Us1.alloc (.cells #[.bool false, .slice none 0 0] 24)
           replace hb := hb.alloc hb.size (.cells #[.bool false, .slice none 0 0] 24)
           have Bk13 := Bx.made v45 (.bool false) (.slice none 0 0) 24
           replace Bk14 := Bk14.alloc (.cells #[.bool false, .slice none 0 0] 24)
           generalize v45.alloc (.cells #[.bool false, .slice none 0 0] 24) = v50 at hb Bk13 Us1 Bk14 ⊢
           refine hK.out _ _ (fun _ => hb) ?_
           clear hK K
           try simp only [Act.put, List.setIfInBounds_toArray, List.set_cons_zero, List.set_cons_succ]
           refine anyT_one (i := 4) (by kernel_rfl) rfl (fun K hK => ?_)
           go_simp
           refine (divMod_both _ _ _ _ _ _ _ _ _ _ _ (by omega) (by omega) Us1 (UB.below hb (Nat.le_refl _))).mono ?_
           rintro e v51 ⟨sgp, ap, np, cp, fp, sgo, ao, no, co, fo, er2, rfl, k1, k2, kb, HD2, Lp, Lo, _, _, _, _, HN2⟩
           rw [Vs1.out, VB.out] at HD2
           obtain ⟨e1, e2, e3⟩ := dd_more HB.out HF.out HD2.out
           subst e3
           have Vp := hid e1
           have Vo := hid e2
           clear e1 e2 HD2
           have Op14 := Off.new HN2.out.1 Bk14.lt
           have Oo14 := Off.new HN2.out.2.1 Bk14.lt
           replace Bk14 := Bk14.keep kb
           have Op13 := Off.new HN2.out.1 Bk13.lt
           have Oo13 := Off.new HN2.out.2.1 Bk13.lt
           replace Bk13 := Bk13.keep kb
           replace hb := hb.trans (kb.mono hb.size)
           have Up := k1
           have Uo := k2
           clear k1 k2 kb HN2 Us1 Vs1
           refine hK.out _ _ (fun _ => hb) ?_
           clear hK K
           try simp only [Act.put, List.setIfInBounds_toArray, List.set_cons_zero, List.set_cons_succ]
           refine anyT_take (i := 5) (v := ?_) rfl (by kernel_rfl) (by kernel_rfl) (by kernel_rfl) (by kernel_rfl) (by kernel_rfl) (fun _ _ _ h => h) (Or.inl ⟨by rfl, ?_⟩) hb ?_
           rotate_left 1
           · intro wz hz; go_simp; try with_reducible rfl
           try simp only [Act.put, List.setIfInBounds_toArray, List.set_cons_zero, List.set_cons_succ]
           refine anyT_take (i := 6) (v := ?_) rfl (by kernel_rfl) (by kernel_rfl) (by kernel_rfl) (by kernel_rfl) (by kernel_rfl) (fun _ _ _ h => h) (Or.inl ⟨by rfl, ?_⟩) hb ?_
           rotate_left 1
           · intro wz hz; go_simp; try with_reducible rfl
           try simp only [Act.put, List.setIfInBounds_toArray, List.set_cons_zero, List.set_cons_succ]
           refine anyT_take (i := 7) (v := ?_) rfl (by kernel_rfl) (by kernel_rfl) (by kernel_rfl) (by kernel_rfl) (by kernel_rfl) (fun _ _ _ h => h) (Or.inl ⟨by rfl, ?_⟩) hb ?_
           rotate_left 1
           · intro wz hz; go_simp; try with_reducible rfl
           try simp only [Act.put, List.setIfInBounds_toArray, List.set_cons_zero, List.set_cons_succ]
           refine anyT_take (i := 8) (v := ?_) rfl (by kernel_rfl) (by kernel_rfl) (by kernel_rfl) (by kernel_rfl) (by kernel_rfl) (fun _ _ _ h => h) (Or.inl ⟨by rfl, ?_⟩) hb ?_
           rotate_left 1
           · intro wz hz; go_simp; try with_reducible rfl
           try simp only [Act.put, List.setIfInBounds_toArray, List.set_cons_zero, List.set_cons_succ]
           refine anyT_one (i := 11) (by kernel_rfl) rfl (fun K hK => ?_)
           have r0 := Bk13.c0
           have r1 := Bk13.c1
           have fr := Bk13.fr
           go_simp
           replace Bk13 := Bk13.set (.bool sgp) (.slice ap np cp)
           replace Bk14 := bx_off Bk14 (Ne.symm hne) (.bool sgp) (.slice ap np cp)
           replace Up := us_off Up Op13 (.bool sgp) (.slice ap np cp)
           replace Uo := us_off Uo Oo13 (.bool sgp) (.slice ap np cp)
           replace hb := below_put2 hb hk13 (.bool sgp) (.slice ap np cp)
           generalize (v51.setCell ⟨v45.heap.size, 0, none⟩ (.bool sgp)).setCell ⟨v45.heap.size, 1, none⟩ (.slice ap np cp) = v52 at hb Bk13 Bk14 Up Uo ⊢
           clear r0 r1 fr
           refine hK.out _ _ (fun _ => hb) ?_
           clear hK K
           try simp only [Act.put, List.setIfInBounds_toArray, List.set_cons_zero, List.set_cons_succ]
           refine anyT_one (i := 12) (by kernel_rfl) rfl (fun K hK => ?_)
           have r0 := Bk14.c0
           have r1 := Bk14.c1
           have fr := Bk14.fr
           go_simp
           replace Bk14 := Bk14.set (.bool sgo) (.slice ao no co)
           replace Bk13 := bx_off Bk13 hne (.bool sgo) (.slice ao no co)
           replace Up := us_off Up Op14 (.bool sgo) (.slice ao no co)
           replace Uo := us_off Uo Oo14 (.bool sgo) (.slice ao no co)
           replace hb := below_put2 hb hk14 (.bool sgo) (.slice ao no co)
           generalize (v52.setCell ⟨D.heap.size, 0, none⟩ (.bool sgo)).setCell ⟨D.heap.size, 1, none⟩ (.slice ao no co) = v53 at hb Bk13 Bk14 Up Uo ⊢
           clear r0 r1 fr
           refine hK.out _ _ (fun _ => hb) ?_
           clear hK K
           try simp only [Act.put, List.setIfInBounds_toArray, List.set_cons_zero, List.set_cons_succ]
           refine anyT_one (i := 13) (by kernel_rfl) rfl (fun K hK => ?_)
           go_simp
           refine hK.out _ _ (fun _ => hb) ?_
           clear hK K
           try simp only [Act.put, List.setIfInBounds_toArray, List.set_cons_zero, List.set_cons_succ]
           refine anyT_done (by kernel_rfl) ?_ _
           go_wp2_with fail
           go_meet
           exact ⟨_, _, sgp, ap, np, cp, fp, sgo, ao, no, co, fo, rfl, rfl, rfl, Bk13, Bk14, Up, Uo, Vp, Vo, by omega, by omega, hb⟩
       · go_simp
         have hk13 := hb.size
         have hne : D.heap.size ≠ v44.heap.size := Nat.ne_of_lt Bk14.lt
         replace hb := hb.alloc hb.size (.cells #[.bool false, .slice none 0 0] 24)
         have Bk13 := Bx.made v44 (.bool false) (.slice none 0 0) 24
         replace Bk14 := Bk14.alloc (.cells #[.bool false, .slice none 0 0] 24)
         generalize v44.alloc (.cells #[.bool false, .slice none 0 0] 24) = v54 at hb Bk13 Bk14 ⊢
         refine hK.out _ _ (fun _ => hb) ?_
         clear hK K
         try simp only [Act.put, List.setIfInBounds_toArray, List.set_cons_zero, List.set_cons_succ]
         refine anyT_one (i := 2) (by kernel_rfl) rfl (fun K hK => ?_)
         go_simp
         refine (add_any _ _ _ _ _ _ _ _ _ _ _ (by omega) (by omega) (UA.below hb (Nat.le_refl _)) (UB.below hb (Nat.le_refl _))).mono ?_
         rintro e v55 ⟨sgs1, as1, ns1, cs1, fs1, rfl, k1, _, kb, _, _, k6, Ls1⟩
         have Vs1 : Hid (ival sgs1 (val fs1 ns1) = A + B) := hid (by rw [k6, VA.out, VB.out])
         clear k6
         replace Bk14 := Bk14.keep kb
         replace Bk13 := Bk13.keep kb
         replace hb := hb.trans (kb.mono hb.size)
         have Us1 := k1
         clear k1 kb
         refine hK.out _ _ (fun _ => hb) ?_
         clear hK K
         try simp only [Act.put, List.setIfInBounds_toArray, List.set_cons_zero, List.set_cons_succ]
         refine anyT_one (i := 4) (by kernel_rfl) rfl (fun K hK => ?_)
         go_simp
         refine (divMod_both _ _ _ _ _ _ _ _ _ _ _ (by omega) (by omega) Us1 (UB.below hb (Nat.le_refl _))).mono ?_
         rintro e v56 ⟨sgp, ap, np, cp, fp, sgo, ao, no, co, fo, er2, rfl, k1, k2, kb, HD2, Lp, Lo, _, _, _, _, HN2⟩
         rw [Vs1.out, VB.out] at HD2
         obtain ⟨e1, e2, e3⟩ := dd_more HB.out HF.out HD2.out
         subst e3
         have Vp := hid e1
         have Vo := hid e2
         clear e1 e2 HD2
         have Op14 := Off.new HN2.out.1 Bk14.lt
         have Oo14 := Off.new HN2.out.2.1 Bk14.lt
         replace Bk14 := Bk14.keep kb
         have Op13 := Off.new HN2.out.1 Bk13.lt
         have Oo13 := Off.new HN2.out.2.1 Bk13.lt
         replace Bk13 := Bk13.keep kb
         replace hb := hb.trans (kb.mono hb.size)
         have Up := k1
         have Uo := k2
         clear k1 k2 kb HN2 Us1 Vs1
         refine hK.out _ _ (fun _ => hb) ?_
         clear hK K
         try simp only [Act.put, List.setIfInBounds_toArray, List.set_cons_zero, List.set_cons_succ]
         refine anyT_take (i := 5) (v := ?_) rfl (by kernel_rfl) (by kernel_rfl) (by kernel_rfl) (by kernel_rfl) (by kernel_rfl) (fun _ _ _ h => h) (Or.inl ⟨by rfl, ?_⟩) hb ?_
         rotate_left 1
         · intro wz hz; go_simp; try with_reducible rfl
         try simp only [Act.put, List.setIfInBounds_toArray, List.set_cons_zero, List.set_cons_succ]
         refine anyT_take (i := 6) (v := ?_) rfl (by kernel_rfl) (by kernel_rfl) (by kernel_rfl) (by kernel_rfl) (by kernel_rfl) (fun _ _ _ h => h) (Or.inl ⟨by rfl, ?_⟩) hb ?_
         rotate_left 1
         · intro wz hz; go_simp; try with_reducible rfl
         try simp only [Act.put, List.setIfInBounds_toArray, List.set_cons_zero, List.set_cons_succ]
         refine anyT_take (i := 7) (v := ?_) rfl (by kernel_rfl) (by kernel_rfl) (by kernel_rfl) (by kernel_rfl) (by kernel_rfl) (fun _ _ _ h => h) (Or.inl ⟨by rfl, ?_⟩) hb ?_
         rotate_left 1
         · intro wz hz; go_simp; try with_reducible rfl
         try simp only [Act.put, List.setIfInBounds_toArray, List.set_cons_zero, List.set_cons_succ]
         refine anyT_take (i := 8) (v := ?_) rfl (by kernel_rfl) (by kernel_rfl) (by kernel_rfl) (by kernel_rfl) (by kernel_rfl) (fun _ _ _ h => h) (Or.inl ⟨by rfl, ?_⟩) hb ?_
         rotate_left 1
         · intro wz hz; go_simp; try with_reducible rfl
         try simp only [Act.put, List.setIfInBounds_toArray, List.set_cons_zero, List.set_cons_succ]
         refine anyT_one (i := 11) (by kernel_rfl) rfl (fun K hK => ?_)
         have r0 := Bk13.c0
         have r1 := Bk13.c1
         have fr := Bk13.fr
         go_simp
         replace Bk13 := Bk13.set (.bool sgp) (.slice ap np cp)
         replace Bk14 := bx_off Bk14 (Ne.symm hne) (.bool sgp) (.slice ap np cp)
         replace Up := us_off Up Op13 (.bool sgp) (.slice ap np cp)
         replace Uo := us_off Uo Oo13 (.bool sgp) (.slice ap np cp)
         replace hb := below_put2 hb hk13 (.bool sgp) (.slice ap np cp)
         generalize (v56.setCell ⟨v44.heap.size, 0, none⟩ (.bool sgp)).setCell ⟨v44.heap.size, 1, none⟩ (.slice ap np cp) = v57 at hb Bk13 Bk14 Up Uo ⊢
         clear r0 r1 fr
         refine hK.out _ _ (fun _ => hb) ?_
         clear hK K
         try simp only [Act.put, List.setIfInBounds_toArray, List.set_cons_zero, List.set_cons_succ]
         refine anyT_one (i := 12) (by kernel_rfl) rfl (fun K hK => ?_)
         have r0 := Bk14.c0
         have r1 := Bk14.c1
         have fr := Bk14.fr
         go_simp
         replace Bk14 := Bk14.set (.bool sgo) (.slice ao no co)
         replace Bk13 := bx_off Bk13 hne (.bool sgo) (.slice ao no co)
         replace Up := us_off Up Op14 (.bool sgo) (.slice ao no co)
         replace Uo := us_off Uo Oo14 (.bool sgo) (.slice ao no co)
         replace hb := below_put2 hb hk14 (.bool sgo) (.slice ao no co)
         generalize (v57.setCell ⟨D.heap.size, 0, none⟩ (.bool sgo)).setCell ⟨D.heap.size, 1, none⟩ (.slice ao no co) = v58 at hb Bk13 Bk14 Up Uo ⊢
         clear r0 r1 fr
         refine hK.out _ _ (fun _ => hb) ?_
         clear hK K
         try simp only [Act.put, List.setIfInBounds_toArray, List.set_cons_zero, List.set_cons_succ]
         refine anyT_one (i := 13) (by kernel_rfl) rfl (fun K hK => ?_)
         go_simp
         refine hK.out _ _ (fun _ => hb) ?_
         clear hK K
         try simp only [Act.put, List.setIfInBounds_toArray, List.set_cons_zero, List.set_cons_succ]
         refine anyT_done (by kernel_rfl) ?_ _
         go_wp2_with fail
         go_meet
         exact ⟨_, _, sgp, ap, np, cp, fp, sgo, ao, no, co, fo, rfl, rfl, rfl, Bk13, Bk14, Up, Uo, Vp, Vo, by omega, by omega, hb⟩
    case rest =>
     obtain ⟨k13, k14, sgmo, amo, nmo, cmo, fmo, sgle, ale, nle, cle, fle, rfl, rfl, rfl, Bmo, Ble, Umo, Ule, Vmo, Vle, Lmo, Lle, kbc⟩ := hcut
     replace BA := BA.keep kbc
     replace BB := BB.keep kbc
     replace Bq := Bq.keep kbc
     replace Br := Br.keep kbc
     replace UA := UA.below kbc (Nat.le_refl _)
     replace UB := UB.below kbc (Nat.le_refl _)
     replace Uq := Uq.below kbc (Nat.le_refl _)
     replace Ur := Ur.below kbc (Nat.le_refl _)
     replace Hw := Hw.trans (kbc.mono Hw.size)
     clear kbc hD
     have rA0 := BA.c0
     have rA1 := BA.c1
     have rB0 := BB.c0
     have rB1 := BB.c1
     have rq0 := Bq.c0
     have rq1 := Bq.c1
     have rr0 := Br.c0
     have rr1 := Br.c1
     have rmo0 := Bmo.c0
     have rmo1 := Bmo.c1
     have rle0 := Ble.c0
     have rle1 := Ble.c1
     go_wp2_with fail
     clear rA0 rA1 rB0 rB1 rq0 rq1 rr0 rr1 rmo0 rmo1 rle0 rle1
     refine (sub_any _ _ _ _ _ _ _ _ _ _ _ (by omega) (by omega) Umo Uq).mono ?_
     rintro e w13 ⟨sgdf, adf, ndf, cdf, fdf, rfl, k1, k2, kb13, k4, k5, k6, Ldf⟩
     have Vdf : Hid (ival sgdf (val fdf ndf) = Z + 1 - Z) := hid (by rw [k6, Vmo.out, Vq.out])
     have Mdf := k4
     have Sdf := hid k5
     clear k6 k5 k4 k2
     replace BA := BA.keep kb13
     replace BB := BB.keep kb13
     replace Bq := Bq.keep kb13
     replace Br := Br.keep kb13
     replace Bmo := Bmo.keep kb13
     replace Ble := Ble.keep kb13
     replace UA := UA.below kb13 (Nat.le_refl _)
     replace UB := UB.below kb13 (Nat.le_refl _)
     replace Uq := Uq.below kb13 (Nat.le_refl _)
     replace Ur := Ur.below kb13 (Nat.le_refl _)
     replace Umo := Umo.below kb13 (Nat.le_refl _)
     replace Ule := Ule.below kb13 (Nat.le_refl _)
     replace Hw := Hw.trans (kb13.mono Hw.size)
     have Udf := k1
     clear k1
     clear kb13
     have rA0 := BA.c0
     have rA1 := BA.c1
     have rB0 := BB.c0
     have rB1 := BB.c1
     have rq0 := Bq.c0
     have rq1 := Bq.c1
     have rr0 := Br.c0
     have rr1 := Br.c1
     have rmo0 := Bmo.c0
     have rmo1 := Bmo.c1
     have rle0 := Ble.c0
     have rle1 := Ble.c1
     go_wp2_with fail
     clear rA0 rA1 rB0 rB1 rq0 rq1 rr0 rr1 rmo0 rmo1 rle0 rle1
     refine (of_any _ _ (by omega) (by omega)).mono ?_
     rintro e w14 ⟨sgon, aon, non, con, fon, rfl, k1, k2, kb14, k4, k5, k6, Lon⟩
     have Von : Hid (ival sgon (val fon non) = 1) := hid (by rw [k6])
     have Mon := k4
     have Son := hid k5
     clear k6 k5 k4 k2
     replace BA := BA.keep kb14
     replace BB := BB.keep kb14
     replace Bq := Bq.keep kb14
     replace Br := Br.keep kb14
     replace Bmo := Bmo.keep kb14
     replace Ble := Ble.keep kb14
     replace UA := UA.below kb14 (Nat.le_refl _)
     replace UB := UB.below kb14 (Nat.le_refl _)
     replace Uq := Uq.below kb14 (Nat.le_refl _)
     replace Ur := Ur.below kb14 (Nat.le_refl _)
     replace Umo := Umo.below kb14 (Nat.le_refl _)
     replace Ule := Ule.below kb14 (Nat.le_refl _)
     replace Udf := Udf.below kb14 (Nat.le_refl _)
     replace Hw := Hw.trans (kb14.mono Hw.size)
     have Uon := k1
     clear k1
     clear kb14
     have rA0 := BA.c0
     have rA1 := BA.c1
     have rB0 := BB.c0
     have rB1 := BB.c1
     have rq0 := Bq.c0
     have rq1 := Bq.c1
     have rr0 := Br.c0
     have rr1 := Br.c1
     have rmo0 := Bmo.c0
     have rmo1 := Bmo.c1
     have rle0 := Ble.c0
     have rle1 := Ble.c1
     go_wp2_with fail
     clear rA0 rA1 rB0 rB1 rq0 rq1 rr0 rr1 rmo0 rmo1 rle0 rle1
     refine (cmp_any _ _ _ _ _ _ _ _ _ _ _ (by omega) (by omega) Udf Uon).mono ?_
     rintro e w15 ⟨rfl, kb15⟩
     rw [Vdf.out, Von.out, cmpI_eq (show Z + 1 - Z = 1 by omega)]
     replace BA := BA.keep kb15
     replace BB := BB.keep kb15
     replace Bq := Bq.keep kb15
     replace Br := Br.keep kb15
     replace Bmo := Bmo.keep kb15
     replace Ble := Ble.keep kb15
     replace UA := UA.below kb15 (Nat.le_refl _)
     replace UB := UB.below kb15 (Nat.le_refl _)
     replace Uq := Uq.below kb15 (Nat.le_refl _)
     replace Ur := Ur.below kb15 (Nat.le_refl _)
     replace Umo := Umo.below kb15 (Nat.le_refl _)
     replace Ule := Ule.below kb15 (Nat.le_refl _)
     replace Udf := Udf.below kb15 (Nat.le_refl _)
     replace Uon := Uon.below kb15 (Nat.le_refl _)
     replace Hw := Hw.trans (kb15.mono Hw.size)
     clear kb15
     clear Udf
     clear Uon
     have rA0 := BA.c0
     have rA1 := BA.c1
     have rB0 := BB.c0
     have rB1 := BB.c1
     have rq0 := Bq.c0
     have rq1 := Bq.c1
     have rr0 := Br.c0
     have rr1 := Br.c1
     have rmo0 := Bmo.c0
     have rmo1 := Bmo.c1
     have rle0 := Ble.c0
     have rle1 := Ble.c1
     go_wp2_with fail
     clear rA0 rA1 rB0 rB1 rq0 rq1 rr0 rr1 rmo0 rmo1 rle0 rle1
     refine (cmp_any _ _ _ _ _ _ _ _ _ _ _ (by omega) (by omega) Ule Ur).mono ?_
     rintro e w16 ⟨rfl, kb16⟩
     rw [Vle.out, Vr.out, cmpI_eq (rfl : R = R)]
     replace BA := BA.keep kb16
     replace BB := BB.keep kb16
     replace Bq := Bq.keep kb16
     replace Br := Br.keep kb16
     replace Bmo := Bmo.keep kb16
     replace Ble := Ble.keep kb16
     replace UA := UA.below kb16 (Nat.le_refl _)
     replace UB := UB.below kb16 (Nat.le_refl _)
     replace Uq := Uq.below kb16 (Nat.le_refl _)
     replace Ur := Ur.below kb16 (Nat.le_refl _)
     replace Umo := Umo.below kb16 (Nat.le_refl _)
     replace Ule := Ule.below kb16 (Nat.le_refl _)
     replace Hw := Hw.trans (kb16.mono Hw.size)
     clear kb16
     rcases SR.out with rfl | rfl
     · go_wp2_with fail
       go_ret
       exact ⟨rfl, Hw⟩
     · go_wp2_with fail
       go_ret
       exact ⟨rfl, Hw⟩
end Go.Proofs.YticfggljaagcmaaDoor
