/-
  The law's awake and is, walked.
-/
import Derived.Test.YticfggljaagcmaaDoorTextsB
import Derived.Test.YticfggljaagcmaaDoorDivMod
import Derived.Test.YticfggljaagcmaaDoorRInts3
import Derived.Test.YticfggljaagcmaaDoorROf
namespace Go.Proofs.YticfggljaagcmaaDoor
set_option linter.all false
open Go.RowKit

set_option maxHeartbeats 1000000 in
theorem lis_any (neg neg' : Bool) (a a' : Option Addr) (n c n' c' : Nat) (f g : Nat → Nat) (w : World) (hn : n ≤ 1099511627776) (hn' : n' ≤ 1099511627776) (hu : Us w a n c f) (hu' : Us w a' n' c' g) :
    Calls Tryd.prog 13 #[.agg #[.bool neg, .slice a n c], .agg #[.bool neg', .slice a' n' c']] w fun e w' => e = .returned (.bool (stB neg f n && decide (ival neg (val f n) = ival neg' (val g n')))) ∧ Below w.heap.size w w' := by
  go_enter Tryd.func13, Tryd.ntmps13
  go_wp2_with (go_at_call 48; refine (is_any _ _ _ _ _ _ _ _ _ _ _ (by omega) (by omega) (hu.alloc2 _ _) (hu'.alloc2 _ _)).mono ?_; rintro e w1 ⟨rfl, k3⟩)
  go_ret
  exact ⟨rfl, (below_alloc2 w _ _).trans (k3.mono (by simp; omega))⟩

theorem Bx.made2 (w : World) (x0 x1 y0 y1 : Value) (T : TypeId) : Bx ((w.alloc (.cells #[x0, x1] T)).alloc (.cells #[y0, y1] T)) (w.heap.size + 1) y0 y1 := by
  simpa using Bx.made (w.alloc (.cells #[x0, x1] T)) y0 y1 T
theorem txt_12 : txt (-3 * -4294967296) = [49, 50, 56, 56, 52, 57, 48, 49, 56, 56, 56] := by
  have h : Lib.decDigits 12884901888 = [49, 50, 56, 56, 52, 57, 48, 49, 56, 56, 56] := by
    rw [← trim_dig 11 12884901888 (by decide) (by decide)]; decide
  rw [show (-3 : Int) * -4294967296 = 12884901888 by decide]
  unfold txt
  rw [if_neg (by decide), show (12884901888 : Int).natAbs = 12884901888 from rfl, h]

set_option maxHeartbeats 4000000 in
theorem awake_any (w : World) :
    Calls Tryd.prog 10 #[] w fun e w' => e = .returned (.bool true) ∧ Below w.heap.size w w' := by
  go_enter Tryd.func10, Tryd.ntmps10
  go_wp2_with fail
  refine (of_any _ _ (by omega) (by omega)).mono ?_
  rintro e w1 ⟨sga, aa, na, ca, fa, rfl, a1, a2, a3, a4, a5, a6, a7⟩
  have A6 := hid a6
  have A5 := hid a5
  clear a5 a6
  go_wp2_with fail
  refine (of_any _ _ (by omega) (by omega)).mono ?_
  rintro e w2 ⟨sgb, ab, nb, cb, fb, rfl, b1, b2, b3, b4, b5, b6, b7⟩
  have B6 := hid b6
  have B5 := hid b5
  clear b5 b6
  go_wp2_with fail
  have hpos : 0 < val fb nb := by
    have := B6.out
    cases sgb <;> simp [ival] at this <;> omega
  refine (divMod_any _ _ _ _ _ _ _ _ _ _ _ (by omega) (by omega) (a1.below b3 (Nat.le_refl _)) b1 hpos).mono ?_
  rintro e w3 ⟨sgq, aq, nq, cq, fq, sgr, ar, nr, cr, fr, rfl, q1, q2, r1, r2, d3, q4, q5, r4, r5, hfd, q7, r7, hap⟩
  have HQ : Hid (ival sgq (val fq nq) = -4 ∧ ival sgr (val fr nr) = 1) := by
    have h1 := hfd
    rw [A6.out, B6.out] at h1
    unfold FD at h1
    refine hid ?_
    omega
  have Q5 := hid q5
  have R5 := hid r5
  clear hfd q5 r5
  have hb3 : Below w.heap.size w w3 := (a3.trans (b3.mono a3.size)).trans (d3.mono (Nat.le_trans a3.size b3.size))
  have Bq := (Bx.made w3 (.bool sgq) (.slice aq nq cq) 24).alloc (.cells #[.bool sgr, .slice ar nr cr] 24)
  have Br := Bx.made2 w3 (.bool sgq) (.slice aq nq cq) (.bool sgr) (.slice ar nr cr) 24
  have Uq := q1.alloc2 (.cells #[.bool sgq, .slice aq nq cq] 24) (.cells #[.bool sgr, .slice ar nr cr] 24)
  have Ur := r1.alloc2 (.cells #[.bool sgq, .slice aq nq cq] 24) (.cells #[.bool sgr, .slice ar nr cr] 24)
  have hb4 := hb3.trans ((below_alloc2 w3 (.cells #[.bool sgq, .slice aq nq cq] 24) (.cells #[.bool sgr, .slice ar nr cr] 24)).mono hb3.size)
  clear q1 q2 r1 r2 hb3 d3 a1 a2 a3 b1 b2 b3 hap
  go_wp2_with fail
  generalize ((w3.alloc (.cells #[.bool sgq, .slice aq nq cq] 24)).alloc (.cells #[.bool sgr, .slice ar nr cr] 24)) = w4 at Bq Br Uq Ur hb4 ⊢
  refine (parse_good [126, 52, 50, 57, 52, 57, 54, 55, 50, 57, 54] _ (-4294967296) (by decide) (by decide)).mono ?_
  rintro e w5 ⟨sgn, an, nn, cn, fn, rfl, n1, n2, n3, n4, n5, n6, n7⟩
  have N6 := hid n6
  have N5 := hid n5
  clear n5 n6
  have Bq5 := (Bq.keep n3).alloc (.cells #[.bool sgn, .slice an nn cn] 24)
  have Br5 := (Br.keep n3).alloc (.cells #[.bool sgn, .slice an nn cn] 24)
  have Bn5 := Bx.made w5 (.bool sgn) (.slice an nn cn) 24
  have Uq5 := (Uq.below n3 (Nat.le_refl _)).alloc (.cells #[.bool sgn, .slice an nn cn] 24)
  have Ur5 := (Ur.below n3 (Nat.le_refl _)).alloc (.cells #[.bool sgn, .slice an nn cn] 24)
  have Un5 := n1.alloc (.cells #[.bool sgn, .slice an nn cn] 24)
  have hb5 := hb4.trans ((n3.trans ((below_alloc w5 (.cells #[.bool sgn, .slice an nn cn] 24)).mono n3.size)).mono hb4.size)
  clear Bq Br Uq Ur hb4 n1 n2 n3
  go_wp2_with fail
  generalize (w5.alloc (.cells #[.bool sgn, .slice an nn cn] 24)) = w6 at Bq5 Br5 Bn5 Uq5 Ur5 Un5 hb5 ⊢
  have tk1 : True := trivial
  have tk2 : True := trivial
  have tk3 : True := trivial
  simp at n7
  go_region_held3 (fun wx => wx.cell? ⟨w5.heap.size, 0, none⟩ = some (.bool sgn) ∧ wx.cell? ⟨w5.heap.size, 1, none⟩ = some (.slice an nn cn)) (with_reducible first | exact ⟨Bn5.drew.c0, Bn5.drew.c1⟩ | exact ⟨Bn7.c0, Bn7.c1⟩ | exact ⟨Bn8.c0, Bn8.c1⟩ | exact ⟨Bn9.c0, Bn9.c1⟩) (first
    | (have _t := tk1; go_at_call 28; refine (of_any _ _ (by omega) (by omega)).mono ?_; rintro e w7 ⟨sgc, ac, nc, cc, fc, rfl, c1, c2, c3, c4, c5, c6, c7⟩; have C6 := hid c6; clear c5 c6 tk1; have Bn7 := Bn5.drew.keep c3)
    | (have _t := tk2; go_at_call 26; refine (mul_any _ _ _ _ _ _ _ _ _ _ _ (by omega) (by omega) c1 (Un5.drew.below c3 (Nat.le_refl _))).mono ?_; rintro e w8 ⟨sgd, ad, nd, cd, fd, rfl, d1, d2, d3, d4, d5, d6, d7⟩; have D6 := hid d6; clear d5 d6 tk2; have Bn8 := Bn7.keep d3)
    | (have _t := tk3; go_at_call 16; refine (text_any _ _ _ _ _ _ (by omega) d1).mono ?_; rintro e w9 ⟨rfl, e3⟩; have Bn9 := Bn8.keep e3; rw [show txt (ival sgd (val fd nd)) = [49, 50, 56, 56, 52, 57, 48, 49, 56, 56, 56] from (by rw [D6.out, C6.out, N6.out]; exact txt_12)]; clear tk3))
  have Bq9 := ((Bq5.drew.keep c3).keep d3).keep e3
  have Br9 := ((Br5.drew.keep c3).keep d3).keep e3
  have Uq9 := ((Uq5.drew.below c3 (Nat.le_refl _)).below d3 (Nat.le_refl _)).below e3 (Nat.le_refl _)
  have Ur9 := ((Ur5.drew.below c3 (Nat.le_refl _)).below d3 (Nat.le_refl _)).below e3 (Nat.le_refl _)
  have hb7 := hb5.drew.trans (c3.mono hb5.size)
  have hb8 := hb7.trans (d3.mono hb7.size)
  have hb9 := hb8.trans (e3.mono hb8.size)
  clear Bq5 Br5 Bn5 Uq5 Ur5 Un5 hb5 hb7 hb8 c1 c2 c3 d1 d2 d3 e3 Bn7 Bn8 Bn9
  have tk1 : True := trivial
  have tk2 : True := trivial
  have tk3 : True := trivial
  have tk4 : True := trivial
  go_wp2_with fail
  go_region_held3 (fun wx => (wx.cell? ⟨w3.heap.size, 0, none⟩ = some (.bool sgq) ∧ wx.cell? ⟨w3.heap.size, 1, none⟩ = some (.slice aq nq cq)) ∧ (wx.cell? ⟨w3.heap.size + 1, 0, none⟩ = some (.bool sgr) ∧ wx.cell? ⟨w3.heap.size + 1, 1, none⟩ = some (.slice ar nr cr))) (with_reducible first | exact ⟨⟨Bq9.drew.c0, Bq9.drew.c1⟩, ⟨Br9.drew.c0, Br9.drew.c1⟩⟩ | exact ⟨⟨Bq10.c0, Bq10.c1⟩, ⟨Br10.c0, Br10.c1⟩⟩ | exact ⟨⟨Bq11.c0, Bq11.c1⟩, ⟨Br11.c0, Br11.c1⟩⟩ | exact ⟨⟨Bq12.c0, Bq12.c1⟩, ⟨Br12.c0, Br12.c1⟩⟩ | exact ⟨⟨Bq13.c0, Bq13.c1⟩, ⟨Br13.c0, Br13.c1⟩⟩) (first
    | (have _t := tk1; go_at_call 31; refine (rof_any _ _ (by omega) (by omega)).mono ?_; rintro e w10 ⟨sgf, af, nf, cf, ff, rfl, f1, f2, f3, f4, f5, f6, f7⟩; have F6 := hid f6; clear f5 f6 tk1; have Bq10 := Bq9.drew.keep f3; have Br10 := Br9.drew.keep f3)
    | (have _t := tk2; go_at_call 13; refine (lis_any _ _ _ _ _ _ _ _ _ _ _ (by omega) (by omega) (Uq9.drew.below f3 (Nat.le_refl _)) f1).mono ?_; rintro e w11 ⟨rfl, g3⟩; rw [stB_iff.2 ⟨q4, Q5.out⟩, F6.out, HQ.out.1]; clear tk2; have Bq11 := Bq10.keep g3; have Br11 := Br10.keep g3)
    | (have _t := tk3; go_at_call 31; refine (rof_any _ _ (by omega) (by omega)).mono ?_; rintro e w12 ⟨sgh, ah, nh, ch, fh, rfl, h1, h2, h3, h4, h5, h6, h7⟩; have H6 := hid h6; clear h5 h6 tk3; have Bq12 := Bq11.keep h3; have Br12 := Br11.keep h3)
    | (have _t := tk4; go_at_call 13; refine (lis_any _ _ _ _ _ _ _ _ _ _ _ (by omega) (by omega) (((Ur9.drew.below f3 (Nat.le_refl _)).below g3 (Nat.le_refl _)).below h3 (Nat.le_refl _)) h1).mono ?_; rintro e w13 ⟨rfl, i3⟩; rw [stB_iff.2 ⟨r4, R5.out⟩, H6.out, HQ.out.2]; clear tk4; have Bq13 := Bq12.keep i3; have Br13 := Br12.keep i3))
  go_wp2_with fail
  go_ret
  have hb10 := hb9.drew.trans (f3.mono hb9.size)
  have hb11 := hb10.trans (g3.mono hb10.size)
  have hb12 := hb11.trans (h3.mono hb11.size)
  exact ⟨rfl, hb12.trans (i3.mono hb12.size)⟩
end Go.Proofs.YticfggljaagcmaaDoor
