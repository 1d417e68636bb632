/-
  BigMemory, walked.
-/
import Derived.Test.YticfggljaagcmaaDoorLent2
import Derived.Test.YticfggljaagcmaaDoorRMod
import Derived.Test.YticfggljaagcmaaDoorROf
namespace Go.Proofs.YticfggljaagcmaaDoor
set_option linter.all false
open Go.RowKit

set_option maxHeartbeats 16000000 in
set_option maxRecDepth 100000 in
theorem bigMemory_walk (sgA : Bool) (aA : Option Addr) (nA cA : Nat) (fA : Nat → Nat) (sgB : Bool) (aB : Option Addr) (nB cB : Nat) (fB : Nat → Nat) (w : World) (hA : nA ≤ 1048576) (UA : Us w aA nA cA fA) (hB : nB ≤ 1048576) (UB : Us w aB nB cB fB) :
    Calls Tryd.prog 5 #[.agg #[.bool sgA, .slice aA nA cA], .agg #[.bool sgB, .slice aB nB cB]] w fun e w' => e = .returned (.bool true) ∧ Below w.heap.size w w' := by
  have Hw := Below.refl w.heap.size w
  obtain ⟨A, VA⟩ : ∃ A : Int, Hid (ival sgA (val fA nA) = A) := ⟨_, hid rfl⟩
  obtain ⟨B, VB⟩ : ∃ B : Int, Hid (ival sgB (val fB nB) = B) := ⟨_, hid rfl⟩
  obtain ⟨sB, SB⟩ : ∃ s : Int, Hid (sgn B = s) := ⟨_, hid rfl⟩
  have BA : Bx (w.alloc (.cells #[.bool sgA, .slice aA nA cA] 24)) (w.heap.size) (.bool sgA) (.slice aA nA cA) := by exact Bx.made w (.bool sgA) (.slice aA nA cA) 24
  replace BA := BA.alloc (.cells #[.bool sgB, .slice aB nB cB] 24)
  have BB : Bx ((w.alloc (.cells #[.bool sgA, .slice aA nA cA] 24)).alloc (.cells #[.bool sgB, .slice aB nB cB] 24)) (w.heap.size + 1) (.bool sgB) (.slice aB nB cB) := by simpa using Bx.made (w.alloc (.cells #[.bool sgA, .slice aA nA cA] 24)) (.bool sgB) (.slice aB nB cB) 24
  replace UA := UA.alloc (.cells #[.bool sgA, .slice aA nA cA] 24)
  replace UA := UA.alloc (.cells #[.bool sgB, .slice aB nB cB] 24)
  replace UB := UB.alloc (.cells #[.bool sgA, .slice aA nA cA] 24)
  replace UB := UB.alloc (.cells #[.bool sgB, .slice aB nB cB] 24)
  replace Hw := Hw.alloc (Nat.le_refl _) (.cells #[.bool sgA, .slice aA nA cA] 24)
  replace Hw := Hw.alloc (by simp) (.cells #[.bool sgB, .slice aB nB cB] 24)
  go_enter Tryd.func5, Tryd.ntmps5
  go_wp2_with fail
  generalize ((w.alloc (.cells #[.bool sgA, .slice aA nA cA] 24)).alloc (.cells #[.bool sgB, .slice aB nB cB] 24)) = w1 at BA BB UA UB Hw ⊢
  refine (awake_any _).mono ?_
  rintro e w2 ⟨rfl, kb2⟩
  replace BA := BA.keep kb2
  replace BB := BB.keep kb2
  replace UA := UA.below kb2 (Nat.le_refl _)
  replace UB := UB.below kb2 (Nat.le_refl _)
  replace Hw := Hw.trans (kb2.mono Hw.size)
  clear kb2
  have rA0 := BA.c0
  have rA1 := BA.c1
  have rB0 := BB.c0
  have rB1 := BB.c1
  go_wp2_with fail
  clear rA0 rA1 rB0 rB1
  refine (lent_any _ _ _ _ _ _ (by omega) UA).mono ?_
  rintro e w3 ⟨aea, fea, rfl, k1, _, kb3, Hea⟩
  have Vea : Hid (ival sgA (val fea nA) = A) := hid (by rw [val_congr Hea.out.1]; exact VA.out)
  replace BA := BA.keep kb3
  replace BB := BB.keep kb3
  replace UA := UA.below kb3 (Nat.le_refl _)
  replace UB := UB.below kb3 (Nat.le_refl _)
  replace Hw := Hw.trans (kb3.mono Hw.size)
  have Uea := k1
  clear k1 kb3
  have Nea := Bx.made w3 (.bool sgA) (.slice aea nA (nA + 2)) 24
  replace BA := BA.alloc (.cells #[.bool sgA, .slice aea nA (nA + 2)] 24)
  replace BB := BB.alloc (.cells #[.bool sgA, .slice aea nA (nA + 2)] 24)
  replace UA := UA.alloc (.cells #[.bool sgA, .slice aea nA (nA + 2)] 24)
  replace UB := UB.alloc (.cells #[.bool sgA, .slice aea nA (nA + 2)] 24)
  replace Uea := Uea.alloc (.cells #[.bool sgA, .slice aea nA (nA + 2)] 24)
  replace Hw := Hw.alloc Hw.size (.cells #[.bool sgA, .slice aea nA (nA + 2)] 24)
  have Bea := Nea
  clear Nea
  have rA0 := BA.c0
  have rA1 := BA.c1
  have rB0 := BB.c0
  have rB1 := BB.c1
  have rea0 := Bea.c0
  have rea1 := Bea.c1
  go_wp2_with fail
  clear rA0 rA1 rB0 rB1 rea0 rea1
  generalize (w3.alloc (.cells #[.bool sgA, .slice aea nA (nA + 2)] 24)) = w4 at BA BB Bea UA UB Uea Hw ⊢
  refine (lent_any _ _ _ _ _ _ (by omega) UB).mono ?_
  rintro e w5 ⟨aeb, feb, rfl, k1, _, kb5, Heb⟩
  have Veb : Hid (ival sgB (val feb nB) = B) := hid (by rw [val_congr Heb.out.1]; exact VB.out)
  replace BA := BA.keep kb5
  replace BB := BB.keep kb5
  replace Bea := Bea.keep kb5
  replace UA := UA.below kb5 (Nat.le_refl _)
  replace UB := UB.below kb5 (Nat.le_refl _)
  replace Uea := Uea.below kb5 (Nat.le_refl _)
  replace Hw := Hw.trans (kb5.mono Hw.size)
  have Ueb := k1
  clear k1 kb5
  have Neb := Bx.made w5 (.bool sgB) (.slice aeb nB (nB + 2)) 24
  replace BA := BA.alloc (.cells #[.bool sgB, .slice aeb nB (nB + 2)] 24)
  replace BB := BB.alloc (.cells #[.bool sgB, .slice aeb nB (nB + 2)] 24)
  replace Bea := Bea.alloc (.cells #[.bool sgB, .slice aeb nB (nB + 2)] 24)
  replace UA := UA.alloc (.cells #[.bool sgB, .slice aeb nB (nB + 2)] 24)
  replace UB := UB.alloc (.cells #[.bool sgB, .slice aeb nB (nB + 2)] 24)
  replace Uea := Uea.alloc (.cells #[.bool sgB, .slice aeb nB (nB + 2)] 24)
  replace Ueb := Ueb.alloc (.cells #[.bool sgB, .slice aeb nB (nB + 2)] 24)
  replace Hw := Hw.alloc Hw.size (.cells #[.bool sgB, .slice aeb nB (nB + 2)] 24)
  have Beb := Neb
  clear Neb
  have rA0 := BA.c0
  have rA1 := BA.c1
  have rB0 := BB.c0
  have rB1 := BB.c1
  have rea0 := Bea.c0
  have rea1 := Bea.c1
  have reb0 := Beb.c0
  have reb1 := Beb.c1
  go_wp2_with fail
  clear rA0 rA1 rB0 rB1 rea0 rea1 reb0 reb1
  generalize (w5.alloc (.cells #[.bool sgB, .slice aeb nB (nB + 2)] 24)) = w6 at BA BB Bea Beb UA UB Uea Ueb Hw ⊢
  refine (norm_any _ _ _ _ _ _ (by omega) Uea).mono ?_
  rintro e w7 ⟨sgz, az, nz, cz, fz, rfl, z1, z2, z3, z4, z5, z6, Lz⟩
  clear z4 z5 z6 Lz
  go_wp2_with fail
  refine (over_any w6.heap.size _ _ _ _ _ _ z1 z2).mono ?_
  rintro e w8 ⟨rfl, hO⟩
  have kb := z3.trans (hO.below z2 z3.size)
  replace BA := BA.keep kb
  replace BB := BB.keep kb
  replace Bea := Bea.keep kb
  replace Beb := Beb.keep kb
  replace UA := UA.below kb (Nat.le_refl _)
  replace UB := UB.below kb (Nat.le_refl _)
  replace Uea := Uea.below kb (Nat.le_refl _)
  replace Ueb := Ueb.below kb (Nat.le_refl _)
  replace Hw := Hw.trans (kb.mono Hw.size)
  clear kb z1 z2 z3 hO
  have rA0 := BA.c0
  have rA1 := BA.c1
  have rB0 := BB.c0
  have rB1 := BB.c1
  have rea0 := Bea.c0
  have rea1 := Bea.c1
  have reb0 := Beb.c0
  have reb1 := Beb.c1
  go_wp2_with fail
  clear rA0 rA1 rB0 rB1 rea0 rea1 reb0 reb1
  refine (neg_any _ _ _ _ _ _ (by omega) Uea).mono ?_
  rintro e w9 ⟨sgz, az, nz, cz, fz, rfl, z1, z2, z3, z4, z5, z6, Lz⟩
  clear z4 z5 z6 Lz
  go_wp2_with fail
  refine (over_any w8.heap.size _ _ _ _ _ _ z1 z2).mono ?_
  rintro e w10 ⟨rfl, hO⟩
  have kb := z3.trans (hO.below z2 z3.size)
  replace BA := BA.keep kb
  replace BB := BB.keep kb
  replace Bea := Bea.keep kb
  replace Beb := Beb.keep kb
  replace UA := UA.below kb (Nat.le_refl _)
  replace UB := UB.below kb (Nat.le_refl _)
  replace Uea := Uea.below kb (Nat.le_refl _)
  replace Ueb := Ueb.below kb (Nat.le_refl _)
  replace Hw := Hw.trans (kb.mono Hw.size)
  clear kb z1 z2 z3 hO
  have rA0 := BA.c0
  have rA1 := BA.c1
  have rB0 := BB.c0
  have rB1 := BB.c1
  have rea0 := Bea.c0
  have rea1 := Bea.c1
  have reb0 := Beb.c0
  have reb1 := Beb.c1
  go_wp2_with fail
  clear rA0 rA1 rB0 rB1 rea0 rea1 reb0 reb1
  refine (abs_any _ _ _ _ _ _ (by omega) Uea).mono ?_
  rintro e w11 ⟨sgz, az, nz, cz, fz, rfl, z1, z2, z3, z4, z5, z6, Lz⟩
  clear z4 z5 z6 Lz
  go_wp2_with fail
  refine (over_any w10.heap.size _ _ _ _ _ _ z1 z2).mono ?_
  rintro e w12 ⟨rfl, hO⟩
  have kb := z3.trans (hO.below z2 z3.size)
  replace BA := BA.keep kb
  replace BB := BB.keep kb
  replace Bea := Bea.keep kb
  replace Beb := Beb.keep kb
  replace UA := UA.below kb (Nat.le_refl _)
  replace UB := UB.below kb (Nat.le_refl _)
  replace Uea := Uea.below kb (Nat.le_refl _)
  replace Ueb := Ueb.below kb (Nat.le_refl _)
  replace Hw := Hw.trans (kb.mono Hw.size)
  clear kb z1 z2 z3 hO
  have rA0 := BA.c0
  have rA1 := BA.c1
  have rB0 := BB.c0
  have rB1 := BB.c1
  have rea0 := Bea.c0
  have rea1 := Bea.c1
  have reb0 := Beb.c0
  have reb1 := Beb.c1
  go_wp2_with fail
  clear rA0 rA1 rB0 rB1 rea0 rea1 reb0 reb1
  refine (add_any _ _ _ _ _ _ _ _ _ _ _ (by omega) (by omega) Uea Ueb).mono ?_
  rintro e w13 ⟨sgz, az, nz, cz, fz, rfl, z1, z2, z3, z4, z5, z6, Lz⟩
  clear z4 z5 z6 Lz
  go_wp2_with fail
  refine (over_any w12.heap.size _ _ _ _ _ _ z1 z2).mono ?_
  rintro e w14 ⟨rfl, hO⟩
  have kb := z3.trans (hO.below z2 z3.size)
  replace BA := BA.keep kb
  replace BB := BB.keep kb
  replace Bea := Bea.keep kb
  replace Beb := Beb.keep kb
  replace UA := UA.below kb (Nat.le_refl _)
  replace UB := UB.below kb (Nat.le_refl _)
  replace Uea := Uea.below kb (Nat.le_refl _)
  replace Ueb := Ueb.below kb (Nat.le_refl _)
  replace Hw := Hw.trans (kb.mono Hw.size)
  clear kb z1 z2 z3 hO
  have rA0 := BA.c0
  have rA1 := BA.c1
  have rB0 := BB.c0
  have rB1 := BB.c1
  have rea0 := Bea.c0
  have rea1 := Bea.c1
  have reb0 := Beb.c0
  have reb1 := Beb.c1
  go_wp2_with fail
  clear rA0 rA1 rB0 rB1 rea0 rea1 reb0 reb1
  refine (sub_any _ _ _ _ _ _ _ _ _ _ _ (by omega) (by omega) Uea Ueb).mono ?_
  rintro e w15 ⟨sgz, az, nz, cz, fz, rfl, z1, z2, z3, z4, z5, z6, Lz⟩
  clear z4 z5 z6 Lz
  go_wp2_with fail
  refine (over_any w14.heap.size _ _ _ _ _ _ z1 z2).mono ?_
  rintro e w16 ⟨rfl, hO⟩
  have kb := z3.trans (hO.below z2 z3.size)
  replace BA := BA.keep kb
  replace BB := BB.keep kb
  replace Bea := Bea.keep kb
  replace Beb := Beb.keep kb
  replace UA := UA.below kb (Nat.le_refl _)
  replace UB := UB.below kb (Nat.le_refl _)
  replace Uea := Uea.below kb (Nat.le_refl _)
  replace Ueb := Ueb.below kb (Nat.le_refl _)
  replace Hw := Hw.trans (kb.mono Hw.size)
  clear kb z1 z2 z3 hO
  have rA0 := BA.c0
  have rA1 := BA.c1
  have rB0 := BB.c0
  have rB1 := BB.c1
  have rea0 := Bea.c0
  have rea1 := Bea.c1
  have reb0 := Beb.c0
  have reb1 := Beb.c1
  go_wp2_with fail
  clear rA0 rA1 rB0 rB1 rea0 rea1 reb0 reb1
  refine (mul_any _ _ _ _ _ _ _ _ _ _ _ (by omega) (by omega) Uea Ueb).mono ?_
  rintro e w17 ⟨sgz, az, nz, cz, fz, rfl, z1, z2, z3, z4, z5, z6, Lz⟩
  clear z4 z5 z6 Lz
  go_wp2_with fail
  refine (over_any w16.heap.size _ _ _ _ _ _ z1 z2).mono ?_
  rintro e w18 ⟨rfl, hO⟩
  have kb := z3.trans (hO.below z2 z3.size)
  replace BA := BA.keep kb
  replace BB := BB.keep kb
  replace Bea := Bea.keep kb
  replace Beb := Beb.keep kb
  replace UA := UA.below kb (Nat.le_refl _)
  replace UB := UB.below kb (Nat.le_refl _)
  replace Uea := Uea.below kb (Nat.le_refl _)
  replace Ueb := Ueb.below kb (Nat.le_refl _)
  replace Hw := Hw.trans (kb.mono Hw.size)
  clear kb z1 z2 z3 hO
  have rA0 := BA.c0
  have rA1 := BA.c1
  have rB0 := BB.c0
  have rB1 := BB.c1
  have rea0 := Bea.c0
  have rea1 := Bea.c1
  have reb0 := Beb.c0
  have reb1 := Beb.c1
  go_wp2_with fail
  clear rA0 rA1 rB0 rB1 rea0 rea1 reb0 reb1
  have BA0 := BA
  have UA0 := UA
  have BB0 := BB
  have UB0 := UB
  have Bea0 := Bea
  have Uea0 := Uea
  have Beb0 := Beb
  have Ueb0 := Ueb
  have HwO := Hw.size
  refine (divMod_both _ _ _ _ _ _ _ _ _ _ _ (by omega) (by omega) Uea Ueb).mono ?_
  rintro e w19 ⟨sgq, aq, nq, cq, fq, sgr, ar, nr, cr, fr, er, rfl, k1, k2, kb19, HD, Lq, Lr, Mq, Sq, Mr, Sr, HN⟩
  obtain ⟨Z, Vq⟩ : ∃ z : Int, Hid (ival sgq (val fq nq) = z) := ⟨_, hid rfl⟩
  obtain ⟨R, Vr⟩ : ∃ z : Int, Hid (ival sgr (val fr nr) = z) := ⟨_, hid rfl⟩
  rw [Vea.out, Veb.out, Vq.out, Vr.out] at HD
  replace BA := BA.keep kb19
  replace BB := BB.keep kb19
  replace Bea := Bea.keep kb19
  replace Beb := Beb.keep kb19
  replace UA := UA.below kb19 (Nat.le_refl _)
  replace UB := UB.below kb19 (Nat.le_refl _)
  replace Uea := Uea.below kb19 (Nat.le_refl _)
  replace Ueb := Ueb.below kb19 (Nat.le_refl _)
  replace Hw := Hw.trans (kb19.mono Hw.size)
  have K := kb19
  have Uq := k1
  have Uq0 := k1
  have Ur := k2
  have Nq := HN.out.1
  have Nr := HN.out.2.1
  have HAp := hid HN.out.2.2
  clear k1 k2 kb19 HN
  replace K := K.alloc K.size (.cells #[.bool sgq, .slice aq nq cq] 24)
  replace Nq := New.below Nq Uq (below_alloc _ (.cells #[.bool sgq, .slice aq nq cq] 24)) (Nat.le_refl _)
  replace Nr := New.below Nr Ur (below_alloc _ (.cells #[.bool sgq, .slice aq nq cq] 24)) (Nat.le_refl _)
  have Nq := Bx.made w19 (.bool sgq) (.slice aq nq cq) 24
  replace BA := BA.alloc (.cells #[.bool sgq, .slice aq nq cq] 24)
  replace BB := BB.alloc (.cells #[.bool sgq, .slice aq nq cq] 24)
  replace Bea := Bea.alloc (.cells #[.bool sgq, .slice aq nq cq] 24)
  replace Beb := Beb.alloc (.cells #[.bool sgq, .slice aq nq cq] 24)
  replace UA := UA.alloc (.cells #[.bool sgq, .slice aq nq cq] 24)
  replace UB := UB.alloc (.cells #[.bool sgq, .slice aq nq cq] 24)
  replace Uea := Uea.alloc (.cells #[.bool sgq, .slice aq nq cq] 24)
  replace Ueb := Ueb.alloc (.cells #[.bool sgq, .slice aq nq cq] 24)
  replace Uq := Uq.alloc (.cells #[.bool sgq, .slice aq nq cq] 24)
  replace Ur := Ur.alloc (.cells #[.bool sgq, .slice aq nq cq] 24)
  replace Hw := Hw.alloc Hw.size (.cells #[.bool sgq, .slice aq nq cq] 24)
  have Bq := Nq
  clear Nq
  replace K := K.alloc K.size (.cells #[.bool sgr, .slice ar nr cr] 24)
  replace Nq := New.below Nq Uq (below_alloc _ (.cells #[.bool sgr, .slice ar nr cr] 24)) (Nat.le_refl _)
  replace Nr := New.below Nr Ur (below_alloc _ (.cells #[.bool sgr, .slice ar nr cr] 24)) (Nat.le_refl _)
  have Nr : Bx ((w19.alloc (.cells #[.bool sgq, .slice aq nq cq] 24)).alloc (.cells #[.bool sgr, .slice ar nr cr] 24)) (w19.heap.size + 1) (.bool sgr) (.slice ar nr cr) := by simpa using Bx.made (w19.alloc (.cells #[.bool sgq, .slice aq nq cq] 24)) (.bool sgr) (.slice ar nr cr) 24
  replace BA := BA.alloc (.cells #[.bool sgr, .slice ar nr cr] 24)
  replace BB := BB.alloc (.cells #[.bool sgr, .slice ar nr cr] 24)
  replace Bea := Bea.alloc (.cells #[.bool sgr, .slice ar nr cr] 24)
  replace Beb := Beb.alloc (.cells #[.bool sgr, .slice ar nr cr] 24)
  replace Bq := Bq.alloc (.cells #[.bool sgr, .slice ar nr cr] 24)
  replace UA := UA.alloc (.cells #[.bool sgr, .slice ar nr cr] 24)
  replace UB := UB.alloc (.cells #[.bool sgr, .slice ar nr cr] 24)
  replace Uea := Uea.alloc (.cells #[.bool sgr, .slice ar nr cr] 24)
  replace Ueb := Ueb.alloc (.cells #[.bool sgr, .slice ar nr cr] 24)
  replace Uq := Uq.alloc (.cells #[.bool sgr, .slice ar nr cr] 24)
  replace Ur := Ur.alloc (.cells #[.bool sgr, .slice ar nr cr] 24)
  replace Hw := Hw.alloc Hw.size (.cells #[.bool sgr, .slice ar nr cr] 24)
  have Br := Nr
  clear Nr
  have rA0 := BA.c0
  have rA1 := BA.c1
  have rB0 := BB.c0
  have rB1 := BB.c1
  have rea0 := Bea.c0
  have rea1 := Bea.c1
  have reb0 := Beb.c0
  have reb1 := Beb.c1
  have rq0 := Bq.c0
  have rq1 := Bq.c1
  have rr0 := Br.c0
  have rr1 := Br.c1
  go_wp2_with fail
  clear rA0 rA1 rB0 rB1 rea0 rea1 reb0 reb1 rq0 rq1 rr0 rr1
  generalize ((w19.alloc (.cells #[.bool sgq, .slice aq nq cq] 24)).alloc (.cells #[.bool sgr, .slice ar nr cr] 24)) = w20 at BA BB Bea Beb Bq Br UA UB Uea Ueb Uq Ur Hw K Nq Nr ⊢
  refine (over_any w18.heap.size _ _ _ _ _ _ Uq Nq).mono ?_
  rintro e w21 ⟨rfl, hO⟩
  have kq := hO.below Nq K.size
  replace K := K.trans kq
  replace Hw := Hw.trans (kq.mono HwO)
  replace Nr := hO.new Ur Nr (fun b off b' off' e e' h0 h0' => by have := HAp.out b off b' off' e e' h0 h0'; omega)
  replace Ur := hO.us Ur (fun b off b' off' e e' h0 h0' => by have := HAp.out b off b' off' e e' h0 h0'; omega)
  replace Br := hO.bx Br (fun b off e h0 => by have := Uq0.lt e h0; omega)
  clear Uq Bq Nq kq hO Uq0 HAp Mq Sq Vq Lq
  replace BA := BA0.keep K
  replace UA := UA0.below K (Nat.le_refl _)
  replace BB := BB0.keep K
  replace UB := UB0.below K (Nat.le_refl _)
  replace Bea := Bea0.keep K
  replace Uea := Uea0.below K (Nat.le_refl _)
  replace Beb := Beb0.keep K
  replace Ueb := Ueb0.below K (Nat.le_refl _)
  go_wp2_with fail
  replace BA := BA.drew
  replace BB := BB.drew
  replace Bea := Bea.drew
  replace Beb := Beb.drew
  replace Br := Br.drew
  replace UA := UA.drew
  replace UB := UB.drew
  replace Uea := Uea.drew
  replace Ueb := Ueb.drew
  replace Ur := Ur.drew
  replace K := K.drew
  replace Nr := New.drew Nr
  replace Hw := Hw.drew
  have tk1 : True := trivial
  have tk2 : True := trivial
  go_region_held3 (fun wx => (wx.cell? ⟨w19.heap.size + 1, 0, none⟩ = some (.bool sgr) ∧ wx.cell? ⟨w19.heap.size + 1, 1, none⟩ = some (.slice ar nr cr)) ∧ (wx.cell? ⟨w.heap.size, 0, none⟩ = some (.bool sgA) ∧ wx.cell? ⟨w.heap.size, 1, none⟩ = some (.slice aA nA cA)) ∧ (wx.cell? ⟨w.heap.size + 1, 0, none⟩ = some (.bool sgB) ∧ wx.cell? ⟨w.heap.size + 1, 1, none⟩ = some (.slice aB nB cB))) (with_reducible exact ⟨⟨Br.c0, Br.c1⟩, ⟨BA.c0, BA.c1⟩, ⟨BB.c0, BB.c1⟩⟩) (first | (have _t := tk1; go_at_call 27; refine (rmod_any _ _ _ _ _ _ _ _ _ _ _ (by omega) (by omega) UA UB).mono ?_; rintro e w22 ⟨sgm, am, nm, cm, fm, q2, er2, rfl, k1, kb22, HDm, Lm⟩; rw [VA.out, VB.out] at HDm; obtain ⟨_, e2, _⟩ := dd_one HD.out HDm.out; have Vm := hid e2.symm; clear e2 HDm; replace K := K.trans (kb22.mono K.size); replace Nr := New.below Nr Ur kb22 (Nat.le_refl _); replace BA := BA.keep kb22; replace BB := BB.keep kb22; replace Bea := Bea.keep kb22; replace Beb := Beb.keep kb22; replace Br := Br.keep kb22; replace UA := UA.below kb22 (Nat.le_refl _); replace UB := UB.below kb22 (Nat.le_refl _); replace Uea := Uea.below kb22 (Nat.le_refl _); replace Ueb := Ueb.below kb22 (Nat.le_refl _); replace Ur := Ur.below kb22 (Nat.le_refl _); replace Hw := Hw.trans (kb22.mono Hw.size); have Um := k1; clear k1; clear kb22; clear tk1) | (have _t := tk2; go_at_call 13; refine (lis_any _ _ _ _ _ _ _ _ _ _ _ (by omega) (by omega) Ur Um).mono ?_; rintro e w23 ⟨rfl, kb23⟩; rw [Vr.out, Vm.out, stB_iff.2 ⟨Mr, Sr.out⟩, show (true && decide (R = R)) = true by simp]; replace K := K.trans (kb23.mono K.size); replace Nr := New.below Nr Ur kb23 (Nat.le_refl _); replace BA := BA.keep kb23; replace BB := BB.keep kb23; replace Bea := Bea.keep kb23; replace Beb := Beb.keep kb23; replace Br := Br.keep kb23; replace UA := UA.below kb23 (Nat.le_refl _); replace UB := UB.below kb23 (Nat.le_refl _); replace Uea := Uea.below kb23 (Nat.le_refl _); replace Ueb := Ueb.below kb23 (Nat.le_refl _); replace Ur := Ur.below kb23 (Nat.le_refl _); replace Um := Um.below kb23 (Nat.le_refl _); replace Hw := Hw.trans (kb23.mono Hw.size); clear kb23; clear tk2))
  have rA0 := BA.c0
  have rA1 := BA.c1
  have rB0 := BB.c0
  have rB1 := BB.c1
  have rea0 := Bea.c0
  have rea1 := Bea.c1
  have reb0 := Beb.c0
  have reb1 := Beb.c1
  have rr0 := Br.c0
  have rr1 := Br.c1
  go_wp2_with fail
  clear rA0 rA1 rB0 rB1 rea0 rea1 reb0 reb1 rr0 rr1
  refine (over_any w18.heap.size _ _ _ _ _ _ Ur Nr).mono ?_
  rintro e w24 ⟨rfl, hO⟩
  have kr := hO.below Nr K.size
  replace K := K.trans kr
  replace Hw := Hw.trans (kr.mono HwO)
  clear Ur Br Nr kr hO Um Vm Mr Sr Vr Lr HD
  replace BA := BA0.keep K
  replace UA := UA0.below K (Nat.le_refl _)
  replace BB := BB0.keep K
  replace UB := UB0.below K (Nat.le_refl _)
  replace Bea := Bea0.keep K
  replace Uea := Uea0.below K (Nat.le_refl _)
  replace Beb := Beb0.keep K
  replace Ueb := Ueb0.below K (Nat.le_refl _)
  clear K BA0 UA0 BB0 UB0 Bea0 Uea0 Beb0 Ueb0
  have rA0 := BA.c0
  have rA1 := BA.c1
  have rB0 := BB.c0
  have rB1 := BB.c1
  have rea0 := Bea.c0
  have rea1 := Bea.c1
  have reb0 := Beb.c0
  have reb1 := Beb.c1
  go_wp2_with fail
  clear rA0 rA1 rB0 rB1 rea0 rea1 reb0 reb1
  refine (of_any _ _ (by omega) (by omega)).mono ?_
  rintro e w25 ⟨sgz, az, nz, cz, fz, rfl, z1, z2, z3, z4, z5, z6, Lz⟩
  clear z4 z5 z6 Lz
  go_wp2_with fail
  refine (over_any w24.heap.size _ _ _ _ _ _ z1 z2).mono ?_
  rintro e w26 ⟨rfl, hO⟩
  have kb := z3.trans (hO.below z2 z3.size)
  replace BA := BA.keep kb
  replace BB := BB.keep kb
  replace Bea := Bea.keep kb
  replace Beb := Beb.keep kb
  replace UA := UA.below kb (Nat.le_refl _)
  replace UB := UB.below kb (Nat.le_refl _)
  replace Uea := Uea.below kb (Nat.le_refl _)
  replace Ueb := Ueb.below kb (Nat.le_refl _)
  replace Hw := Hw.trans (kb.mono Hw.size)
  clear kb z1 z2 z3 hO
  have rA0 := BA.c0
  have rA1 := BA.c1
  have rB0 := BB.c0
  have rB1 := BB.c1
  have rea0 := Bea.c0
  have rea1 := Bea.c1
  have reb0 := Beb.c0
  have reb1 := Beb.c1
  go_wp2_with fail
  clear rA0 rA1 rB0 rB1 rea0 rea1 reb0 reb1
  refine (of_any _ _ (by omega) (by omega)).mono ?_
  rintro e w27 ⟨sgfi, afi, nfi, cfi, ffi, rfl, k1, k2, kb27, k4, k5, k6, Lfi⟩
  have Vfi : Hid (ival sgfi (val ffi nfi) = 5) := hid (by rw [k6])
  have Mfi := k4
  have Sfi := hid k5
  clear k6 k5 k4 k2
  replace BA := BA.keep kb27
  replace BB := BB.keep kb27
  replace Bea := Bea.keep kb27
  replace Beb := Beb.keep kb27
  replace UA := UA.below kb27 (Nat.le_refl _)
  replace UB := UB.below kb27 (Nat.le_refl _)
  replace Uea := Uea.below kb27 (Nat.le_refl _)
  replace Ueb := Ueb.below kb27 (Nat.le_refl _)
  replace Hw := Hw.trans (kb27.mono Hw.size)
  have Ufi := k1
  clear k1
  clear kb27
  have Nfi := Bx.made w27 (.bool sgfi) (.slice afi nfi cfi) 24
  replace BA := BA.alloc (.cells #[.bool sgfi, .slice afi nfi cfi] 24)
  replace BB := BB.alloc (.cells #[.bool sgfi, .slice afi nfi cfi] 24)
  replace Bea := Bea.alloc (.cells #[.bool sgfi, .slice afi nfi cfi] 24)
  replace Beb := Beb.alloc (.cells #[.bool sgfi, .slice afi nfi cfi] 24)
  replace UA := UA.alloc (.cells #[.bool sgfi, .slice afi nfi cfi] 24)
  replace UB := UB.alloc (.cells #[.bool sgfi, .slice afi nfi cfi] 24)
  replace Uea := Uea.alloc (.cells #[.bool sgfi, .slice afi nfi cfi] 24)
  replace Ueb := Ueb.alloc (.cells #[.bool sgfi, .slice afi nfi cfi] 24)
  replace Ufi := Ufi.alloc (.cells #[.bool sgfi, .slice afi nfi cfi] 24)
  replace Hw := Hw.alloc Hw.size (.cells #[.bool sgfi, .slice afi nfi cfi] 24)
  have Bfi := Nfi
  clear Nfi
  have rA0 := BA.c0
  have rA1 := BA.c1
  have rB0 := BB.c0
  have rB1 := BB.c1
  have rea0 := Bea.c0
  have rea1 := Bea.c1
  have reb0 := Beb.c0
  have reb1 := Beb.c1
  have rfi0 := Bfi.c0
  have rfi1 := Bfi.c1
  go_wp2_with fail
  clear rA0 rA1 rB0 rB1 rea0 rea1 reb0 reb1 rfi0 rfi1
  generalize (w27.alloc (.cells #[.bool sgfi, .slice afi nfi cfi] 24)) = w28 at BA BB Bea Beb Bfi UA UB Uea Ueb Ufi Hw ⊢
  refine (stays_any _ _ _ _ _ _ _ _ (by omega) Uea UA Hea).mono ?_
  rintro e w29 ⟨rfl, kb29⟩
  replace BA := BA.keep kb29
  replace BB := BB.keep kb29
  replace Bea := Bea.keep kb29
  replace Beb := Beb.keep kb29
  replace Bfi := Bfi.keep kb29
  replace UA := UA.below kb29 (Nat.le_refl _)
  replace UB := UB.below kb29 (Nat.le_refl _)
  replace Uea := Uea.below kb29 (Nat.le_refl _)
  replace Ueb := Ueb.below kb29 (Nat.le_refl _)
  replace Ufi := Ufi.below kb29 (Nat.le_refl _)
  replace Hw := Hw.trans (kb29.mono Hw.size)
  clear kb29
  have rA0 := BA.c0
  have rA1 := BA.c1
  have rB0 := BB.c0
  have rB1 := BB.c1
  have rea0 := Bea.c0
  have rea1 := Bea.c1
  have reb0 := Beb.c0
  have reb1 := Beb.c1
  have rfi0 := Bfi.c0
  have rfi1 := Bfi.c1
  go_wp2_with fail
  clear rA0 rA1 rB0 rB1 rea0 rea1 reb0 reb1 rfi0 rfi1
  refine (stays_any _ _ _ _ _ _ _ _ (by omega) Ueb UB Heb).mono ?_
  rintro e w30 ⟨rfl, kb30⟩
  replace BA := BA.keep kb30
  replace BB := BB.keep kb30
  replace Bea := Bea.keep kb30
  replace Beb := Beb.keep kb30
  replace Bfi := Bfi.keep kb30
  replace UA := UA.below kb30 (Nat.le_refl _)
  replace UB := UB.below kb30 (Nat.le_refl _)
  replace Uea := Uea.below kb30 (Nat.le_refl _)
  replace Ueb := Ueb.below kb30 (Nat.le_refl _)
  replace Ufi := Ufi.below kb30 (Nat.le_refl _)
  replace Hw := Hw.trans (kb30.mono Hw.size)
  clear kb30
  have rA0 := BA.c0
  have rA1 := BA.c1
  have rB0 := BB.c0
  have rB1 := BB.c1
  have rea0 := Bea.c0
  have rea1 := Bea.c1
  have reb0 := Beb.c0
  have reb1 := Beb.c1
  have rfi0 := Bfi.c0
  have rfi1 := Bfi.c1
  go_wp2_with fail
  clear rA0 rA1 rB0 rB1 rea0 rea1 reb0 reb1 rfi0 rfi1
  refine (rsign_any _ _ _ _ _ _ (by omega) UB).mono ?_
  rintro e w31 ⟨rfl, kb31⟩
  rw [VB.out, SB.out]
  replace BA := BA.keep kb31
  replace BB := BB.keep kb31
  replace Bea := Bea.keep kb31
  replace Beb := Beb.keep kb31
  replace Bfi := Bfi.keep kb31
  replace UA := UA.below kb31 (Nat.le_refl _)
  replace UB := UB.below kb31 (Nat.le_refl _)
  replace Uea := Uea.below kb31 (Nat.le_refl _)
  replace Ueb := Ueb.below kb31 (Nat.le_refl _)
  replace Ufi := Ufi.below kb31 (Nat.le_refl _)
  replace Hw := Hw.trans (kb31.mono Hw.size)
  clear kb31
  have rA0 := BA.c0
  have rA1 := BA.c1
  have rB0 := BB.c0
  have rB1 := BB.c1
  have rea0 := Bea.c0
  have rea1 := Bea.c1
  have reb0 := Beb.c0
  have reb1 := Beb.c1
  have rfi0 := Bfi.c0
  have rfi1 := Bfi.c1
  go_wp2_with fail
  clear rA0 rA1 rB0 rB1 rea0 rea1 reb0 reb1 rfi0 rfi1
  replace BA := BA.drew
  replace BB := BB.drew
  replace Bea := Bea.drew
  replace Beb := Beb.drew
  replace Bfi := Bfi.drew
  replace UA := UA.drew
  replace UB := UB.drew
  replace Uea := Uea.drew
  replace Ueb := Ueb.drew
  replace Ufi := Ufi.drew
  replace Hw := Hw.drew
  refine region_T (S := fun wx => (wx.cell? ⟨w27.heap.size, 0, none⟩ = some (.bool sgfi) ∧ wx.cell? ⟨w27.heap.size, 1, none⟩ = some (.slice afi nfi cfi))) (T := fun _ => false) (by kernel_rfl) ?_
  refine anyT_one (i := 0) (by kernel_rfl) rfl (fun K hK => ?_)
  go_simp
  refine hK.out _ _ (fun _ => ⟨Bfi.c0, Bfi.c1⟩) ?_
  clear hK K
  try simp only [Act.put, List.setIfInBounds_toArray, List.set_cons_zero, List.set_cons_succ]
  refine anyT_one (i := 1) (by kernel_rfl) rfl (fun K hK => ?_)
  go_simp
  refine hK.out _ _ (fun _ => ⟨Bfi.c0, Bfi.c1⟩) ?_
  clear hK K
  try simp only [Act.put, List.setIfInBounds_toArray, List.set_cons_zero, List.set_cons_succ]
  refine anyT_one (i := 2) (by kernel_rfl) rfl (fun K hK => ?_)
  go_simp
  refine hK.out _ _ (fun _ => ⟨Bfi.c0, Bfi.c1⟩) ?_
  clear hK K
  try simp only [Act.put, List.setIfInBounds_toArray, List.set_cons_zero, List.set_cons_succ]
  refine anyT_one (i := 3) (by kernel_rfl) rfl (fun K hK => ?_)
  go_simp
  refine hK.out _ _ (fun _ => ⟨Bfi.c0, Bfi.c1⟩) ?_
  clear hK K
  try simp only [Act.put, List.setIfInBounds_toArray, List.set_cons_zero, List.set_cons_succ]
  refine anyT_one (i := 4) (by kernel_rfl) rfl (fun K hK => ?_)
  go_simp
  refine hK.out _ _ (fun _ => ⟨Bfi.c0, Bfi.c1⟩) ?_
  clear hK K
  try simp only [Act.put, List.setIfInBounds_toArray, List.set_cons_zero, List.set_cons_succ]
  refine anyT_one (i := 5) (by kernel_rfl) rfl (fun K hK => ?_)
  go_simp
  refine hK.out _ _ (fun _ => ⟨Bfi.c0, Bfi.c1⟩) ?_
  clear hK K
  try simp only [Act.put, List.setIfInBounds_toArray, List.set_cons_zero, List.set_cons_succ]
  refine anyT_one (i := 6) (by kernel_rfl) rfl (fun K hK => ?_)
  go_simp
  refine hK.out _ _ (fun _ => ⟨Bfi.c0, Bfi.c1⟩) ?_
  clear hK K
  try simp only [Act.put, List.setIfInBounds_toArray, List.set_cons_zero, List.set_cons_succ]
  refine anyT_one (i := 7) (by kernel_rfl) rfl (fun K hK => ?_)
  go_simp
  refine hK.out _ _ (fun _ => ⟨Bfi.c0, Bfi.c1⟩) ?_
  clear hK K
  try simp only [Act.put, List.setIfInBounds_toArray, List.set_cons_zero, List.set_cons_succ]
  refine anyT_take (i := 8) (v := ?_) rfl (by kernel_rfl) (by kernel_rfl) (by kernel_rfl) (by kernel_rfl) (by kernel_rfl) (fun _ _ _ h => h) (Or.inl ⟨by rfl, ?_⟩) ⟨Bfi.c0, Bfi.c1⟩ ?_
  rotate_left 1
  · intro wz hz; obtain ⟨_, _⟩ := hz; go_simp; try with_reducible rfl
  try simp only [Act.put, List.setIfInBounds_toArray, List.set_cons_zero, List.set_cons_succ]
  refine anyT_one (i := 9) (by kernel_rfl) rfl (fun K hK => ?_)
  go_simp
  refine (rof_any _ _ (by omega) (by omega)).mono ?_
  rintro e w32 ⟨sgrf, arf, nrf, crf, frf, rfl, k1, k2, kb32, k4, k5, k6, Lrf⟩
  have Vrf : Hid (ival sgrf (val frf nrf) = 5) := hid (by rw [k6])
  have Mrf := k4
  have Srf := hid k5
  clear k6 k5 k4 k2
  replace BA := BA.keep kb32
  replace BB := BB.keep kb32
  replace Bea := Bea.keep kb32
  replace Beb := Beb.keep kb32
  replace Bfi := Bfi.keep kb32
  replace UA := UA.below kb32 (Nat.le_refl _)
  replace UB := UB.below kb32 (Nat.le_refl _)
  replace Uea := Uea.below kb32 (Nat.le_refl _)
  replace Ueb := Ueb.below kb32 (Nat.le_refl _)
  replace Ufi := Ufi.below kb32 (Nat.le_refl _)
  replace Hw := Hw.trans (kb32.mono Hw.size)
  have Urf := k1
  clear k1
  clear kb32
  refine hK.out _ _ (fun _ => ⟨Bfi.c0, Bfi.c1⟩) ?_
  clear hK K
  try simp only [Act.put, List.setIfInBounds_toArray, List.set_cons_zero, List.set_cons_succ]
  refine anyT_one (i := 10) (by kernel_rfl) rfl (fun K hK => ?_)
  go_simp
  refine (lis_any _ _ _ _ _ _ _ _ _ _ _ (by omega) (by omega) Ufi Urf).mono ?_
  rintro e w33 ⟨rfl, kb33⟩
  rw [Vfi.out, Vrf.out, stB_iff.2 ⟨Mfi, Sfi.out⟩]
  replace BA := BA.keep kb33
  replace BB := BB.keep kb33
  replace Bea := Bea.keep kb33
  replace Beb := Beb.keep kb33
  replace Bfi := Bfi.keep kb33
  replace UA := UA.below kb33 (Nat.le_refl _)
  replace UB := UB.below kb33 (Nat.le_refl _)
  replace Uea := Uea.below kb33 (Nat.le_refl _)
  replace Ueb := Ueb.below kb33 (Nat.le_refl _)
  replace Ufi := Ufi.below kb33 (Nat.le_refl _)
  replace Urf := Urf.below kb33 (Nat.le_refl _)
  replace Hw := Hw.trans (kb33.mono Hw.size)
  clear kb33
  refine hK.out _ _ (fun _ => ⟨Bfi.c0, Bfi.c1⟩) ?_
  clear hK K
  try simp only [Act.put, List.setIfInBounds_toArray, List.set_cons_zero, List.set_cons_succ]
  refine anyT_one (i := 11) (by kernel_rfl) rfl (fun K hK => ?_)
  go_simp
  refine hK.out _ _ (fun _ => ⟨Bfi.c0, Bfi.c1⟩) ?_
  clear hK K
  try simp only [Act.put, List.setIfInBounds_toArray, List.set_cons_zero, List.set_cons_succ]
  refine anyT_one (i := 12) (by kernel_rfl) rfl (fun K hK => ?_)
  go_simp
  refine hK.out _ _ (fun _ => ⟨Bfi.c0, Bfi.c1⟩) ?_
  clear hK K
  try simp only [Act.put, List.setIfInBounds_toArray, List.set_cons_zero, List.set_cons_succ]
  refine anyT_one (i := 13) (by kernel_rfl) rfl (fun K hK => ?_)
  go_simp
  refine hK.out _ _ (fun _ => ⟨Bfi.c0, Bfi.c1⟩) ?_
  clear hK K
  try simp only [Act.put, List.setIfInBounds_toArray, List.set_cons_zero, List.set_cons_succ]
  refine anyT_one (i := 14) (by kernel_rfl) rfl (fun K hK => ?_)
  go_simp
  refine hK.out _ _ (fun _ => ⟨Bfi.c0, Bfi.c1⟩) ?_
  clear hK K
  try simp only [Act.put, List.setIfInBounds_toArray, List.set_cons_zero, List.set_cons_succ]
  refine anyT_one (i := 15) (by kernel_rfl) rfl (fun K hK => ?_)
  go_simp
  refine hK.out _ _ (fun _ => ⟨Bfi.c0, Bfi.c1⟩) ?_
  clear hK K
  try simp only [Act.put, List.setIfInBounds_toArray, List.set_cons_zero, List.set_cons_succ]
  refine anyT_one (i := 16) (by kernel_rfl) rfl (fun K hK => ?_)
  go_simp
  refine hK.out _ _ (fun _ => ⟨Bfi.c0, Bfi.c1⟩) ?_
  clear hK K
  try simp only [Act.put, List.setIfInBounds_toArray, List.set_cons_zero, List.set_cons_succ]
  refine anyT_one (i := 17) (by kernel_rfl) rfl (fun K hK => ?_)
  go_simp
  refine hK.out _ _ (fun _ => ⟨Bfi.c0, Bfi.c1⟩) ?_
  clear hK K
  try simp only [Act.put, List.setIfInBounds_toArray, List.set_cons_zero, List.set_cons_succ]
  refine anyT_one (i := 18) (by kernel_rfl) rfl (fun K hK => ?_)
  go_simp
  refine hK.out _ _ (fun _ => ⟨Bfi.c0, Bfi.c1⟩) ?_
  clear hK K
  try simp only [Act.put, List.setIfInBounds_toArray, List.set_cons_zero, List.set_cons_succ]
  refine anyT_one (i := 19) (by kernel_rfl) rfl (fun K hK => ?_)
  go_simp
  refine hK.out _ _ (fun _ => ⟨Bfi.c0, Bfi.c1⟩) ?_
  clear hK K
  try simp only [Act.put, List.setIfInBounds_toArray, List.set_cons_zero, List.set_cons_succ]
  refine anyT_done (by kernel_rfl) ?_ _
  go_wp2_with fail
  go_ret
  exact ⟨rfl, Hw⟩
end Go.Proofs.YticfggljaagcmaaDoor
