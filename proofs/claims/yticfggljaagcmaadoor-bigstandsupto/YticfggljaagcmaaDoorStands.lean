/-
  BigStands, walked.
-/
import Derived.Test.YticfggljaagcmaaDoorAwake
import Derived.Test.YticfggljaagcmaaDoorRInts2
import Derived.Test.YticfggljaagcmaaDoorROf
import Derived.Test.YticfggljaagcmaaDoorInt64
import Derived.Test.YticfggljaagcmaaDoorRInt64
namespace Go.Proofs.YticfggljaagcmaaDoor
set_option linter.all false
open Go.RowKit

set_option maxHeartbeats 16000000 in
set_option maxRecDepth 100000 in
theorem bigStands_walk (sgA : Bool) (aA : Option Addr) (nA cA : Nat) (fA : Nat → Nat) (i : Int) (w : World) (hA : nA ≤ 1048576) (UA : Us w aA nA cA fA) (hi1 : -9223372036854775808 ≤ i) (hi2 : i ≤ 9223372036854775807) :
    Calls Tryd.prog 9 #[.agg #[.bool sgA, .slice aA nA cA], .int .i64 i] w fun e w' => e = .returned (.bool true) ∧ Below w.heap.size w w' := by
  have Hw := Below.refl w.heap.size w
  obtain ⟨A, VA⟩ : ∃ A : Int, Hid (ival sgA (val fA nA) = A) := ⟨_, hid rfl⟩
  obtain ⟨iv, IV⟩ : ∃ s : Int, Hid (i64v A = s) := ⟨_, hid rfl⟩
  obtain ⟨ib, IB⟩ : ∃ s : Bool, Hid (i64f A = s) := ⟨_, hid rfl⟩
  have HI := hid (i64_in (z := i) ⟨hi1, hi2⟩)
  obtain ⟨sb, SB⟩ : ∃ s : Bool, Hid (stB sgA fA nA = s) := ⟨_, hid rfl⟩
  have BA : Bx (w.alloc (.cells #[.bool sgA, .slice aA nA cA] 24)) (w.heap.size) (.bool sgA) (.slice aA nA cA) := by exact Bx.made w (.bool sgA) (.slice aA nA cA) 24
  replace UA := UA.alloc (.cells #[.bool sgA, .slice aA nA cA] 24)
  replace Hw := Hw.alloc (Nat.le_refl _) (.cells #[.bool sgA, .slice aA nA cA] 24)
  go_enter Tryd.func9, Tryd.ntmps9
  go_wp2_with fail
  generalize (w.alloc (.cells #[.bool sgA, .slice aA nA cA] 24)) = w1 at BA UA Hw ⊢
  refine (awake_any _).mono ?_
  rintro e w2 ⟨rfl, kb2⟩
  replace BA := BA.keep kb2
  replace UA := UA.below kb2 (Nat.le_refl _)
  replace Hw := Hw.trans (kb2.mono Hw.size)
  clear kb2
  have rA0 := BA.c0
  have rA1 := BA.c1
  go_wp2_with fail
  clear rA0 rA1
  refine (of_any _ _ hi1 hi2).mono ?_
  rintro e w3 ⟨sgob, aob, nob, cob, fob, rfl, k1, k2, kb3, k4, k5, k6, Lob⟩
  have Vob : Hid (ival sgob (val fob nob) = i) := hid (by rw [k6])
  have Mob := k4
  have Sob := hid k5
  clear k6 k5 k4 k2
  replace BA := BA.keep kb3
  replace UA := UA.below kb3 (Nat.le_refl _)
  replace Hw := Hw.trans (kb3.mono Hw.size)
  have Uob := k1
  clear k1
  clear kb3
  have Nob := Bx.made w3 (.bool sgob) (.slice aob nob cob) 24
  replace BA := BA.alloc (.cells #[.bool sgob, .slice aob nob cob] 24)
  replace UA := UA.alloc (.cells #[.bool sgob, .slice aob nob cob] 24)
  replace Uob := Uob.alloc (.cells #[.bool sgob, .slice aob nob cob] 24)
  replace Hw := Hw.alloc Hw.size (.cells #[.bool sgob, .slice aob nob cob] 24)
  have Bob := Nob
  clear Nob
  have rA0 := BA.c0
  have rA1 := BA.c1
  have rob0 := Bob.c0
  have rob1 := Bob.c1
  go_wp2_with fail
  clear rA0 rA1 rob0 rob1
  generalize (w3.alloc (.cells #[.bool sgob, .slice aob nob cob] 24)) = w4 at BA Bob UA Uob Hw ⊢
  refine (int64_any _ _ _ _ _ _ (by omega) Uob).mono ?_
  rintro e w5 ⟨rfl, kb5⟩
  rw [Vob.out, HI.out.1, HI.out.2]
  replace BA := BA.keep kb5
  replace Bob := Bob.keep kb5
  replace UA := UA.below kb5 (Nat.le_refl _)
  replace Uob := Uob.below kb5 (Nat.le_refl _)
  replace Hw := Hw.trans (kb5.mono Hw.size)
  clear kb5
  have rA0 := BA.c0
  have rA1 := BA.c1
  have rob0 := Bob.c0
  have rob1 := Bob.c1
  go_wp2_with fail
  clear rA0 rA1 rob0 rob1
  refine (norm_any _ _ _ _ _ _ (by omega) UA).mono ?_
  rintro e w6 ⟨sgnm, anm, nnm, cnm, fnm, rfl, k1, k2, kb6, k4, k5, k6, Lnm⟩
  have Vnm : Hid (ival sgnm (val fnm nnm) = A) := hid (by rw [k6, VA.out])
  have Mnm := k4
  have Snm := hid k5
  clear k6 k5 k4 k2
  replace BA := BA.keep kb6
  replace Bob := Bob.keep kb6
  replace UA := UA.below kb6 (Nat.le_refl _)
  replace Uob := Uob.below kb6 (Nat.le_refl _)
  replace Hw := Hw.trans (kb6.mono Hw.size)
  have Unm := k1
  clear k1
  clear kb6
  have Nnm := Bx.made w6 (.bool sgnm) (.slice anm nnm cnm) 24
  replace BA := BA.alloc (.cells #[.bool sgnm, .slice anm nnm cnm] 24)
  replace Bob := Bob.alloc (.cells #[.bool sgnm, .slice anm nnm cnm] 24)
  replace UA := UA.alloc (.cells #[.bool sgnm, .slice anm nnm cnm] 24)
  replace Uob := Uob.alloc (.cells #[.bool sgnm, .slice anm nnm cnm] 24)
  replace Unm := Unm.alloc (.cells #[.bool sgnm, .slice anm nnm cnm] 24)
  replace Hw := Hw.alloc Hw.size (.cells #[.bool sgnm, .slice anm nnm cnm] 24)
  have Bnm := Nnm
  clear Nnm
  have rA0 := BA.c0
  have rA1 := BA.c1
  have rob0 := Bob.c0
  have rob1 := Bob.c1
  have rnm0 := Bnm.c0
  have rnm1 := Bnm.c1
  go_wp2_with fail
  clear rA0 rA1 rob0 rob1 rnm0 rnm1
  generalize (w6.alloc (.cells #[.bool sgnm, .slice anm nnm cnm] 24)) = w7 at BA Bob Bnm UA Uob Unm Hw ⊢
  refine (valid_any _ _ _ _ _ _ (by omega) UA).mono ?_
  rintro e w8 ⟨rfl, kb8⟩
  rw [SB.out]
  replace BA := BA.keep kb8
  replace Bob := Bob.keep kb8
  replace Bnm := Bnm.keep kb8
  replace UA := UA.below kb8 (Nat.le_refl _)
  replace Uob := Uob.below kb8 (Nat.le_refl _)
  replace Unm := Unm.below kb8 (Nat.le_refl _)
  replace Hw := Hw.trans (kb8.mono Hw.size)
  clear kb8
  have rA0 := BA.c0
  have rA1 := BA.c1
  have rob0 := Bob.c0
  have rob1 := Bob.c1
  have rnm0 := Bnm.c0
  have rnm1 := Bnm.c1
  go_wp2_with fail
  clear rA0 rA1 rob0 rob1 rnm0 rnm1
  refine (int64_any _ _ _ _ _ _ (by omega) UA).mono ?_
  rintro e w9 ⟨rfl, kb9⟩
  rw [VA.out, IV.out, IB.out]
  replace BA := BA.keep kb9
  replace Bob := Bob.keep kb9
  replace Bnm := Bnm.keep kb9
  replace UA := UA.below kb9 (Nat.le_refl _)
  replace Uob := Uob.below kb9 (Nat.le_refl _)
  replace Unm := Unm.below kb9 (Nat.le_refl _)
  replace Hw := Hw.trans (kb9.mono Hw.size)
  clear kb9
  have rA0 := BA.c0
  have rA1 := BA.c1
  have rob0 := Bob.c0
  have rob1 := Bob.c1
  have rnm0 := Bnm.c0
  have rnm1 := Bnm.c1
  go_wp2_with fail
  clear rA0 rA1 rob0 rob1 rnm0 rnm1
  refine (rint64_any _ _ _ _ _ _ (by omega) UA).mono ?_
  rintro e w10 ⟨rfl, kb10⟩
  rw [VA.out, IV.out, IB.out]
  replace BA := BA.keep kb10
  replace Bob := Bob.keep kb10
  replace Bnm := Bnm.keep kb10
  replace UA := UA.below kb10 (Nat.le_refl _)
  replace Uob := Uob.below kb10 (Nat.le_refl _)
  replace Unm := Unm.below kb10 (Nat.le_refl _)
  replace Hw := Hw.trans (kb10.mono Hw.size)
  clear kb10
  have rA0 := BA.c0
  have rA1 := BA.c1
  have rob0 := Bob.c0
  have rob1 := Bob.c1
  have rnm0 := Bnm.c0
  have rnm1 := Bnm.c1
  go_wp2_with fail
  clear rA0 rA1 rob0 rob1 rnm0 rnm1
  replace BA := BA.drew
  replace Bob := Bob.drew
  replace Bnm := Bnm.drew
  replace UA := UA.drew
  replace Uob := Uob.drew
  replace Unm := Unm.drew
  replace Hw := Hw.drew
  have tk1 : True := trivial
  have tk2 : True := trivial
  have tk3 : True := trivial
  have tk4 : True := trivial
  have tk5 : True := trivial
  go_region_held3 (fun wx => (wx.cell? ⟨w.heap.size, 0, none⟩ = some (.bool sgA) ∧ wx.cell? ⟨w.heap.size, 1, none⟩ = some (.slice aA nA cA)) ∧ (wx.cell? ⟨w3.heap.size, 0, none⟩ = some (.bool sgob) ∧ wx.cell? ⟨w3.heap.size, 1, none⟩ = some (.slice aob nob cob)) ∧ (wx.cell? ⟨w6.heap.size, 0, none⟩ = some (.bool sgnm) ∧ wx.cell? ⟨w6.heap.size, 1, none⟩ = some (.slice anm nnm cnm))) (with_reducible exact ⟨⟨BA.c0, BA.c1⟩, ⟨Bob.c0, Bob.c1⟩, ⟨Bnm.c0, Bnm.c1⟩⟩) (first | (have _t := tk1; go_at_call 31; refine (rof_any _ _ hi1 hi2).mono ?_; rintro e w11 ⟨sgro, aro, nro, cro, fro, rfl, k1, k2, kb11, k4, k5, k6, Lro⟩; have Vro : Hid (ival sgro (val fro nro) = i) := hid (by rw [k6]); have Mro := k4; have Sro := hid k5; clear k6 k5 k4 k2; replace BA := BA.keep kb11; replace Bob := Bob.keep kb11; replace Bnm := Bnm.keep kb11; replace UA := UA.below kb11 (Nat.le_refl _); replace Uob := Uob.below kb11 (Nat.le_refl _); replace Unm := Unm.below kb11 (Nat.le_refl _); replace Hw := Hw.trans (kb11.mono Hw.size); have Uro := k1; clear k1; clear kb11; clear tk1) | (have _t := tk2; go_at_call 13; refine (lis_any _ _ _ _ _ _ _ _ _ _ _ (by omega) (by omega) Uob Uro).mono ?_; rintro e w12 ⟨rfl, kb12⟩; rw [Vob.out, Vro.out, stB_iff.2 ⟨Mob, Sob.out⟩]; replace BA := BA.keep kb12; replace Bob := Bob.keep kb12; replace Bnm := Bnm.keep kb12; replace UA := UA.below kb12 (Nat.le_refl _); replace Uob := Uob.below kb12 (Nat.le_refl _); replace Unm := Unm.below kb12 (Nat.le_refl _); replace Uro := Uro.below kb12 (Nat.le_refl _); replace Hw := Hw.trans (kb12.mono Hw.size); clear kb12; clear tk2) | (have _t := tk3; go_at_call 18; refine (rnorm_any _ _ _ _ _ _ (by omega) UA).mono ?_; rintro e w13 ⟨sgrn, arn, nrn, crn, frn, rfl, k1, k2, kb13, k4, k5, k6, Lrn⟩; have Vrn : Hid (ival sgrn (val frn nrn) = A) := hid (by rw [k6, VA.out]); have Mrn := k4; have Srn := hid k5; clear k6 k5 k4 k2; replace BA := BA.keep kb13; replace Bob := Bob.keep kb13; replace Bnm := Bnm.keep kb13; replace UA := UA.below kb13 (Nat.le_refl _); replace Uob := Uob.below kb13 (Nat.le_refl _); replace Unm := Unm.below kb13 (Nat.le_refl _); replace Uro := Uro.below kb13 (Nat.le_refl _); replace Hw := Hw.trans (kb13.mono Hw.size); have Urn := k1; clear k1; clear kb13; clear tk3) | (have _t := tk4; go_at_call 13; refine (lis_any _ _ _ _ _ _ _ _ _ _ _ (by omega) (by omega) Unm Urn).mono ?_; rintro e w14 ⟨rfl, kb14⟩; rw [Vnm.out, Vrn.out, stB_iff.2 ⟨Mnm, Snm.out⟩]; replace BA := BA.keep kb14; replace Bob := Bob.keep kb14; replace Bnm := Bnm.keep kb14; replace UA := UA.below kb14 (Nat.le_refl _); replace Uob := Uob.below kb14 (Nat.le_refl _); replace Unm := Unm.below kb14 (Nat.le_refl _); replace Uro := Uro.below kb14 (Nat.le_refl _); replace Urn := Urn.below kb14 (Nat.le_refl _); replace Hw := Hw.trans (kb14.mono Hw.size); clear kb14; clear tk4) | (have _t := tk5; go_at_call 43; refine (rvalid_any _ _ _ _ _ _ (by omega) UA).mono ?_; rintro e w15 ⟨rfl, kb15⟩; rw [SB.out]; replace BA := BA.keep kb15; replace Bob := Bob.keep kb15; replace Bnm := Bnm.keep kb15; replace UA := UA.below kb15 (Nat.le_refl _); replace Uob := Uob.below kb15 (Nat.le_refl _); replace Unm := Unm.below kb15 (Nat.le_refl _); replace Uro := Uro.below kb15 (Nat.le_refl _); replace Urn := Urn.below kb15 (Nat.le_refl _); replace Hw := Hw.trans (kb15.mono Hw.size); clear kb15; clear tk5))
  go_wp2_with fail
  go_ret
  exact ⟨rfl, Hw⟩
end Go.Proofs.YticfggljaagcmaaDoor
