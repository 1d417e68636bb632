/-
  BigTexts, walked.
-/
import Derived.Test.YticfggljaagcmaaDoorAwake
import Derived.Test.YticfggljaagcmaaDoorRInts2
import Derived.Test.YticfggljaagcmaaDoorRTexts
namespace Go.Proofs.YticfggljaagcmaaDoor
set_option linter.all false
open Go.RowKit

theorem prs_txt (z : Int) : prs (txt z) = some z := by
  unfold txt
  by_cases hz : z < 0
  · rw [if_pos hz]
    unfold prs
    rw [if_pos (by rfl)]
    show (if isNum (Lib.decDigits z.natAbs) = true ∧ rdr 0 (Lib.decDigits z.natAbs) ≠ 0 then some (-(rdr 0 (Lib.decDigits z.natAbs) : Int)) else none) = some z
    rw [if_pos ⟨dec_isNum _, by rw [rdr_dec]; omega⟩, rdr_dec]
    congr 1
    omega
  · rw [if_neg hz]
    unfold prs
    rw [if_neg (by
      intro h
      rcases hd : Lib.decDigits z.natAbs with _ | ⟨c, r⟩
      · rw [hd] at h; cases h
      · rw [hd] at h
        have := dec_all z.natAbs c (by rw [hd]; simp)
        simp only [List.head?_cons, Option.some.injEq] at h
        subst h
        exact absurd this.2 (by decide)), if_pos (dec_isNum _), rdr_dec]
    congr 1
    omega
theorem txt_len {f : Nat → Nat} {n c : Nat} {w : World} {a : Option Addr} {sg : Bool} (hu : Us w a n c f) : (txt (ival sg (val f n))).length ≤ 18 * n + 2 := by
  have h1 := val_dec hu
  have h2 : (ival sg (val f n)).natAbs = val f n := by unfold ival; cases sg <;> simp
  unfold txt
  rw [h2]
  split
  · simp only [List.length_cons]; omega
  · omega
def ResB (w w' : World) (z er : Int) (L : Nat) (e : Ending) : Prop :=
  ∃ sg a n c f, e = .returned (.tuple #[.agg #[.bool sg, .slice a n c], .int .i64 er]) ∧ Us w' a n c f ∧ New w' w.heap.size a c ∧ Below w.heap.size w w' ∧ Nm f n ∧ (n = 0 → sg = false) ∧ ival sg (val f n) = z ∧ n ≤ L
theorem ResE.both {w w' : World} {e : Ending} (h : ResE w w' e) (L : Nat) : ResB w w' 0 11 L e :=
  ⟨false, none, 0, 0, fun _ => 0, h.1, Us.nil _ _, New.nil _ _ _, h.2, .inl rfl, fun _ => rfl, rfl, Nat.zero_le _⟩
theorem parse_both (l : List UInt8) (w : World) (z er : Int) (hl : l.length ≤ 274877906944) (h : Hid ((prs l).getD 0 = z ∧ (if prs l = none then 11 else 0 : Int) = er)) :
    Calls Tryd.prog 14 #[.string ⟨l.toArray⟩] w fun e w' => ResB w w' z er l.length e := by
  obtain ⟨h1, h2⟩ := h.out
  rcases hp : prs l with _ | y
  · rw [hp] at h1 h2; subst h1; subst h2
    exact (parse_bad l w hl hp).mono fun e w' h => h.both _
  · rw [hp] at h1 h2; subst h1; subst h2
    exact parse_good l w y hl hp
theorem rparse_both (l : List UInt8) (w : World) (z er : Int) (hl : l.length ≤ 274877906944) (h : Hid ((prs l).getD 0 = z ∧ (if prs l = none then 11 else 0 : Int) = er)) :
    Calls Tryd.prog 15 #[.string ⟨l.toArray⟩] w fun e w' => ResB w w' z er l.length e := by
  obtain ⟨h1, h2⟩ := h.out
  rcases hp : prs l with _ | y
  · rw [hp] at h1 h2; subst h1; subst h2
    exact (rparse_bad l w hl hp).mono fun e w' h => h.both _
  · rw [hp] at h1 h2; subst h1; subst h2
    exact rparse_good l w y hl hp

set_option maxHeartbeats 16000000 in
set_option maxRecDepth 100000 in
theorem bigTexts_walk (sgA : Bool) (aA : Option Addr) (nA cA : Nat) (fA : Nat → Nat) (l : List UInt8) (w : World) (hA : nA ≤ 1048576) (UA : Us w aA nA cA fA) (hl : l.length ≤ 1048576) :
    Calls Tryd.prog 4 #[.string ⟨l.toArray⟩, .agg #[.bool sgA, .slice aA nA cA]] w fun e w' => e = .returned (.bool true) ∧ Below w.heap.size w w' := by
  have Hw := Below.refl w.heap.size w
  obtain ⟨A, VA⟩ : ∃ A : Int, Hid (ival sgA (val fA nA) = A) := ⟨_, hid rfl⟩
  obtain ⟨zl, er, HP⟩ : ∃ z er : Int, Hid ((prs l).getD 0 = z ∧ (if prs l = none then 11 else 0 : Int) = er) := ⟨_, _, hid ⟨rfl, rfl⟩⟩
  obtain ⟨T, HT⟩ : ∃ T : List UInt8, Hid (txt A = T) := ⟨_, hid rfl⟩
  have HQ := hid (prs_txt A)
  rw [HT.out] at HQ
  have hT : T.length ≤ 274877906944 := (by rw [← HT.out, ← VA.out]; exact Nat.le_trans (txt_len UA) (by omega))
  have BA : Bx (w.alloc (.cells #[.bool sgA, .slice aA nA cA] 24)) (w.heap.size) (.bool sgA) (.slice aA nA cA) := by exact Bx.made w (.bool sgA) (.slice aA nA cA) 24
  replace UA := UA.alloc (.cells #[.bool sgA, .slice aA nA cA] 24)
  replace Hw := Hw.alloc (Nat.le_refl _) (.cells #[.bool sgA, .slice aA nA cA] 24)
  go_enter Tryd.func4, Tryd.ntmps4
  go_wp2_with fail
  generalize (w.alloc (.cells #[.bool sgA, .slice aA nA cA] 24)) = w1 at BA UA Hw ⊢
  refine (awake_any _).mono ?_
  rintro e w2 ⟨rfl, kb2⟩
  replace BA := BA.keep kb2
  replace UA := UA.below kb2 (Nat.le_refl _)
  replace Hw := Hw.trans (kb2.mono Hw.size)
  clear kb2
  have rA0 := BA.c0
  have rA1 := BA.c1
  go_wp2_with fail
  clear rA0 rA1
  refine (parse_both _ _ _ _ (by omega) HP).mono ?_
  rintro e w3 ⟨sgpa, apa, npa, cpa, fpa, rfl, k1, k2, kb3, k4, k5, k6, Lpa⟩
  have Vpa : Hid (ival sgpa (val fpa npa) = zl) := hid k6
  have Mpa := k4
  have Spa := hid k5
  clear k6 k5 k4 k2
  replace BA := BA.keep kb3
  replace UA := UA.below kb3 (Nat.le_refl _)
  replace Hw := Hw.trans (kb3.mono Hw.size)
  have Upa := k1
  clear k1
  clear kb3
  have Npa := Bx.made w3 (.bool sgpa) (.slice apa npa cpa) 24
  replace BA := BA.alloc (.cells #[.bool sgpa, .slice apa npa cpa] 24)
  replace UA := UA.alloc (.cells #[.bool sgpa, .slice apa npa cpa] 24)
  replace Upa := Upa.alloc (.cells #[.bool sgpa, .slice apa npa cpa] 24)
  replace Hw := Hw.alloc Hw.size (.cells #[.bool sgpa, .slice apa npa cpa] 24)
  have Bpa := Npa
  clear Npa
  have rA0 := BA.c0
  have rA1 := BA.c1
  have rpa0 := Bpa.c0
  have rpa1 := Bpa.c1
  go_wp2_with fail
  clear rA0 rA1 rpa0 rpa1
  generalize (w3.alloc (.cells #[.bool sgpa, .slice apa npa cpa] 24)) = w4 at BA Bpa UA Upa Hw ⊢
  refine (rparse_both _ _ _ _ (by omega) HP).mono ?_
  rintro e w5 ⟨sgpb, apb, npb, cpb, fpb, rfl, k1, k2, kb5, k4, k5, k6, Lpb⟩
  have Vpb : Hid (ival sgpb (val fpb npb) = zl) := hid k6
  have Mpb := k4
  have Spb := hid k5
  clear k6 k5 k4 k2
  replace BA := BA.keep kb5
  replace Bpa := Bpa.keep kb5
  replace UA := UA.below kb5 (Nat.le_refl _)
  replace Upa := Upa.below kb5 (Nat.le_refl _)
  replace Hw := Hw.trans (kb5.mono Hw.size)
  have Upb := k1
  clear k1
  clear kb5
  have Npb := Bx.made w5 (.bool sgpb) (.slice apb npb cpb) 24
  replace BA := BA.alloc (.cells #[.bool sgpb, .slice apb npb cpb] 24)
  replace Bpa := Bpa.alloc (.cells #[.bool sgpb, .slice apb npb cpb] 24)
  replace UA := UA.alloc (.cells #[.bool sgpb, .slice apb npb cpb] 24)
  replace Upa := Upa.alloc (.cells #[.bool sgpb, .slice apb npb cpb] 24)
  replace Upb := Upb.alloc (.cells #[.bool sgpb, .slice apb npb cpb] 24)
  replace Hw := Hw.alloc Hw.size (.cells #[.bool sgpb, .slice apb npb cpb] 24)
  have Bpb := Npb
  clear Npb
  have rA0 := BA.c0
  have rA1 := BA.c1
  have rpa0 := Bpa.c0
  have rpa1 := Bpa.c1
  have rpb0 := Bpb.c0
  have rpb1 := Bpb.c1
  go_wp2_with fail
  clear rA0 rA1 rpa0 rpa1 rpb0 rpb1
  generalize (w5.alloc (.cells #[.bool sgpb, .slice apb npb cpb] 24)) = w6 at BA Bpa Bpb UA Upa Upb Hw ⊢
  refine (text_any _ _ _ _ _ _ (by omega) UA).mono ?_
  rintro e w7 ⟨rfl, kb7⟩
  rw [VA.out, HT.out]
  replace BA := BA.keep kb7
  replace Bpa := Bpa.keep kb7
  replace Bpb := Bpb.keep kb7
  replace UA := UA.below kb7 (Nat.le_refl _)
  replace Upa := Upa.below kb7 (Nat.le_refl _)
  replace Upb := Upb.below kb7 (Nat.le_refl _)
  replace Hw := Hw.trans (kb7.mono Hw.size)
  clear kb7
  have rA0 := BA.c0
  have rA1 := BA.c1
  have rpa0 := Bpa.c0
  have rpa1 := Bpa.c1
  have rpb0 := Bpb.c0
  have rpb1 := Bpb.c1
  go_wp2_with fail
  clear rA0 rA1 rpa0 rpa1 rpb0 rpb1
  refine (parse_good _ _ _ hT HQ.out).mono ?_
  rintro e w8 ⟨sgpc, apc, npc, cpc, fpc, rfl, k1, k2, kb8, k4, k5, k6, Lpc⟩
  have Vpc : Hid (ival sgpc (val fpc npc) = A) := hid k6
  have Mpc := k4
  have Spc := hid k5
  clear k6 k5 k4 k2
  replace BA := BA.keep kb8
  replace Bpa := Bpa.keep kb8
  replace Bpb := Bpb.keep kb8
  replace UA := UA.below kb8 (Nat.le_refl _)
  replace Upa := Upa.below kb8 (Nat.le_refl _)
  replace Upb := Upb.below kb8 (Nat.le_refl _)
  replace Hw := Hw.trans (kb8.mono Hw.size)
  have Upc := k1
  clear k1
  clear kb8
  have Npc := Bx.made w8 (.bool sgpc) (.slice apc npc cpc) 24
  replace BA := BA.alloc (.cells #[.bool sgpc, .slice apc npc cpc] 24)
  replace Bpa := Bpa.alloc (.cells #[.bool sgpc, .slice apc npc cpc] 24)
  replace Bpb := Bpb.alloc (.cells #[.bool sgpc, .slice apc npc cpc] 24)
  replace UA := UA.alloc (.cells #[.bool sgpc, .slice apc npc cpc] 24)
  replace Upa := Upa.alloc (.cells #[.bool sgpc, .slice apc npc cpc] 24)
  replace Upb := Upb.alloc (.cells #[.bool sgpc, .slice apc npc cpc] 24)
  replace Upc := Upc.alloc (.cells #[.bool sgpc, .slice apc npc cpc] 24)
  replace Hw := Hw.alloc Hw.size (.cells #[.bool sgpc, .slice apc npc cpc] 24)
  have Bpc := Npc
  clear Npc
  have rA0 := BA.c0
  have rA1 := BA.c1
  have rpa0 := Bpa.c0
  have rpa1 := Bpa.c1
  have rpb0 := Bpb.c0
  have rpb1 := Bpb.c1
  have rpc0 := Bpc.c0
  have rpc1 := Bpc.c1
  go_wp2_with fail
  clear rA0 rA1 rpa0 rpa1 rpb0 rpb1 rpc0 rpc1
  generalize (w8.alloc (.cells #[.bool sgpc, .slice apc npc cpc] 24)) = w9 at BA Bpa Bpb Bpc UA Upa Upb Upc Hw ⊢
  replace BA := BA.drew
  replace Bpa := Bpa.drew
  replace Bpb := Bpb.drew
  replace Bpc := Bpc.drew
  replace UA := UA.drew
  replace Upa := Upa.drew
  replace Upb := Upb.drew
  replace Upc := Upc.drew
  replace Hw := Hw.drew
  have tk1 : True := trivial
  have tk2 : True := trivial
  have tk3 : True := trivial
  have tk4 : True := trivial
  go_region_held3 (fun wx => (wx.cell? ⟨w.heap.size, 0, none⟩ = some (.bool sgA) ∧ wx.cell? ⟨w.heap.size, 1, none⟩ = some (.slice aA nA cA)) ∧ (wx.cell? ⟨w3.heap.size, 0, none⟩ = some (.bool sgpa) ∧ wx.cell? ⟨w3.heap.size, 1, none⟩ = some (.slice apa npa cpa)) ∧ (wx.cell? ⟨w5.heap.size, 0, none⟩ = some (.bool sgpb) ∧ wx.cell? ⟨w5.heap.size, 1, none⟩ = some (.slice apb npb cpb)) ∧ (wx.cell? ⟨w8.heap.size, 0, none⟩ = some (.bool sgpc) ∧ wx.cell? ⟨w8.heap.size, 1, none⟩ = some (.slice apc npc cpc))) (with_reducible exact ⟨⟨BA.c0, BA.c1⟩, ⟨Bpa.c0, Bpa.c1⟩, ⟨Bpb.c0, Bpb.c1⟩, ⟨Bpc.c0, Bpc.c1⟩⟩) (first | (have _t := tk1; go_at_call 13; refine (lis_any _ _ _ _ _ _ _ _ _ _ _ (by omega) (by omega) Upa Upb).mono ?_; rintro e w10 ⟨rfl, kb10⟩; rw [Vpa.out, Vpb.out, stB_iff.2 ⟨Mpa, Spa.out⟩]; replace BA := BA.keep kb10; replace Bpa := Bpa.keep kb10; replace Bpb := Bpb.keep kb10; replace Bpc := Bpc.keep kb10; replace UA := UA.below kb10 (Nat.le_refl _); replace Upa := Upa.below kb10 (Nat.le_refl _); replace Upb := Upb.below kb10 (Nat.le_refl _); replace Upc := Upc.below kb10 (Nat.le_refl _); replace Hw := Hw.trans (kb10.mono Hw.size); clear kb10; clear tk1) | (have _t := tk2; go_at_call 17; refine (rtext_any _ _ _ _ _ _ (by omega) UA).mono ?_; rintro e w11 ⟨rfl, kb11⟩; rw [VA.out, HT.out]; replace BA := BA.keep kb11; replace Bpa := Bpa.keep kb11; replace Bpb := Bpb.keep kb11; replace Bpc := Bpc.keep kb11; replace UA := UA.below kb11 (Nat.le_refl _); replace Upa := Upa.below kb11 (Nat.le_refl _); replace Upb := Upb.below kb11 (Nat.le_refl _); replace Upc := Upc.below kb11 (Nat.le_refl _); replace Hw := Hw.trans (kb11.mono Hw.size); clear kb11; clear tk2) | (have _t := tk3; go_at_call 18; refine (rnorm_any _ _ _ _ _ _ (by omega) UA).mono ?_; rintro e w12 ⟨sgrn, arn, nrn, crn, frn, rfl, k1, k2, kb12, k4, k5, k6, Lrn⟩; have Vrn : Hid (ival sgrn (val frn nrn) = A) := hid (by rw [k6, VA.out]); have Mrn := k4; have Srn := hid k5; clear k6 k5 k4 k2; replace BA := BA.keep kb12; replace Bpa := Bpa.keep kb12; replace Bpb := Bpb.keep kb12; replace Bpc := Bpc.keep kb12; replace UA := UA.below kb12 (Nat.le_refl _); replace Upa := Upa.below kb12 (Nat.le_refl _); replace Upb := Upb.below kb12 (Nat.le_refl _); replace Upc := Upc.below kb12 (Nat.le_refl _); replace Hw := Hw.trans (kb12.mono Hw.size); have Urn := k1; clear k1; clear kb12; clear tk3) | (have _t := tk4; go_at_call 13; refine (lis_any _ _ _ _ _ _ _ _ _ _ _ (by omega) (by omega) Upc Urn).mono ?_; rintro e w13 ⟨rfl, kb13⟩; rw [Vpc.out, Vrn.out, stB_iff.2 ⟨Mpc, Spc.out⟩]; replace BA := BA.keep kb13; replace Bpa := Bpa.keep kb13; replace Bpb := Bpb.keep kb13; replace Bpc := Bpc.keep kb13; replace UA := UA.below kb13 (Nat.le_refl _); replace Upa := Upa.below kb13 (Nat.le_refl _); replace Upb := Upb.below kb13 (Nat.le_refl _); replace Upc := Upc.below kb13 (Nat.le_refl _); replace Urn := Urn.below kb13 (Nat.le_refl _); replace Hw := Hw.trans (kb13.mono Hw.size); clear kb13; clear tk4))
  go_wp2_with fail
  go_ret
  exact ⟨rfl, Hw⟩
end Go.Proofs.YticfggljaagcmaaDoor
