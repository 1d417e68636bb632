/-
  The reference's Text and Parse, walked.
-/
import Derived.Test.YticfggljaagcmaaDoorTextsB
import Derived.Test.YticfggljaagcmaaDoorRText
import Derived.Test.YticfggljaagcmaaDoorRParse
import Derived.Test.YticfggljaagcmaaDoorRInts1
namespace Go.Proofs.YticfggljaagcmaaDoor
set_option linter.all false
open Go.RowKit Go.Shelf

set_option maxHeartbeats 1000000 in
theorem rtext_any (neg : Bool) (a : Option Addr) (n c : Nat) (f : Nat → Nat) (w : World) (hn : n ≤ 274877906944) (hu : Us w a n c f) :
    Calls Tryd.prog 17 #[.agg #[.bool neg, .slice a n c]] w fun e w' => e = .returned (.string ⟨(txt (ival neg (val f n))).toArray⟩) ∧ Below w.heap.size w w' := by
  have hdl := val_dec hu
  by_cases hz : ival neg (val f n) < 0
  · have hna : (ival neg (val f n)).natAbs = val f n := by unfold ival; cases neg <;> simp
    have HT := hid (show txt (ival neg (val f n)) = 126 :: Lib.decDigits (val f n) by unfold txt; rw [if_pos hz, hna])
    have hsz : ¬ 9223372036854775807 < 1 + (Lib.decDigits (val f n)).length := by omega
    have HS := hid (sgn_neg hz)
    clear hz hna
    have hcat := hid (cat_byte 126 (Lib.decDigits (val f n)))
    generalize hD : Lib.decDigits (val f n) = D at hdl HT hsz hcat
    have HD := hid hD
    clear hD
    go_enter Tryd.func17, Tryd.ntmps17
    go_wp2_with (first | (go_at_call 54; refine (rnatText_any _ _ _ _ _ (by omega) (hu.alloc _)).mono ?_; rintro e w1 ⟨rfl, k3⟩; rw [HD.out]; obtain ⟨r0, r1, r2, r3, r4⟩ := new2 k3) | (go_at_call 30; refine (rsign_any _ _ _ _ _ _ (by omega) ((hu.alloc _).below k3 (Nat.le_refl _))).mono ?_; rintro e w2 ⟨rfl, k4⟩; rw [HS.out]))
    go_ret
    have hb : Below w.heap.size w w1 := (below_alloc w _).trans (k3.mono (by simp))
    exact ⟨by rw [HT.out, ← hcat.out]; rfl, hb.trans (k4.mono hb.size)⟩
  · have hna : (ival neg (val f n)).natAbs = val f n := by unfold ival; cases neg <;> simp
    have HT := hid (show txt (ival neg (val f n)) = Lib.decDigits (val f n) by unfold txt; rw [if_neg hz, hna])
    have HS : Hid (sgn (ival neg (val f n)) = 0 ∨ sgn (ival neg (val f n)) = 1) := by
      unfold sgn; rw [if_neg hz]
      refine hid ?_
      split
      · exact .inr rfl
      · exact .inl rfl
    clear hz hna
    rcases HS.out with hs | hs
    all_goals
      have HS := hid hs
      clear hs
      go_enter Tryd.func17, Tryd.ntmps17
      go_wp2_with (first | (go_at_call 54; refine (rnatText_any _ _ _ _ _ (by omega) (hu.alloc _)).mono ?_; rintro e w1 ⟨rfl, k3⟩; obtain ⟨r0, r1, r2, r3, r4⟩ := new2 k3) | (go_at_call 30; refine (rsign_any _ _ _ _ _ _ (by omega) ((hu.alloc _).below k3 (Nat.le_refl _))).mono ?_; rintro e w2 ⟨rfl, k4⟩; rw [HS.out]))
      go_ret
      have hb : Below w.heap.size w w1 := (below_alloc w _).trans (k3.mono (by simp))
      exact ⟨by rw [HT.out]; rfl, hb.trans (k4.mono hb.size)⟩

theorem head_no {c : UInt8} (h : c ≠ 126) : ¬ (c.toNat : Int) = 126 ∧ ((c.toNat : Int) == 126) = false := by
  have : ¬ (c.toNat : Int) = 126 := fun e => h (UInt8.toNat_inj.1 (by rw [show (126 : UInt8).toNat = 126 from rfl]; omega))
  exact ⟨this, by simpa using this⟩

set_option maxHeartbeats 2000000 in
theorem rparse_num (c : UInt8) (l : List UInt8) (w : World) (hl : (c :: l).length ≤ 274877906944) (hc : c ≠ 126) (hd : isNum (c :: l) = true) :
    Calls Tryd.prog 15 #[.string ⟨(c :: l).toArray⟩] w fun e w' => ResP w w' (rdr 0 (c :: l) : Int) (c :: l).length e := by
  obtain ⟨g1, g2⟩ := head_no hc
  have hx : (({ data := (c :: l).toArray } : ByteArray)[0]'(by simp [ByteArray.size])).toNat = c.toNat := rfl
  have hll : l.length + 1 ≤ 274877906944 := hl
  have HL := hid hl
  clear hl hc
  go_enter Tryd.func15, Tryd.ntmps15
  go_wp2_with (first | (go_at_call 52; refine (rnatParse_good _ _ HL.out hd).mono ?_; rintro e w1 ⟨ap, np, cp, hp, rfl, k1, k3, k4, k5⟩; obtain ⟨r0, r1, r2, r3, r4⟩ := new2 k3) | (go_at_call 18; refine (rnorm_any _ _ _ _ _ _ (by have := HL.out; omega) k1).mono ?_; rintro e w2 ⟨sgx, ax, nx, cx, fx, rfl, x1, x2, x3, x4, x5, x6, x7⟩; obtain ⟨hcx, hfx⟩ := bcell x3; have X6 := hid x6; have X5 := hid x5; clear x6 x5))
  have hB : Below w.heap.size w w1 := (below_alloc w _).trans (k3.mono (by simp))
  exact bodyPost_ret (by simp [results, Tryd.results15, go_sem, hcx, r0, r1, r4]) rfl (ResP.out x1 x2 x3 x4 X5.out X6.out x7 hB (Nat.le_refl _) r4 (by rw [k4.out]; rfl) (by omega) _ _)

set_option maxHeartbeats 2000000 in
theorem rparse_neg (d : List UInt8) (w : World) (hl : (126 :: d : List UInt8).length ≤ 274877906944) (hd : isNum d = true) (h0 : rdr 0 d ≠ 0) :
    Calls Tryd.prog 15 #[.string ⟨(126 :: d).toArray⟩] w fun e w' => ResP w w' (-(rdr 0 d : Int)) (126 :: d).length e := by
  have hx : (({ data := (126 :: d).toArray } : ByteArray)[0]'(by simp [ByteArray.size])).toNat = 126 := rfl
  have hll : d.length + 1 ≤ 274877906944 := hl
  have HD := hid (show ((⟨(126 :: d).toArray⟩ : ByteArray).extract 1 (d.length + 1)) = ⟨d.toArray⟩ by rw [extr, List.take_of_length_le (by simp)]; rfl)
  have HL := hid hl
  have H00 := hid h0
  clear hl h0
  go_enter Tryd.func15, Tryd.ntmps15
  go_wp2_with (first | (go_at_call 52; rw [HD.out]; refine (rnatParse_good _ _ (by omega) hd).mono ?_; rintro e w1 ⟨ap, np, cp, hp, rfl, k1, k3, k4, k5⟩; obtain ⟨r0, r1, r2, r3, r4⟩ := new2 k3) | (go_at_call 47; refine (rtrim_any _ _ _ _ _ (by omega) k1).mono ?_; rintro e w2 ⟨at', nt, ct, ft, rfl, t1, t2, t3, t4, t5, t6⟩; have T5 := hid t5; clear t5; obtain ⟨hct, hft⟩ := bcell t3; have hz2 : w.heap.size < w2.heap.size := Nat.lt_of_lt_of_le r4 t3.size; have hne : ¬ (nt : Int) = 0 := (by intro e0; have e1 : nt = 0 := (by omega); have e2 := T5.out; rw [t4.zero.2 e1] at e2; exact H00.out (by rw [← k4.out]; exact e2.symm)); have hne2 : ((nt : Int) == 0) = false := (by simpa using hne)) | (go_at_call 18; refine (rnorm_any _ _ _ _ _ _ (by omega) (k1.below t3 (Nat.le_refl _))).mono ?_; rintro e w3 ⟨sgx, ax, nx, cx, fx, rfl, x1, x2, x3, x4, x5, x6, x7⟩; obtain ⟨hcx, hfx⟩ := bcell x3; have X6 := hid x6; have X5 := hid x5; clear x6 x5))
  have hB : Below w.heap.size w w1 := (below_alloc w _).trans (k3.mono (by simp))
  have hB2 : Below w.heap.size w w2 := hB.trans (t3.mono hB.size)
  exact bodyPost_ret (by simp [results, Tryd.results15, go_sem, hcx, hct, r0, r1, r4, hz2]) rfl (ResP.out x1 x2 x3 x4 X5.out X6.out x7 hB2 (Nat.le_refl _) hz2 (by rw [k4.out]; rfl) (Nat.le_trans k5 (Nat.le_succ _)) _ _)

set_option maxHeartbeats 2000000 in
theorem rparse_nought (d : List UInt8) (w : World) (hl : (126 :: d : List UInt8).length ≤ 274877906944) (hd : isNum d = true) (h0 : rdr 0 d = 0) :
    Calls Tryd.prog 15 #[.string ⟨(126 :: d).toArray⟩] w fun e w' => ResE w w' e := by
  have hx : (({ data := (126 :: d).toArray } : ByteArray)[0]'(by simp [ByteArray.size])).toNat = 126 := rfl
  have hll : d.length + 1 ≤ 274877906944 := hl
  have HD := hid (show ((⟨(126 :: d).toArray⟩ : ByteArray).extract 1 (d.length + 1)) = ⟨d.toArray⟩ by rw [extr, List.take_of_length_le (by simp)]; rfl)
  have H00 := hid h0
  clear hl h0
  go_enter Tryd.func15, Tryd.ntmps15
  go_wp2_with (first | (go_at_call 52; rw [HD.out]; refine (rnatParse_good _ _ (by omega) hd).mono ?_; rintro e w1 ⟨ap, np, cp, hp, rfl, k1, k3, k4, k5⟩; obtain ⟨r0, r1, r2, r3, r4⟩ := new2 k3) | (go_at_call 47; refine (rtrim_any _ _ _ _ _ (by omega) k1).mono ?_; rintro e w2 ⟨at', nt, ct, ft, rfl, t1, t2, t3, t4, t5, t6⟩; have T5 := hid t5; clear t5; obtain ⟨hct, hft⟩ := bcell t3; have hz2 : w.heap.size < w2.heap.size := Nat.lt_of_lt_of_le r4 t3.size; have hne : nt = 0 := (t4.zero.1 (by rw [T5.out, k4.out]; exact H00.out)); subst hne))
  have hB : Below w.heap.size w w1 := (below_alloc w _).trans (k3.mono (by simp))
  have hB2 : Below w.heap.size w w2 := hB.trans (t3.mono hB.size)
  exact bodyPost_ret (by simp [results, Tryd.results15, go_sem, hct, r0, r1, r4, hz2]) rfl ⟨rfl, (hB2.setCell (by simp) _).setCell (by simp) _⟩

set_option maxHeartbeats 2000000 in
theorem rparse_no1 (d : List UInt8) (w : World) (hl : (126 :: d : List UInt8).length ≤ 274877906944) (hd : isNum d = false) :
    Calls Tryd.prog 15 #[.string ⟨(126 :: d).toArray⟩] w fun e w' => ResE w w' e := by
  have hx : (({ data := (126 :: d).toArray } : ByteArray)[0]'(by simp [ByteArray.size])).toNat = 126 := rfl
  have hll : d.length + 1 ≤ 274877906944 := hl
  have HD := hid (show ((⟨(126 :: d).toArray⟩ : ByteArray).extract 1 (d.length + 1)) = ⟨d.toArray⟩ by rw [extr, List.take_of_length_le (by simp)]; rfl)
  clear hl
  go_enter Tryd.func15, Tryd.ntmps15
  go_wp2_with (go_at_call 52; rw [HD.out]; refine (rnatParse_bad _ _ (by omega) hd).mono ?_; rintro e w1 ⟨rfl, hw1⟩; obtain rfl := hw1.symm)
  have hB : Below w.heap.size w _ := below_alloc w (.cells #[.bool false, .slice none 0 0] 24)
  exact bodyPost_ret (by simp [results, Tryd.results15, go_sem]) rfl ⟨rfl, hB⟩

set_option maxHeartbeats 2000000 in
theorem rparse_no2 (c : UInt8) (l : List UInt8) (w : World) (hl : (c :: l).length ≤ 274877906944) (hc : c ≠ 126) (hd : isNum (c :: l) = false) :
    Calls Tryd.prog 15 #[.string ⟨(c :: l).toArray⟩] w fun e w' => ResE w w' e := by
  obtain ⟨g1, g2⟩ := head_no hc
  have hx : (({ data := (c :: l).toArray } : ByteArray)[0]'(by simp [ByteArray.size])).toNat = c.toNat := rfl
  have hll : l.length + 1 ≤ 274877906944 := hl
  have HL := hid hl
  clear hl hc
  go_enter Tryd.func15, Tryd.ntmps15
  go_wp2_with (go_at_call 52; refine (rnatParse_bad _ _ HL.out hd).mono ?_; rintro e w1 ⟨rfl, hw1⟩; obtain rfl := hw1.symm)
  have hB : Below w.heap.size w _ := below_alloc w (.cells #[.bool false, .slice none 0 0] 24)
  exact bodyPost_ret (by simp [results, Tryd.results15, go_sem]) rfl ⟨rfl, hB⟩

set_option maxHeartbeats 2000000 in
theorem rparse_no3 (w : World) :
    Calls Tryd.prog 15 #[.string ⟨([] : List UInt8).toArray⟩] w fun e w' => ResE w w' e := by
  go_enter Tryd.func15, Tryd.ntmps15
  go_wp2_with (go_at_call 52; refine (rnatParse_bad [] _ (by simp) rfl).mono ?_; rintro e w1 ⟨rfl, hw1⟩; obtain rfl := hw1.symm)
  have hB : Below w.heap.size w _ := below_alloc w (.cells #[.bool false, .slice none 0 0] 24)
  exact bodyPost_ret (by simp [results, Tryd.results15, go_sem]) rfl ⟨rfl, hB⟩

theorem rparse_good (l : List UInt8) (w : World) (z : Int) (hl : l.length ≤ 274877906944) (h : prs l = some z) :
    Calls Tryd.prog 15 #[.string ⟨l.toArray⟩] w fun e w' => ResP w w' z l.length e := by
  unfold prs at h
  split at h
  · rename_i hh
    split at h
    · rename_i hq
      rcases l with _ | ⟨c, d⟩
      · cases hh
      · simp only [List.head?_cons, Option.some.injEq] at hh
        subst hh
        simp only [List.tail_cons] at hq h
        simp only [Option.some.injEq] at h
        rw [← h]
        exact rparse_neg d w hl hq.1 hq.2
    · cases h
  · rename_i hh
    split at h
    · rename_i hq
      rcases l with _ | ⟨c, d⟩
      · cases hq
      · simp only [Option.some.injEq] at h
        rw [← h]
        exact rparse_num c d w hl (fun e => hh (by rw [e]; rfl)) hq
    · cases h

theorem rparse_bad (l : List UInt8) (w : World) (hl : l.length ≤ 274877906944) (h : prs l = none) :
    Calls Tryd.prog 15 #[.string ⟨l.toArray⟩] w fun e w' => ResE w w' e := by
  rcases l with _ | ⟨c, d⟩
  · exact rparse_no3 w
  unfold prs at h
  split at h
  · rename_i hh
    simp only [List.head?_cons, Option.some.injEq] at hh
    subst hh
    change (if isNum d = true ∧ rdr 0 d ≠ 0 then some (-(rdr 0 d : Int)) else none) = none at h
    by_cases hq : isNum d = true ∧ rdr 0 d ≠ 0
    · rw [if_pos hq] at h; cases h
    · rcases hn : isNum d with _ | _
      · exact rparse_no1 d w hl hn
      · have h0 : rdr 0 d = 0 := by
          rcases Nat.eq_zero_or_pos (rdr 0 d) with q | q
          · exact q
          · exact absurd ⟨hn, by omega⟩ hq
        exact rparse_nought d w hl hn h0
  · rename_i hh
    split at h
    · cases h
    · rename_i hq
      exact rparse_no2 c d w hl (fun e => hh (by rw [e]; rfl)) (by simpa using hq)
end Go.Proofs.YticfggljaagcmaaDoor
