/-
  blanks, walked.
-/
import Derived.Test.YtkblonfmjlopaaaGreatDoorLxNumP
import Derived.Test.YtkblonfmjlopaaaGreatDoorLxWord
set_option linter.all false
set_option maxRecDepth 1000000
set_option maxHeartbeats 16000000
namespace Go.Proofs.YtkblonfmjlopaaaGreatDoor
open Go Go.RowKit
theorem blanks_any (b : Nat) (s : ByteArray) (p : Nat) (ts : List Tok) (base : Nat) (w : World) (hs : s.size ≤ 65536) (hp : p ≤ s.size) (h : St w b s p ts base) :
    Calls Tryz.prog 17 #[.pointer (some ⟨b, 0, none⟩)] w fun e w' => OutB w w' b s ts base e (blankE s 0 p) := by
  obtain ⟨R, HE⟩ : ∃ R, Hid (blankE s 0 p = R) := ⟨_, hid rfl⟩; rw [HE.out]; have hb := h.base; go_enter Tryz.func17, Tryz.ntmps17
  go_wp2
  go_loopw [2] (fun dv wr => BR w b s ts base R dv wr) (fun _ wr => zr wr b s)
  case atStart => exact .inl ⟨0, p, rfl, by omega, hp, h, Below.refl _ _, UsK.refl _, HE⟩
  case round =>
    rcases hrel with ⟨d, q, rfl, hdq, hq, hst, hbl, huk, HN⟩ | ⟨q, la, ln, lc, hsc, rfl, hbl, huk, rfl⟩
    rotate_left 1
    · have k3 := hsc.c3
      go_wp2
      go_end0; exact ⟨rfl, hbl, huk, _, la, ln, lc, hsc⟩
    have hst0 := hst; obtain ⟨la, lc, h1, h2, h3, h4, h5, h6⟩ := hst; have k0 := h1.c0; have k1 := h1.c1; have k3 := h1.c3; have kf := h1.fr 1; obtain ⟨c, hc⟩ : ∃ c, bt s (q + 0) = c := ⟨_, rfl⟩; obtain ⟨c1, hc1⟩ : ∃ c1, bt s (q + 1) = c1 := ⟨_, rfl⟩; have hc6 : c < 256 := hc ▸ bt_lt s _; have hc16 : c1 < 256 := hc1 ▸ bt_lt s _; have hin : c ≠ 0 → q < s.size := fun x => bt_in2 hc x; have hin1 : c1 ≠ 0 → q + 1 < s.size := fun x => bt_in2 hc1 x; have HU := blankE_unfold (s := s) (d := d) hq; rw [show bt s q = c from hc, hc1] at HU; have HC := hid hc; have HC1 := hid hc1; have tk : True := trivial; clear h2 h3 h5 h6 hc hc1 h
    by_cases hA : c = 40 ∧ c1 = 42
    · obtain ⟨rfl, rfl⟩ := hA; have hlt := hin1 (by omega); clear hin hin1; rw [if_pos ⟨rfl, rfl⟩, HN.out] at HU; have HN2 := hid HU.symm; clear HU
      go_wp2_with (first | (have _t := tk; go_at_call 47; refine (peek_any b s q 0 la ts.length lc 0 0 _ (by omega) (by omega) (by omega) h1).mono ?_; rintro e w1 ⟨rfl, q1, rfl⟩; rw [HC.out]; clear tk) | (go_at_call 47; refine (peek_any b s q 1 la ts.length lc 0 0 _ (by omega) (by omega) (by omega) (h1.drewN _)).mono ?_; rintro e w1 ⟨rfl, q2, rfl⟩; rw [HC1.out]))
      refine ⟨.inl ⟨d + 1, q + 2, ?_, by omega, by omega, (hst0.drewN _).at (by omega), (hbl.trans (below_drewB _ _)).setCell hb _, (huk.trans (UsK.below (drewN_below _ _))).trans ((hst0.drewN _).usAt _), HN2⟩, ?_⟩
      · first | rfl | exact congrArg (Value.int .i64) (by omega)
      · refine Nat.lt_of_le_of_lt (Nat.le_of_eq (zr_at (p' := q + 2) (hst0.drewN _) ?_ (by omega))) ?_
        · first | rfl | exact congrArg (Value.int .i64) (by omega)
        · rw [hst0.zr]; omega
    rw [if_neg hA] at HU
    by_cases hB : 0 < d ∧ c = 42 ∧ c1 = 41
    · obtain ⟨hd, rfl, rfl⟩ := hB; have hlt := hin1 (by omega); clear hin hin1; rw [if_pos ⟨hd, rfl, rfl⟩, HN.out] at HU; have HN2 := hid HU.symm; have hdi : (0 : Int) < (d : Int) := by omega
      clear HU
      go_wp2_with (first | (have _t := tk; go_at_call 47; refine (peek_any b s q 0 la ts.length lc 0 0 _ (by omega) (by omega) (by omega) h1).mono ?_; rintro e w1 ⟨rfl, q1, rfl⟩; rw [HC.out]; clear tk) | (go_at_call 47; refine (peek_any b s q 1 la ts.length lc 0 0 _ (by omega) (by omega) (by omega) (h1.drewN _)).mono ?_; rintro e w1 ⟨rfl, q2, rfl⟩; rw [HC1.out]))
      refine ⟨.inl ⟨d - 1, q + 2, ?_, by omega, by omega, (hst0.drewN _).at (by omega), (hbl.trans (below_drewB _ _)).setCell hb _, (huk.trans (UsK.below (drewN_below _ _))).trans ((hst0.drewN _).usAt _), HN2⟩, ?_⟩
      · first | rfl | exact congrArg (Value.int .i64) (by omega)
      · refine Nat.lt_of_le_of_lt (Nat.le_of_eq (zr_at (p' := q + 2) (hst0.drewN _) ?_ (by omega))) ?_
        · first | rfl | exact congrArg (Value.int .i64) (by omega)
        · rw [hst0.zr]; omega
    rw [if_neg hB] at HU
    by_cases hC : 0 < d ∧ s.size ≤ q
    · obtain ⟨hd, hsq⟩ := hC; rw [if_pos ⟨hd, hsq⟩, HN.out] at HU; subst HU; have hqe : q = s.size := by omega
      obtain rfl : c = 0 := by rw [← HC.out]; exact bt_out (by omega)
      have hdi : (0 : Int) < (d : Int) := by omega
      have hge : ((s.size : Int) ≤ (q : Int)) := by omega
      clear hin hin1; have hdg : decide ((s.size : Int) ≤ (q : Int)) = true := by rw [decide_eq_true_eq]; omega
      go_wp2_with (have _t := tk; go_at_call 47; refine (peek_any b s q 0 la ts.length lc 0 0 _ (by omega) (by omega) (by omega) h1).mono ?_; rintro e w1 ⟨rfl, q1, rfl⟩; rw [HC.out]; clear tk)
      go_quiet (fail)
      go_wp2_with (first | (go_at_call 48; refine (fail_any b s q la ts.length lc 0 0 _ _ _ base h4 (h1.drewN _)).mono ?_; rintro e w1 ⟨rfl, f1, f2, f3⟩))
      refine ⟨.inr ⟨q, la, _, lc, f1, hqe, (hbl.trans (below_drewB _ _)).trans f2, (huk.trans (UsK.below (drewN_below _ _))).trans f3, rfl⟩, ?_⟩; rw [hst0.zr]; unfold Go.Proofs.YtkblonfmjlopaaaGreatDoor.zr; rw [f1.pos, f1.go]; simp
    rw [if_neg hC] at HU; clear hin1
    by_cases hd : 0 < d
    · rw [if_pos (Or.inl hd), HN.out] at HU; have HN2 := hid HU.symm; have hdi : (0 : Int) < (d : Int) := by omega
      have hlt : q < s.size := by omega
      clear HU hin; have hdg : decide ((s.size : Int) ≤ (q : Int)) = false := by rw [decide_eq_false_iff_not]; omega
      by_cases e40 : c = 40
      · subst e40; have c1n42 : ¬ (c1 : Int) = 42 := by omega
        have c1b42 : ((c1 : Int) == 42) = false := by simp; omega
        
        go_wp2_with (first | (have _t := tk; go_at_call 47; refine (peek_any b s q 0 la ts.length lc 0 0 _ (by omega) (by omega) (by omega) h1).mono ?_; rintro e w1 ⟨rfl, q1, rfl⟩; rw [HC.out]; clear tk) | (go_at_call 47; refine (peek_any b s q 1 la ts.length lc 0 0 _ (by omega) (by omega) (by omega) (h1.drewN _)).mono ?_; rintro e w1 ⟨rfl, q2, rfl⟩; rw [HC1.out]))
        go_quiet (fail)
        go_wp2_with fail
        refine ⟨.inl ⟨d, q + 1, ?_, by omega, by omega, (hst0.drewN _).at (by omega), (hbl.trans (below_drewB _ _)).setCell hb _, (huk.trans (UsK.below (drewN_below _ _))).trans ((hst0.drewN _).usAt _), HN2⟩, ?_⟩
        · first | rfl | exact congrArg (Value.int .i64) (by omega)
        · refine Nat.lt_of_le_of_lt (Nat.le_of_eq (zr_at (p' := q + 1) (hst0.drewN _) ?_ (by omega))) ?_
          · first | rfl | exact congrArg (Value.int .i64) (by omega)
          · rw [hst0.zr]; omega
      by_cases e42 : c = 42
      · subst e42; have c1n41 : ¬ (c1 : Int) = 41 := by omega
        have c1b41 : ((c1 : Int) == 41) = false := by simp; omega
        
        go_wp2_with (first | (have _t := tk; go_at_call 47; refine (peek_any b s q 0 la ts.length lc 0 0 _ (by omega) (by omega) (by omega) h1).mono ?_; rintro e w1 ⟨rfl, q1, rfl⟩; rw [HC.out]; clear tk) | (go_at_call 47; refine (peek_any b s q 1 la ts.length lc 0 0 _ (by omega) (by omega) (by omega) (h1.drewN _)).mono ?_; rintro e w1 ⟨rfl, q2, rfl⟩; rw [HC1.out]))
        go_quiet (fail)
        go_wp2_with fail
        refine ⟨.inl ⟨d, q + 1, ?_, by omega, by omega, (hst0.drewN _).at (by omega), (hbl.trans (below_drewB _ _)).setCell hb _, (huk.trans (UsK.below (drewN_below _ _))).trans ((hst0.drewN _).usAt _), HN2⟩, ?_⟩
        · first | rfl | exact congrArg (Value.int .i64) (by omega)
        · refine Nat.lt_of_le_of_lt (Nat.le_of_eq (zr_at (p' := q + 1) (hst0.drewN _) ?_ (by omega))) ?_
          · first | rfl | exact congrArg (Value.int .i64) (by omega)
          · rw [hst0.zr]; omega
      have cn40 : ¬ (c : Int) = 40 := by omega
      have cb40 : ((c : Int) == 40) = false := by simp; omega
      have cn42 : ¬ (c : Int) = 42 := by omega
      have cb42 : ((c : Int) == 42) = false := by simp; omega
      
      go_wp2_with (first | (have _t := tk; go_at_call 47; refine (peek_any b s q 0 la ts.length lc 0 0 _ (by omega) (by omega) (by omega) h1).mono ?_; rintro e w1 ⟨rfl, q1, rfl⟩; rw [HC.out]; clear tk) | (go_at_call 47; refine (peek_any b s q 1 la ts.length lc 0 0 _ (by omega) (by omega) (by omega) (h1.drewN _)).mono ?_; rintro e w1 ⟨rfl, q2, rfl⟩; rw [HC1.out]))
      go_quiet (fail)
      go_wp2_with fail
      refine ⟨.inl ⟨d, q + 1, ?_, by omega, by omega, (hst0.drewN _).at (by omega), (hbl.trans (below_drewB _ _)).setCell hb _, (huk.trans (UsK.below (drewN_below _ _))).trans ((hst0.drewN _).usAt _), HN2⟩, ?_⟩
      · first | rfl | exact congrArg (Value.int .i64) (by omega)
      · refine Nat.lt_of_le_of_lt (Nat.le_of_eq (zr_at (p' := q + 1) (hst0.drewN _) ?_ (by omega))) ?_
        · first | rfl | exact congrArg (Value.int .i64) (by omega)
        · rw [hst0.zr]; omega
    obtain rfl : d = 0 := by omega
    by_cases hbk : c = 32 ∨ c = 9 ∨ c = 10 ∨ c = 13
    · have hlt := hin (by omega); have hlg : decide ((q : Int) < (s.size : Int)) = true := by rw [decide_eq_true_eq]; omega
      clear hin; rw [if_pos (Or.inr ⟨hlt, hbk⟩), HN.out] at HU; have HN2 := hid HU.symm; clear HU
      rcases hbk with rfl | rfl | rfl | rfl
      · go_wp2_with (first | (have _t := tk; go_at_call 47; refine (peek_any b s q 0 la ts.length lc 0 0 _ (by omega) (by omega) (by omega) h1).mono ?_; rintro e w1 ⟨rfl, q1, rfl⟩; rw [HC.out]; clear tk) | (go_at_call 47; refine (peek_any b s q 1 la ts.length lc 0 0 _ (by omega) (by omega) (by omega) (h1.drewN _)).mono ?_; rintro e w1 ⟨rfl, q2, rfl⟩; rw [HC1.out]))
        go_quiet (fail)
        go_wp2_with fail
        go_quiet (fail)
        go_wp2_with fail
        refine ⟨.inl ⟨0, q + 1, ?_, by omega, by omega, (hst0.drewN _).at (by omega), (hbl.trans (below_drewB _ _)).setCell hb _, (huk.trans (UsK.below (drewN_below _ _))).trans ((hst0.drewN _).usAt _), HN2⟩, ?_⟩
        · first | rfl | exact congrArg (Value.int .i64) (by omega)
        · refine Nat.lt_of_le_of_lt (Nat.le_of_eq (zr_at (p' := q + 1) (hst0.drewN _) ?_ (by omega))) ?_
          · first | rfl | exact congrArg (Value.int .i64) (by omega)
          · rw [hst0.zr]; omega
      · go_wp2_with (first | (have _t := tk; go_at_call 47; refine (peek_any b s q 0 la ts.length lc 0 0 _ (by omega) (by omega) (by omega) h1).mono ?_; rintro e w1 ⟨rfl, q1, rfl⟩; rw [HC.out]; clear tk) | (go_at_call 47; refine (peek_any b s q 1 la ts.length lc 0 0 _ (by omega) (by omega) (by omega) (h1.drewN _)).mono ?_; rintro e w1 ⟨rfl, q2, rfl⟩; rw [HC1.out]))
        go_quiet (fail)
        go_wp2_with fail
        go_quiet (fail)
        go_wp2_with fail
        refine ⟨.inl ⟨0, q + 1, ?_, by omega, by omega, (hst0.drewN _).at (by omega), (hbl.trans (below_drewB _ _)).setCell hb _, (huk.trans (UsK.below (drewN_below _ _))).trans ((hst0.drewN _).usAt _), HN2⟩, ?_⟩
        · first | rfl | exact congrArg (Value.int .i64) (by omega)
        · refine Nat.lt_of_le_of_lt (Nat.le_of_eq (zr_at (p' := q + 1) (hst0.drewN _) ?_ (by omega))) ?_
          · first | rfl | exact congrArg (Value.int .i64) (by omega)
          · rw [hst0.zr]; omega
      · go_wp2_with (first | (have _t := tk; go_at_call 47; refine (peek_any b s q 0 la ts.length lc 0 0 _ (by omega) (by omega) (by omega) h1).mono ?_; rintro e w1 ⟨rfl, q1, rfl⟩; rw [HC.out]; clear tk) | (go_at_call 47; refine (peek_any b s q 1 la ts.length lc 0 0 _ (by omega) (by omega) (by omega) (h1.drewN _)).mono ?_; rintro e w1 ⟨rfl, q2, rfl⟩; rw [HC1.out]))
        go_quiet (fail)
        go_wp2_with fail
        go_quiet (fail)
        go_wp2_with fail
        refine ⟨.inl ⟨0, q + 1, ?_, by omega, by omega, (hst0.drewN _).at (by omega), (hbl.trans (below_drewB _ _)).setCell hb _, (huk.trans (UsK.below (drewN_below _ _))).trans ((hst0.drewN _).usAt _), HN2⟩, ?_⟩
        · first | rfl | exact congrArg (Value.int .i64) (by omega)
        · refine Nat.lt_of_le_of_lt (Nat.le_of_eq (zr_at (p' := q + 1) (hst0.drewN _) ?_ (by omega))) ?_
          · first | rfl | exact congrArg (Value.int .i64) (by omega)
          · rw [hst0.zr]; omega
      · go_wp2_with (first | (have _t := tk; go_at_call 47; refine (peek_any b s q 0 la ts.length lc 0 0 _ (by omega) (by omega) (by omega) h1).mono ?_; rintro e w1 ⟨rfl, q1, rfl⟩; rw [HC.out]; clear tk) | (go_at_call 47; refine (peek_any b s q 1 la ts.length lc 0 0 _ (by omega) (by omega) (by omega) (h1.drewN _)).mono ?_; rintro e w1 ⟨rfl, q2, rfl⟩; rw [HC1.out]))
        go_quiet (fail)
        go_wp2_with fail
        go_quiet (fail)
        go_wp2_with fail
        refine ⟨.inl ⟨0, q + 1, ?_, by omega, by omega, (hst0.drewN _).at (by omega), (hbl.trans (below_drewB _ _)).setCell hb _, (huk.trans (UsK.below (drewN_below _ _))).trans ((hst0.drewN _).usAt _), HN2⟩, ?_⟩
        · first | rfl | exact congrArg (Value.int .i64) (by omega)
        · refine Nat.lt_of_le_of_lt (Nat.le_of_eq (zr_at (p' := q + 1) (hst0.drewN _) ?_ (by omega))) ?_
          · first | rfl | exact congrArg (Value.int .i64) (by omega)
          · rw [hst0.zr]; omega
    clear hin; rw [if_neg (by omega), HN.out] at HU; subst HU; have hout : ∀ q' q'', OutB w ((wr.drewN q').drewN q'') b s ts base (.returned (.tuple #[])) (some q) := fun q' q'' => ⟨rfl, (hbl.trans (below_drewB _ _)).trans (below_drewB _ _), (huk.trans (UsK.below (drewN_below _ _))).trans (UsK.below (drewN_below _ _)), (hst0.drewN _).drewN _, hq⟩; have hfin := hid hout; clear hout
    by_cases hlt : q < s.size
    · have hlg : decide ((q : Int) < (s.size : Int)) = true := by rw [decide_eq_true_eq]; omega
      have cn32 : ¬ (c : Int) = 32 := by omega
      have cb32 : ((c : Int) == 32) = false := by simp; omega
      have cn9 : ¬ (c : Int) = 9 := by omega
      have cb9 : ((c : Int) == 9) = false := by simp; omega
      have cn10 : ¬ (c : Int) = 10 := by omega
      have cb10 : ((c : Int) == 10) = false := by simp; omega
      have cn13 : ¬ (c : Int) = 13 := by omega
      have cb13 : ((c : Int) == 13) = false := by simp; omega
      
      by_cases e40 : c = 40
      · subst e40; have c1n42 : ¬ (c1 : Int) = 42 := by omega
        have c1b42 : ((c1 : Int) == 42) = false := by simp; omega
        
        go_wp2_with (first | (have _t := tk; go_at_call 47; refine (peek_any b s q 0 la ts.length lc 0 0 _ (by omega) (by omega) (by omega) h1).mono ?_; rintro e w1 ⟨rfl, q1, rfl⟩; rw [HC.out]; clear tk) | (go_at_call 47; refine (peek_any b s q 1 la ts.length lc 0 0 _ (by omega) (by omega) (by omega) (h1.drewN _)).mono ?_; rintro e w1 ⟨rfl, q2, rfl⟩; rw [HC1.out]))
        go_quiet (fail)
        go_wp2_with fail
        go_quiet (fail)
        go_wp2_with fail
        refine bodyPost_ret (results_none rfl _ _ _) rfl ?_; exact hfin.out _ _
      have cn40 : ¬ (c : Int) = 40 := by omega
      have cb40 : ((c : Int) == 40) = false := by simp; omega
      
      go_wp2_with (first | (have _t := tk; go_at_call 47; refine (peek_any b s q 0 la ts.length lc 0 0 _ (by omega) (by omega) (by omega) h1).mono ?_; rintro e w1 ⟨rfl, q1, rfl⟩; rw [HC.out]; clear tk) | (go_at_call 47; refine (peek_any b s q 1 la ts.length lc 0 0 _ (by omega) (by omega) (by omega) (h1.drewN _)).mono ?_; rintro e w1 ⟨rfl, q2, rfl⟩; rw [HC1.out]))
      go_quiet (fail)
      go_wp2_with fail
      go_quiet (fail)
      go_wp2_with fail
      refine bodyPost_ret (results_none rfl _ _ _) rfl ?_; exact hfin.out _ _
    · have hlg : decide ((q : Int) < (s.size : Int)) = false := by rw [decide_eq_false_iff_not]; omega
      obtain rfl : c = 0 := by rw [← HC.out]; exact bt_out (by omega)
      go_wp2_with (first | (have _t := tk; go_at_call 47; refine (peek_any b s q 0 la ts.length lc 0 0 _ (by omega) (by omega) (by omega) h1).mono ?_; rintro e w1 ⟨rfl, q1, rfl⟩; rw [HC.out]; clear tk) | (go_at_call 47; refine (peek_any b s q 1 la ts.length lc 0 0 _ (by omega) (by omega) (by omega) (h1.drewN _)).mono ?_; rintro e w1 ⟨rfl, q2, rfl⟩; rw [HC1.out]))
      go_quiet (fail)
      go_wp2_with fail
      go_quiet (fail)
      go_wp2_with fail
      refine bodyPost_ret (results_none rfl _ _ _) rfl ?_; exact hfin.out _ _
theorem blankS_ok (s : ByteArray) : ∀ m d i k, blankS s m d i = some k → i ≤ s.size → i ≤ k ∧ k ≤ s.size := by
  intro m
  induction m with
  | zero => intro d i k h hi; simp only [blankS, Option.some.injEq] at h; omega
  | succ m ih =>
    intro d i k h hi; unfold blankS at h
    by_cases hA : bt s i = 40 ∧ bt s (i + 1) = 42
    · have h1 := bt_in2 hA.2 (by omega); rw [if_pos hA] at h; have := ih _ _ _ h (by omega); omega
    · rw [if_neg hA] at h
      by_cases hB : 0 < d ∧ bt s i = 42 ∧ bt s (i + 1) = 41
      · have h1 := bt_in2 hB.2.2 (by omega); rw [if_pos hB] at h; have := ih _ _ _ h (by omega); omega
      · rw [if_neg hB] at h
        by_cases hC : 0 < d ∧ s.size ≤ i
        · rw [if_pos hC] at h; cases h
        · rw [if_neg hC] at h
          by_cases hD : 0 < d ∨ i < s.size ∧ (bt s i = 32 ∨ bt s i = 9 ∨ bt s i = 10 ∨ bt s i = 13)
          · rw [if_pos hD] at h; have := ih _ _ _ h (by omega); omega
          · rw [if_neg hD] at h; simp only [Option.some.injEq] at h; omega
theorem blankE_ok {s : ByteArray} {d i k : Nat} (h : blankE s d i = some k) (hi : i ≤ s.size) : i ≤ k ∧ k ≤ s.size := blankS_ok s _ _ _ _ h hi
theorem short_ok {s : ByteArray} {i k kind n : Nat} {t : Tok} (h : shortS s i k kind = .ok (t, n)) : n = k := by
  unfold shortS at h; split at h
  · cases h
  · simp only [Except.ok.injEq, Prod.mk.injEq] at h; exact h.2.symm
theorem short_er {s : ByteArray} {i k kind c q : Nat} (h : shortS s i k kind = .error (c, q)) : c ≠ 0 := by
  unfold shortS at h; split at h
  · simp only [Except.error.injEq, Prod.mk.injEq] at h; omega
  · cases h
theorem long_ok (s : ByteArray) (i : Nat) : ∀ m k t n, longS s m i k = .ok (t, n) → k ≤ s.size → k ≤ n ∧ n ≤ s.size := by
  intro m
  induction m with
  | zero => intro k t n h hk; have := short_ok (show shortS s i k 1 = _ from h); omega
  | succ m ih =>
    intro k t n h hk; unfold longS at h
    by_cases hc : bt s k = 46 ∧ isLet (bt s (k + 1)) = true
    · rw [if_pos hc] at h; have h1 := let_in hc.2; have h2 := runE_lt h1 (let_nam hc.2); have h3 := runE_size (p := isNam) (s := s) (i := k + 1) (by omega)
      split at h
      · cases h
      · have := ih _ _ _ h h3; omega
    · rw [if_neg hc] at h; have := short_ok h; omega
theorem long_er (s : ByteArray) (i : Nat) : ∀ m k c q, longS s m i k = .error (c, q) → c ≠ 0 := by
  intro m
  induction m with
  | zero => intro k c q h; exact short_er (show shortS s i k 1 = _ from h)
  | succ m ih =>
    intro k c q h; unfold longS at h
    split at h
    · split at h
      · simp only [Except.error.injEq, Prod.mk.injEq] at h; omega
      · exact ih _ _ _ h
    · exact short_er h
theorem word_ok {F : List UInt8 → Nat} {s : ByteArray} {i n : Nat} {t : Tok} (h : wordS F s i = .ok (t, n)) (hi : i < s.size) : i < n ∧ n ≤ s.size := by
  unfold wordS at h; simp only at h
  split at h
  · rename_i hl; have h1 := runE_lt hi (let_nam hl); have h2 := runE_size (p := isNam) (s := s) (i := i) (by omega); unfold nameS at h
    split at h
    · simp only [Except.ok.injEq, Prod.mk.injEq] at h; omega
    · have := long_ok s i _ _ _ _ h h2; omega
  · split at h
    · rename_i hd
      have hW : i < numW s i ∧ numW s i ≤ s.size := by
        unfold numW
        rcases hd with hd | hd
        · have := dig_range hd; rw [if_neg (by omega)]; exact ⟨runE_lt hi hd, runE_size (by omega)⟩
        · rw [if_pos hd.1]; have h1 := dig_in hd.2; have := runE_lt h1 hd.2; exact ⟨by omega, runE_size (by omega)⟩
      have hF := numF_le hW.2; have hE := numE_le hF.2; unfold numberS at h; simp only at h
      split at h
      · split at h
        · cases h
        · simp only [Except.ok.injEq, Prod.mk.injEq] at h; omega
      · split at h
        · cases h
        · simp only [Except.ok.injEq, Prod.mk.injEq] at h; omega
    · split at h
      · split at h
        · cases h
        · rename_i x k hq; have := quo_ok s _ _ _ _ _ hq; simp only [Except.ok.injEq, Prod.mk.injEq] at h; omega
      · split at h
        · split at h
          · cases h
          · rename_i x k hq; have := quo_ok s _ _ _ _ _ hq
            split at h
            · cases h
            · simp only [Except.ok.injEq, Prod.mk.injEq] at h; omega
        · split at h
          · split at h
            · split at h
              · rename_i hl; have h1 := let_in hl; have h2 := runE_lt h1 (let_nam hl); have h3 := runE_size (p := isNam) (s := s) (i := i + 2) (by omega); have := short_ok h; omega
              · cases h
            · split at h
              · rename_i hl; have h1 := let_in hl; have h2 := runE_lt h1 (let_nam hl); have h3 := runE_size (p := isNam) (s := s) (i := i + 1) (by omega); have := short_ok h; omega
              · cases h
          · split at h
            · simp only [Except.ok.injEq, Prod.mk.injEq] at h; omega
            · split at h
              · rename_i hs; have h1 := runE_lt (p := isSym) hi hs; have h2 := runE_size (p := isSym) (s := s) (i := i) (by omega); have := short_ok h; omega
              · cases h
theorem word_er {F : List UInt8 → Nat} {s : ByteArray} {i c q : Nat} (h : wordS F s i = .error (c, q)) : c ≠ 0 := by
  unfold wordS at h; simp only at h
  split at h
  · unfold nameS at h
    split at h
    · cases h
    · exact long_er s i _ _ _ _ h
  · split at h
    · unfold numberS at h; simp only at h
      split at h
      · split at h
        · simp only [Except.error.injEq, Prod.mk.injEq] at h; omega
        · cases h
      · split at h
        · simp only [Except.error.injEq, Prod.mk.injEq] at h; omega
        · cases h
    · split at h
      · split at h
        · rename_i hq; simp only [Except.error.injEq] at h; subst h; have := quo_err s _ _ _ _ _ hq; omega
        · cases h
      · split at h
        · split at h
          · rename_i hq; simp only [Except.error.injEq] at h; subst h; have := quo_err s _ _ _ _ _ hq; omega
          · split at h
            · simp only [Except.error.injEq, Prod.mk.injEq] at h; omega
            · cases h
        · split at h
          · split at h
            · split at h
              · exact short_er h
              · simp only [Except.error.injEq, Prod.mk.injEq] at h; omega
            · split at h
              · exact short_er h
              · simp only [Except.error.injEq, Prod.mk.injEq] at h; omega
          · split at h
            · cases h
            · split at h
              · exact short_er h
              · simp only [Except.error.injEq, Prod.mk.injEq] at h; omega
def afterB (go : Nat → List Tok → Except (Nat × Nat) (List Tok)) (F : List UInt8 → Nat) (s : ByteArray) (ts : List Tok) : Option Nat → Except (Nat × Nat) (List Tok)
  | none => .error (31, s.size)
  | some k => if s.size ≤ k then .ok ts else
      match wordS F s k with
      | .error e => .error e
      | .ok (t, n) => go n (ts ++ [t])
theorem toks_fuel (F : List UInt8 → Nat) (s : ByteArray) : ∀ m m' i ts, i ≤ s.size → s.size + 1 ≤ m + i → s.size + 1 ≤ m' + i → toksS F s m i ts = toksS F s m' i ts := by
  intro m
  induction m with
  | zero => intro m' i ts hi h h'; omega
  | succ m ih =>
    intro m' i ts hi h h'; obtain ⟨m', rfl⟩ : ∃ k, m' = k + 1 := ⟨m' - 1, by omega⟩; unfold toksS
    rcases hb : blank s i with _ | k
    · rfl
    · simp only; have hk := blankE_ok (show blankE s 0 i = some k from hb) hi
      by_cases hs : s.size ≤ k
      · rw [if_pos hs, if_pos hs]
      · rw [if_neg hs, if_neg hs]
        rcases hw : wordS F s k with e | ⟨t, n⟩
        · rfl
        · have := word_ok hw (by omega); exact ih m' n _ (by omega) (by omega) (by omega)
def toksE (F : List UInt8 → Nat) (s : ByteArray) (i : Nat) (ts : List Tok) : Except (Nat × Nat) (List Tok) := toksS F s (s.size + 1 - i) i ts
theorem toksE_unfold {F : List UInt8 → Nat} {s : ByteArray} {i : Nat} {ts : List Tok} (hi : i ≤ s.size) : toksE F s i ts = afterB (toksE F s) F s ts (blankE s 0 i) := by
  unfold toksE; obtain ⟨m, hm⟩ : ∃ m, s.size + 1 - i = m + 1 := ⟨s.size - i, by omega⟩; rw [hm]
  conv => lhs; unfold toksS
  rw [show blank s i = blankE s 0 i from rfl]
  rcases hb : blankE s 0 i with _ | k
  · rfl
  · have hk := blankE_ok hb hi; unfold afterB; simp only
    by_cases hs : s.size ≤ k
    · rw [if_pos hs, if_pos hs]
    · rw [if_neg hs, if_neg hs]
      rcases hw : wordS F s k with e | ⟨t, n⟩
      · rfl
      · have := word_ok hw (by omega); exact toks_fuel F s m _ n _ (by omega) (by omega) (by omega)
theorem blanks_dead (b : Nat) (s : ByteArray) (p : Nat) (la : Option Addr) (ln lc : Nat) (code mat : Int) (w : World) (h : Sc w b s p la ln lc code mat) (hc : code ≠ 0) :
    Calls Tryz.prog 17 #[.pointer (some ⟨b, 0, none⟩)] w fun e w' => e = .returned (.tuple #[]) ∧ w' = w := by
  have k3 := h.c3; have hcn : ¬ code = 0 := hc; have hcb : (code == 0) = false := by simpa using hc
  go_enter Tryz.func17, Tryz.ntmps17
  go_wp2
  go_loopw [2] (fun dv wr => wr = w ∧ dv = .int .i64 0) (fun _ wr => 0)
  case atStart => exact ⟨rfl, rfl⟩
  case round =>
    obtain ⟨rfl, rfl⟩ := hrel
    go_wp2
    go_end0; exact ⟨rfl, rfl⟩
def zt (w : World) (b : Nat) (s : ByteArray) : Nat := if intOf ((w.cell? ⟨b, 3, none⟩).getD (.int .i64 0)) = 0 then s.size - scPos w b + 1 else 0
theorem St.zt {w : World} {b : Nat} {s : ByteArray} {p : Nat} {ts : List Tok} {base : Nat} (h : St w b s p ts base) : Go.Proofs.YtkblonfmjlopaaaGreatDoor.zt w b s = s.size - p + 1 := by
  obtain ⟨la, lc, h1, _⟩ := h; unfold Go.Proofs.YtkblonfmjlopaaaGreatDoor.zt; rw [h1.pos, h1.c3]; rfl
theorem Sc.zt {w : World} {b : Nat} {s : ByteArray} {p : Nat} {la : Option Addr} {ln lc : Nat} {code mat : Int} (h : Sc w b s p la ln lc code mat) (hc : code ≠ 0) : Go.Proofs.YtkblonfmjlopaaaGreatDoor.zt w b s = 0 := by
  unfold Go.Proofs.YtkblonfmjlopaaaGreatDoor.zt; rw [h.c3]; exact if_neg hc
def OutT (w w' : World) (e : Ending) (r : Except (Nat × Nat) (List Tok)) : Prop :=
  Below w.heap.size w w' ∧
  match r with
  | .ok ts => ∃ la lc, e = .returned (.tuple #[.slice la ts.length lc, .agg #[.int .i64 0, .int .i64 0]]) ∧ Toks w' la ts.length lc ts ∧ New w' w.heap.size la (lc * 7)
  | .error (c, q) => e = .returned (.tuple #[.slice none 0 0, .agg #[.int .i64 (c : Nat), .int .i64 (q : Nat)]])
def TR (F : List UInt8 → Nat) (w : World) (b : Nat) (s : ByteArray) (base : Nat) (R : Except (Nat × Nat) (List Tok)) (wr : World) : Prop :=
  Below base w wr ∧ ((∃ k ts, St wr b s k ts base ∧ k ≤ s.size ∧ Hid (afterB (toksE F s) F s ts (some k) = R)) ∨
    ∃ p la ln lc c q, Sc wr b s p la ln lc (c : Nat) (q : Nat) ∧ c ≠ 0 ∧ Hid (R = .error (c, q)))
theorem ob_zt {w' : World} {b : Nat} {s : ByteArray} {base i : Nat} {ts : List Tok} (hi : i ≤ s.size)
    (hO : match blankE s 0 i with
      | some q => St w' b s q ts base ∧ q ≤ s.size
      | none => ∃ p la ln lc, Sc w' b s p la ln lc 31 (s.size : Nat)) : Go.Proofs.YtkblonfmjlopaaaGreatDoor.zt w' b s ≤ s.size - i + 1 := by
  rcases hk : blankE s 0 i with _ | k
  · rw [hk] at hO; obtain ⟨p, la, ln, lc, hs⟩ := hO; rw [hs.zt (by omega)]; omega
  · rw [hk] at hO; have := blankE_ok hk hi; rw [hO.1.zt]; omega
theorem Toks.other {w : World} {a : Option Addr} {n c : Nat} {ts : List Tok} (h : Toks w a n c ts) {p : Addr} {v : Value} (hp : w.cell? p = some v) (hv : ∀ x, v ≠ .int .u32 x) (ha : ∀ x off, a = some ⟨x, off, none⟩ → p.block ≠ x) (y : Value) : Toks (w.setCell p y) a n c ts := by
  obtain ⟨hh, A, e, z, tk⟩ := h; refine ⟨hh, ⟨A.le, A.mx, fun j hj => ?_⟩, e, z, fun i t ht => (tk i t ht).keep ((UsK.refl w).set hp hv y)⟩; obtain ⟨x, off, ea, hc⟩ := A.cell j hj; refine ⟨x, off, ea, ?_⟩; have := ha x off ea; rw [World.cell?_setCell_other _ _ _ _ (by intro h; apply this; rw [h])]; exact hc
theorem tr_blank {F : List UInt8 → Nat} {W w' : World} {b : Nat} {s : ByteArray} {base i : Nat} {ts : List Tok} {R : Except (Nat × Nat) (List Tok)} (hb : Below base W w') (h : Hid (afterB (toksE F s) F s ts (blankE s 0 i) = R))
    (hO : match blankE s 0 i with
      | some q => St w' b s q ts base ∧ q ≤ s.size
      | none => ∃ p la ln lc, Sc w' b s p la ln lc 31 (s.size : Nat)) : TR F W b s base R w' := by
  refine ⟨hb, ?_⟩; have h := h.out
  rcases hk : blankE s 0 i with _ | k
  · rw [hk] at h hO; obtain ⟨p, la, ln, lc, hs⟩ := hO; exact .inr ⟨p, la, ln, lc, 31, s.size, hs, by decide, hid h.symm⟩
  · rw [hk] at h hO; exact .inl ⟨k, ts, hO.1, hO.2, hid h⟩
theorem Toks.nil (w : World) : Toks w none 0 0 [] := ⟨fun _ => .bool false, ⟨Nat.le_refl _, Nat.zero_le _, fun j hj => by omega⟩, rfl, fun j _ hj => by omega, fun i t h => by simp at h⟩
theorem Sc.made (w : World) (s : ByteArray) : Sc (w.alloc (.cells #[.string s, .int .i64 0, .slice none 0 0, .int .i64 0, .int .i64 0] 62)) w.heap.size s 0 none 0 0 0 0 :=
  ⟨by simp, by rw [World.cell?_alloc_new]; rfl, by rw [World.cell?_alloc_new]; rfl, by rw [World.cell?_alloc_new]; rfl, by rw [World.cell?_alloc_new]; rfl, by rw [World.cell?_alloc_new]; rfl, fun o => by simp [World.frozen?_alloc_new]⟩
theorem tokens_any (F : List UInt8 → Nat) (s : ByteArray) (m : Int) (w : World) (hb1 : 3 < w.heap.size) (hm : w.cell? ⟨3, 0, none⟩ = some (.int .i64 m)) (hF : PFs F w.heap.size w s) :
    Calls Tryz.prog 9 #[.string s] w fun e w' => OutT w w' e (lexS F s) := by
  obtain ⟨R, HE⟩ : ∃ R, Hid (lexS F s = R) := ⟨_, hid rfl⟩; rw [HE.out]
  by_cases hlong : 65536 < s.size
  · have hli : (65536 : Int) < (s.size : Int) := by omega
    have h := HE.out; unfold lexS at h; rw [if_pos hlong] at h; subst h; go_enter Tryz.func9, Tryz.ntmps9
    go_wp2
    refine bodyPost_ret (v := .tuple #[.slice none 0 0, .agg #[.int .i64 2, .int .i64 0]]) (by simp [results, Tryz.results9, go_sem, World.cell?_alloc_new]) rfl ⟨below_alloc w _, rfl⟩
  have hs : s.size ≤ 65536 := by omega
  have hli : ¬ (65536 : Int) < (s.size : Int) := by omega
  have HT : Hid (afterB (toksE F s) F s [] (blankE s 0 0) = R) := hid (by
    have h := HE.out; unfold lexS at h; rw [if_neg hlong] at h
    rw [← h, ← toksE_unfold (Nat.zero_le _)]; rfl)
  clear hlong HE; have HF := hid hF; clear hF; go_enter Tryz.func9, Tryz.ntmps9
  go_wp2_with fail
  have SC := Sc.made (w.alloc (.cells #[.int .i64 0, .int .i64 0] 26)) s; have hb : (w.alloc (.cells #[.int .i64 0, .int .i64 0] 26)).heap.size = w.heap.size + 1 := by simp
  rw [hb] at SC; have bl2 : Below w.heap.size w ((w.alloc (.cells #[.int .i64 0, .int .i64 0] 26)).alloc (.cells #[.string s, .int .i64 0, .slice none 0 0, .int .i64 0, .int .i64 0] 62)) := (below_alloc w _).trans ((below_alloc _ _).mono (by simp)); have B0 := (Bx.made w (.int .i64 0) (.int .i64 0) 26).keep (below_alloc _ (.cells #[.string s, .int .i64 0, .slice none 0 0, .int .i64 0, .int .i64 0] 62)); have hst : St ((w.alloc (.cells #[.int .i64 0, .int .i64 0] 26)).alloc (.cells #[.string s, .int .i64 0, .slice none 0 0, .int .i64 0, .int .i64 0] 62)) (w.heap.size + 1) s 0 [] (w.heap.size + 1) := ⟨none, 0, SC, Toks.nil _, New.nil _ _ _, Nat.le_refl _, (fun x off e => by cases e), Nat.le_refl _⟩
  have HM : Hid (∀ wx, Below (w.heap.size + 1) ((w.alloc (.cells #[.int .i64 0, .int .i64 0] 26)).alloc (.cells #[.string s, .int .i64 0, .slice none 0 0, .int .i64 0, .int .i64 0] 62)) wx → wx.cell? ⟨3, 0, none⟩ = some (.int .i64 m)) := hid (fun wx hx => by
    have h1 := hx.cell (p := ⟨3, 0, none⟩) (by simp only; omega); have h2 := bl2.cell (p := ⟨3, 0, none⟩) (by simp only; omega)
    exact (h1.trans h2).trans hm)
  have HPF : Hid (∀ wx, Below (w.heap.size + 1) ((w.alloc (.cells #[.int .i64 0, .int .i64 0] 26)).alloc (.cells #[.string s, .int .i64 0, .slice none 0 0, .int .i64 0, .int .i64 0] 62)) wx → PFs F (w.heap.size + 1) wx s) := hid (fun wx hx i hi h1 h2 wy hy => HF.out i hi h1 h2 wy (bl2.trans ((hx.trans hy).mono (Nat.le_succ _)))); generalize (w.alloc (.cells #[.int .i64 0, .int .i64 0] 26)).alloc (.cells #[.string s, .int .i64 0, .slice none 0 0, .int .i64 0, .int .i64 0] 62) = W2 at bl2 B0 hst HM HPF ⊢; clear SC HF; have HB2 := hid bl2; clear bl2; have hlW : w.heap.size + 1 < W2.heap.size := by obtain ⟨_, _, h1, _⟩ := hst; exact h1.lt
  refine (blanks_any (w.heap.size + 1) s 0 [] (w.heap.size + 1) _ hs (Nat.zero_le _) hst).mono ?_; intro e w1 hO; obtain ⟨rfl, hbl, _, hO⟩ := hO; have R1 : TR F W2 (w.heap.size + 1) s (w.heap.size + 1) R w1 := tr_blank hbl HT hO; have E1 := bx_below B0 hbl (by omega); clear hO hst HT
  go_wp2_with fail
  go_loopw [] (fun wr => TR F W2 (w.heap.size + 1) s (w.heap.size + 1) R wr) (fun wr => zt wr (w.heap.size + 1) s)
  case atStart => exact R1
  case round =>
    obtain ⟨hbl, hrel⟩ := hrel; have E := bx_below B0 hbl (by omega); have e0 := E.c0; have e1 := E.c1; have ef := E.fr; have hblw : Below w.heap.size w wr := HB2.out.trans (hbl.mono (Nat.le_succ _)); have hszr := hbl.size
    rcases hrel with ⟨k, ts, hst, hk, HR⟩ | ⟨p, la, ln, lc, c, q, hsc, hc0, HR⟩
    rotate_left 1
    · have c3 := hsc.c3; have c4 := hsc.c4; have cn : ¬ (c : Int) = 0 := by omega
      have cb : ((c : Int) == 0) = false := by simp; omega
      go_wp2_with fail
      refine region_T (S := fun wx => wx.cell? ⟨w.heap.size + 1, 3, none⟩ = some (.int .i64 (c : Nat)) ∧ wx.cell? ⟨w.heap.size + 1, 4, none⟩ = some (.int .i64 (q : Nat))) (T := fun j => j == 5) (by kernel_rfl) ?_; have hS0 := And.intro c3 c4; refine tq 0 hS0 ?_; refine tq 1 hS0 ?_; refine tq 2 hS0 ?_; refine tq 3 hS0 ?_; refine tq 4 hS0 ?_; refine on1 5 fun K hK => ?_; go_simp; refine nxT hK ?_; clear hK K; refine anyT_done (by kernel_rfl) ?_ _
      go_wp2_with fail
      refine bodyPost_ret (v := .tuple #[.slice none 0 0, .agg #[.int .i64 (c : Nat), .int .i64 (q : Nat)]]) (by simp [results, Tryz.results9, go_sem, e0, e1]) rfl ?_; rw [HR.out]; exact ⟨((hblw.drew).setCell (Nat.le_refl _) _).setCell (Nat.le_refl _) _, rfl⟩
    have hst0 := hst; obtain ⟨la, lc, h1, h2, h3, h4, h5, h6⟩ := hst; have c1 := h1.c1; have c2 := h1.c2; have c3 := h1.c3; have c4 := h1.c4
    by_cases hend : s.size ≤ k
    · have hni : ¬ (k : Int) < (s.size : Int) := by omega
      have hnd : decide ((k : Int) < (s.size : Int)) = false := by rw [decide_eq_false_iff_not]; omega
      have hR : R = .ok ts := by
        have h := HR.out; unfold afterB at h; simp only at h; rw [if_pos hend] at h; exact h.symm
      have HRR := hid hR; have hTN := hid (And.intro h2 (And.intro h3 h5)); clear hR h2 h3 h5
      go_wp2_with fail
      refine region_T (S := fun wx => wx.cell? ⟨w.heap.size + 1, 2, none⟩ = some (.slice la ts.length lc) ∧ wx.cell? ⟨w.heap.size + 1, 3, none⟩ = some (.int .i64 0) ∧ wx.cell? ⟨w.heap.size + 1, 4, none⟩ = some (.int .i64 0)) (T := fun j => j == 9) (by kernel_rfl) ?_; have hS0 := And.intro c2 (And.intro c3 c4); refine tq 0 hS0 ?_; refine tq 1 hS0 ?_; refine tq 2 hS0 ?_; refine tq 3 hS0 ?_; refine tq 4 hS0 ?_; refine tq 5 hS0 ?_; refine tq 6 hS0 ?_; refine tq 7 hS0 ?_; refine tq 8 hS0 ?_; refine on1 9 fun K hK => ?_; go_simp; refine nxT hK ?_; clear hK K; refine anyT_done (by kernel_rfl) ?_ _
      go_wp2_with fail
      refine bodyPost_ret (v := .tuple #[.slice la ts.length lc, .agg #[.int .i64 0, .int .i64 0]]) (by simp [results, Tryz.results9, go_sem, e0, e1]) rfl ?_; rw [HRR.out]; obtain ⟨g2, g3, g5⟩ := hTN.out; have g2' := g2.below (w' := wr.drew) ⟨rfl, rfl, rfl, Nat.le_refl _, fun _ _ => rfl⟩; have hne : ∀ x off, la = some ⟨x, off, none⟩ → w.heap.size ≠ x := fun x off e => by have := (g5 x off e).1; omega
      have e1' : (wr.drew.setCell ⟨w.heap.size, 0, none⟩ (.int .i64 0)).cell? ⟨w.heap.size, 1, none⟩ = some (.int .i64 0) := by rw [World.cell?_setCell_other _ _ _ _ (by intro h; simp at h)]; simpa using e1
      refine ⟨((hblw.drew).setCell (Nat.le_refl _) _).setCell (Nat.le_refl _) _, la, lc, rfl, (g2'.other (by simpa using e0) (fun _ h => by cases h) hne _).other e1' (fun _ h => by cases h) hne _, ?_⟩; exact (((New.drew g3).set _ _).set _ _).mono (Nat.le_succ _)
    have hlt : (k : Int) < (s.size : Int) := by omega
    have hld : decide ((k : Int) < (s.size : Int)) = true := by rw [decide_eq_true_eq]; omega
    have hR := HR.out; unfold afterB at hR; simp only at hR; rw [if_neg hend] at hR; clear h2 h3 h5 HR
    rcases hw : wordS F s k with ⟨c, q⟩ | ⟨t, n⟩
    · rw [hw] at hR; simp only at hR; have hc0 := word_er hw; have HW := hid hw; have HRR := hid hR; clear hw hR
      go_wp2_with (first | (go_at_call 18; refine (word_any F _ s k ts _ m wr hs (by omega) hst0 (by omega) (by omega) (HM.out wr hbl) (HPF.out wr hbl)).mono ?_; intro e w2 hO; rw [HW.out] at hO; obtain ⟨rfl, b2, _, p', la', ln', lc', hO⟩ := hO) | (go_at_call 17; refine (blanks_dead _ _ _ _ _ _ _ _ _ hO (by omega)).mono ?_; rintro e w3 ⟨rfl, rfl⟩))
      refine ⟨⟨hbl.trans b2, .inr ⟨p', la', ln', lc', c, q, hO, hc0, hid HRR.out.symm⟩⟩, ?_⟩; rw [hst0.zt, hO.zt (by omega)]; omega
    · rw [hw] at hR; simp only at hR; have hn := word_ok hw (by omega); have HW := hid hw; have HRR : Hid (afterB (toksE F s) F s (ts ++ [t]) (blankE s 0 n) = R) := hid (by rw [← toksE_unfold hn.2]; exact hR); clear hw hR
      go_wp2_with (first | (go_at_call 18; refine (word_any F _ s k ts _ m wr hs (by omega) hst0 (by omega) (by omega) (HM.out wr hbl) (HPF.out wr hbl)).mono ?_; intro e w2 hO; rw [HW.out] at hO; obtain ⟨rfl, b2, _, hO⟩ := hO) | (go_at_call 17; refine (blanks_any _ _ _ _ _ _ hs hn.2 hO).mono ?_; intro e w3 hQ; obtain ⟨rfl, b3, _, hQ⟩ := hQ))
      refine ⟨tr_blank ((hbl.trans b2).trans b3) HRR hQ, ?_⟩; have := ob_zt hn.2 hQ; rw [hst0.zt]; omega
end Go.Proofs.YtkblonfmjlopaaaGreatDoor
