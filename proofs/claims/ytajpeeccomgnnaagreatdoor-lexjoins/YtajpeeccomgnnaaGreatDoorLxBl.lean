/-
  blanks, walked.
-/
import Derived.Test.YtajpeeccomgnnaaGreatDoorLxBlP
namespace Go.Proofs.YtajpeeccomgnnaaGreatDoor
set_option linter.all false
open Go Go.RowKit

set_option maxRecDepth 100000 in
set_option maxHeartbeats 16000000 in
theorem blanks_any (b : Nat) (s : ByteArray) (p : Nat) (ts : List Tok) (base : Nat) (w : World) (hs : s.size ≤ 65536) (hp : p ≤ s.size) (h : St w b s p ts base) :
    Calls Tryz.prog 14 #[.pointer (some ⟨b, 0, none⟩)] w fun e w' => OutB w w' b s ts base e (blankE s 0 p) := by
  obtain ⟨R, HE⟩ : ∃ R, Hid (blankE s 0 p = R) := ⟨_, hid rfl⟩
  rw [HE.out]
  have hb := h.base
  go_enter Tryz.func14, Tryz.ntmps14
  go_wp2
  go_loopw [2] (fun dv wr => BR w b s ts base R dv wr) (fun _ wr => zr wr b s)
  case atStart => exact .inl ⟨0, p, rfl, by omega, hp, h, Below.refl _ _, UsK.refl _, HE⟩
  case round =>
    rcases hrel with ⟨d, q, rfl, hdq, hq, hst, hbl, huk, HN⟩ | ⟨q, la, ln, lc, hsc, rfl, hbl, huk, rfl⟩
    rotate_left 1
    · have k3 := hsc.c3
      go_wp2
      go_end0
      exact ⟨rfl, hbl, huk, _, la, ln, lc, hsc⟩
    have hst0 := hst
    obtain ⟨la, lc, h1, h2, h3, h4, h5, h6⟩ := hst
    have k0 := h1.c0
    have k1 := h1.c1
    have k3 := h1.c3
    have kf := h1.fr 1
    obtain ⟨c, hc⟩ : ∃ c, bt s (q + 0) = c := ⟨_, rfl⟩
    obtain ⟨c1, hc1⟩ : ∃ c1, bt s (q + 1) = c1 := ⟨_, rfl⟩
    have hc6 : c < 256 := hc ▸ bt_lt s _
    have hc16 : c1 < 256 := hc1 ▸ bt_lt s _
    have hin : c ≠ 0 → q < s.size := fun x => bt_in2 hc x
    have hin1 : c1 ≠ 0 → q + 1 < s.size := fun x => bt_in2 hc1 x
    have HU := blankE_unfold (s := s) (d := d) hq
    rw [show bt s q = c from hc, hc1] at HU
    have HC := hid hc
    have HC1 := hid hc1
    have tk : True := trivial
    clear h2 h3 h5 h6 hc hc1 h
    by_cases hA : c = 40 ∧ c1 = 42
    · obtain ⟨rfl, rfl⟩ := hA
      have hlt := hin1 (by omega)
      clear hin hin1
      rw [if_pos ⟨rfl, rfl⟩, HN.out] at HU
      have HN2 := hid HU.symm
      clear HU
      go_wp2_with (first | (have _t := tk; go_at_call 23; refine (peek_any b s q 0 la ts.length lc 0 0 _ (by omega) (by omega) (by omega) h1).mono ?_; rintro e w1 ⟨rfl, q1, rfl⟩; rw [HC.out]; clear tk) | (go_at_call 23; refine (peek_any b s q 1 la ts.length lc 0 0 _ (by omega) (by omega) (by omega) (h1.drewN _)).mono ?_; rintro e w1 ⟨rfl, q2, rfl⟩; rw [HC1.out]))
      refine ⟨.inl ⟨d + 1, q + 2, ?_, by omega, by omega, (hst0.drewN _).at (by omega), (hbl.trans (below_drewB _ _)).setCell hb _, (huk.trans (UsK.below (drewN_below _ _))).trans ((hst0.drewN _).usAt _), HN2⟩, ?_⟩
      · first | rfl | exact congrArg (Value.int .i64) (by omega)
      · refine Nat.lt_of_le_of_lt (Nat.le_of_eq (zr_at (p' := q + 2) (hst0.drewN _) ?_ (by omega))) ?_
        · first | rfl | exact congrArg (Value.int .i64) (by omega)
        · rw [hst0.zr]; omega
    rw [if_neg hA] at HU
    by_cases hB : 0 < d ∧ c = 42 ∧ c1 = 41
    · obtain ⟨hd, rfl, rfl⟩ := hB
      have hlt := hin1 (by omega)
      clear hin hin1
      rw [if_pos ⟨hd, rfl, rfl⟩, HN.out] at HU
      have HN2 := hid HU.symm
      have hdi : (0 : Int) < (d : Int) := by omega
      clear HU
      go_wp2_with (first | (have _t := tk; go_at_call 23; refine (peek_any b s q 0 la ts.length lc 0 0 _ (by omega) (by omega) (by omega) h1).mono ?_; rintro e w1 ⟨rfl, q1, rfl⟩; rw [HC.out]; clear tk) | (go_at_call 23; refine (peek_any b s q 1 la ts.length lc 0 0 _ (by omega) (by omega) (by omega) (h1.drewN _)).mono ?_; rintro e w1 ⟨rfl, q2, rfl⟩; rw [HC1.out]))
      refine ⟨.inl ⟨d - 1, q + 2, ?_, by omega, by omega, (hst0.drewN _).at (by omega), (hbl.trans (below_drewB _ _)).setCell hb _, (huk.trans (UsK.below (drewN_below _ _))).trans ((hst0.drewN _).usAt _), HN2⟩, ?_⟩
      · first | rfl | exact congrArg (Value.int .i64) (by omega)
      · refine Nat.lt_of_le_of_lt (Nat.le_of_eq (zr_at (p' := q + 2) (hst0.drewN _) ?_ (by omega))) ?_
        · first | rfl | exact congrArg (Value.int .i64) (by omega)
        · rw [hst0.zr]; omega
    rw [if_neg hB] at HU
    by_cases hC : 0 < d ∧ s.size ≤ q
    · obtain ⟨hd, hsq⟩ := hC
      rw [if_pos ⟨hd, hsq⟩, HN.out] at HU
      subst HU
      have hqe : q = s.size := by omega
      obtain rfl : c = 0 := by rw [← HC.out]; exact bt_out (by omega)
      have hdi : (0 : Int) < (d : Int) := by omega
      have hge : ((s.size : Int) ≤ (q : Int)) := by omega
      clear hin hin1
      have hdg : decide ((s.size : Int) ≤ (q : Int)) = true := by rw [decide_eq_true_eq]; omega
      go_wp2_with (have _t := tk; go_at_call 23; refine (peek_any b s q 0 la ts.length lc 0 0 _ (by omega) (by omega) (by omega) h1).mono ?_; rintro e w1 ⟨rfl, q1, rfl⟩; rw [HC.out]; clear tk)
      go_quiet (fail)
      go_wp2_with (first | (go_at_call 24; refine (fail_any b s q la ts.length lc 0 0 _ _ _ base h4 (h1.drewN _)).mono ?_; rintro e w1 ⟨rfl, f1, f2, f3⟩))
      refine ⟨.inr ⟨q, la, _, lc, f1, hqe, (hbl.trans (below_drewB _ _)).trans f2, (huk.trans (UsK.below (drewN_below _ _))).trans f3, rfl⟩, ?_⟩
      rw [hst0.zr]
      unfold Go.Proofs.YtajpeeccomgnnaaGreatDoor.zr
      rw [f1.pos, f1.go]
      simp
    rw [if_neg hC] at HU
    clear hin1
    by_cases hd : 0 < d
    · rw [if_pos (Or.inl hd), HN.out] at HU
      have HN2 := hid HU.symm
      have hdi : (0 : Int) < (d : Int) := by omega
      have hlt : q < s.size := by omega
      clear HU hin
      have hdg : decide ((s.size : Int) ≤ (q : Int)) = false := by rw [decide_eq_false_iff_not]; omega
      by_cases e40 : c = 40
      · subst e40
        have c1n42 : ¬ (c1 : Int) = 42 := by omega
        have c1b42 : ((c1 : Int) == 42) = false := by simp; omega
        
        go_wp2_with (first | (have _t := tk; go_at_call 23; refine (peek_any b s q 0 la ts.length lc 0 0 _ (by omega) (by omega) (by omega) h1).mono ?_; rintro e w1 ⟨rfl, q1, rfl⟩; rw [HC.out]; clear tk) | (go_at_call 23; refine (peek_any b s q 1 la ts.length lc 0 0 _ (by omega) (by omega) (by omega) (h1.drewN _)).mono ?_; rintro e w1 ⟨rfl, q2, rfl⟩; rw [HC1.out]))
        go_quiet (fail)
        go_wp2_with fail
        refine ⟨.inl ⟨d, q + 1, ?_, by omega, by omega, (hst0.drewN _).at (by omega), (hbl.trans (below_drewB _ _)).setCell hb _, (huk.trans (UsK.below (drewN_below _ _))).trans ((hst0.drewN _).usAt _), HN2⟩, ?_⟩
        · first | rfl | exact congrArg (Value.int .i64) (by omega)
        · refine Nat.lt_of_le_of_lt (Nat.le_of_eq (zr_at (p' := q + 1) (hst0.drewN _) ?_ (by omega))) ?_
          · first | rfl | exact congrArg (Value.int .i64) (by omega)
          · rw [hst0.zr]; omega
      by_cases e42 : c = 42
      · subst e42
        have c1n41 : ¬ (c1 : Int) = 41 := by omega
        have c1b41 : ((c1 : Int) == 41) = false := by simp; omega
        
        go_wp2_with (first | (have _t := tk; go_at_call 23; refine (peek_any b s q 0 la ts.length lc 0 0 _ (by omega) (by omega) (by omega) h1).mono ?_; rintro e w1 ⟨rfl, q1, rfl⟩; rw [HC.out]; clear tk) | (go_at_call 23; refine (peek_any b s q 1 la ts.length lc 0 0 _ (by omega) (by omega) (by omega) (h1.drewN _)).mono ?_; rintro e w1 ⟨rfl, q2, rfl⟩; rw [HC1.out]))
        go_quiet (fail)
        go_wp2_with fail
        refine ⟨.inl ⟨d, q + 1, ?_, by omega, by omega, (hst0.drewN _).at (by omega), (hbl.trans (below_drewB _ _)).setCell hb _, (huk.trans (UsK.below (drewN_below _ _))).trans ((hst0.drewN _).usAt _), HN2⟩, ?_⟩
        · first | rfl | exact congrArg (Value.int .i64) (by omega)
        · refine Nat.lt_of_le_of_lt (Nat.le_of_eq (zr_at (p' := q + 1) (hst0.drewN _) ?_ (by omega))) ?_
          · first | rfl | exact congrArg (Value.int .i64) (by omega)
          · rw [hst0.zr]; omega
      have cn40 : ¬ (c : Int) = 40 := by omega
      have cb40 : ((c : Int) == 40) = false := by simp; omega
      have cn42 : ¬ (c : Int) = 42 := by omega
      have cb42 : ((c : Int) == 42) = false := by simp; omega
      
      go_wp2_with (first | (have _t := tk; go_at_call 23; refine (peek_any b s q 0 la ts.length lc 0 0 _ (by omega) (by omega) (by omega) h1).mono ?_; rintro e w1 ⟨rfl, q1, rfl⟩; rw [HC.out]; clear tk) | (go_at_call 23; refine (peek_any b s q 1 la ts.length lc 0 0 _ (by omega) (by omega) (by omega) (h1.drewN _)).mono ?_; rintro e w1 ⟨rfl, q2, rfl⟩; rw [HC1.out]))
      go_quiet (fail)
      go_wp2_with fail
      refine ⟨.inl ⟨d, q + 1, ?_, by omega, by omega, (hst0.drewN _).at (by omega), (hbl.trans (below_drewB _ _)).setCell hb _, (huk.trans (UsK.below (drewN_below _ _))).trans ((hst0.drewN _).usAt _), HN2⟩, ?_⟩
      · first | rfl | exact congrArg (Value.int .i64) (by omega)
      · refine Nat.lt_of_le_of_lt (Nat.le_of_eq (zr_at (p' := q + 1) (hst0.drewN _) ?_ (by omega))) ?_
        · first | rfl | exact congrArg (Value.int .i64) (by omega)
        · rw [hst0.zr]; omega
    obtain rfl : d = 0 := by omega
    by_cases hbk : c = 32 ∨ c = 9 ∨ c = 10 ∨ c = 13
    · have hlt := hin (by omega)
      have hlg : decide ((q : Int) < (s.size : Int)) = true := by rw [decide_eq_true_eq]; omega
      clear hin
      rw [if_pos (Or.inr ⟨hlt, hbk⟩), HN.out] at HU
      have HN2 := hid HU.symm
      clear HU
      rcases hbk with rfl | rfl | rfl | rfl
      · go_wp2_with (first | (have _t := tk; go_at_call 23; refine (peek_any b s q 0 la ts.length lc 0 0 _ (by omega) (by omega) (by omega) h1).mono ?_; rintro e w1 ⟨rfl, q1, rfl⟩; rw [HC.out]; clear tk) | (go_at_call 23; refine (peek_any b s q 1 la ts.length lc 0 0 _ (by omega) (by omega) (by omega) (h1.drewN _)).mono ?_; rintro e w1 ⟨rfl, q2, rfl⟩; rw [HC1.out]))
        go_quiet (fail)
        go_wp2_with fail
        go_quiet (fail)
        go_wp2_with fail
        refine ⟨.inl ⟨0, q + 1, ?_, by omega, by omega, (hst0.drewN _).at (by omega), (hbl.trans (below_drewB _ _)).setCell hb _, (huk.trans (UsK.below (drewN_below _ _))).trans ((hst0.drewN _).usAt _), HN2⟩, ?_⟩
        · first | rfl | exact congrArg (Value.int .i64) (by omega)
        · refine Nat.lt_of_le_of_lt (Nat.le_of_eq (zr_at (p' := q + 1) (hst0.drewN _) ?_ (by omega))) ?_
          · first | rfl | exact congrArg (Value.int .i64) (by omega)
          · rw [hst0.zr]; omega
      · go_wp2_with (first | (have _t := tk; go_at_call 23; refine (peek_any b s q 0 la ts.length lc 0 0 _ (by omega) (by omega) (by omega) h1).mono ?_; rintro e w1 ⟨rfl, q1, rfl⟩; rw [HC.out]; clear tk) | (go_at_call 23; refine (peek_any b s q 1 la ts.length lc 0 0 _ (by omega) (by omega) (by omega) (h1.drewN _)).mono ?_; rintro e w1 ⟨rfl, q2, rfl⟩; rw [HC1.out]))
        go_quiet (fail)
        go_wp2_with fail
        go_quiet (fail)
        go_wp2_with fail
        refine ⟨.inl ⟨0, q + 1, ?_, by omega, by omega, (hst0.drewN _).at (by omega), (hbl.trans (below_drewB _ _)).setCell hb _, (huk.trans (UsK.below (drewN_below _ _))).trans ((hst0.drewN _).usAt _), HN2⟩, ?_⟩
        · first | rfl | exact congrArg (Value.int .i64) (by omega)
        · refine Nat.lt_of_le_of_lt (Nat.le_of_eq (zr_at (p' := q + 1) (hst0.drewN _) ?_ (by omega))) ?_
          · first | rfl | exact congrArg (Value.int .i64) (by omega)
          · rw [hst0.zr]; omega
      · go_wp2_with (first | (have _t := tk; go_at_call 23; refine (peek_any b s q 0 la ts.length lc 0 0 _ (by omega) (by omega) (by omega) h1).mono ?_; rintro e w1 ⟨rfl, q1, rfl⟩; rw [HC.out]; clear tk) | (go_at_call 23; refine (peek_any b s q 1 la ts.length lc 0 0 _ (by omega) (by omega) (by omega) (h1.drewN _)).mono ?_; rintro e w1 ⟨rfl, q2, rfl⟩; rw [HC1.out]))
        go_quiet (fail)
        go_wp2_with fail
        go_quiet (fail)
        go_wp2_with fail
        refine ⟨.inl ⟨0, q + 1, ?_, by omega, by omega, (hst0.drewN _).at (by omega), (hbl.trans (below_drewB _ _)).setCell hb _, (huk.trans (UsK.below (drewN_below _ _))).trans ((hst0.drewN _).usAt _), HN2⟩, ?_⟩
        · first | rfl | exact congrArg (Value.int .i64) (by omega)
        · refine Nat.lt_of_le_of_lt (Nat.le_of_eq (zr_at (p' := q + 1) (hst0.drewN _) ?_ (by omega))) ?_
          · first | rfl | exact congrArg (Value.int .i64) (by omega)
          · rw [hst0.zr]; omega
      · go_wp2_with (first | (have _t := tk; go_at_call 23; refine (peek_any b s q 0 la ts.length lc 0 0 _ (by omega) (by omega) (by omega) h1).mono ?_; rintro e w1 ⟨rfl, q1, rfl⟩; rw [HC.out]; clear tk) | (go_at_call 23; refine (peek_any b s q 1 la ts.length lc 0 0 _ (by omega) (by omega) (by omega) (h1.drewN _)).mono ?_; rintro e w1 ⟨rfl, q2, rfl⟩; rw [HC1.out]))
        go_quiet (fail)
        go_wp2_with fail
        go_quiet (fail)
        go_wp2_with fail
        refine ⟨.inl ⟨0, q + 1, ?_, by omega, by omega, (hst0.drewN _).at (by omega), (hbl.trans (below_drewB _ _)).setCell hb _, (huk.trans (UsK.below (drewN_below _ _))).trans ((hst0.drewN _).usAt _), HN2⟩, ?_⟩
        · first | rfl | exact congrArg (Value.int .i64) (by omega)
        · refine Nat.lt_of_le_of_lt (Nat.le_of_eq (zr_at (p' := q + 1) (hst0.drewN _) ?_ (by omega))) ?_
          · first | rfl | exact congrArg (Value.int .i64) (by omega)
          · rw [hst0.zr]; omega
    clear hin
    rw [if_neg (by omega), HN.out] at HU
    subst HU
    have hout : ∀ q' q'', OutB w ((wr.drewN q').drewN q'') b s ts base (.returned (.tuple #[])) (some q) := fun q' q'' => ⟨rfl, (hbl.trans (below_drewB _ _)).trans (below_drewB _ _), (huk.trans (UsK.below (drewN_below _ _))).trans (UsK.below (drewN_below _ _)), (hst0.drewN _).drewN _, hq⟩
    have hfin := hid hout
    clear hout
    by_cases hlt : q < s.size
    · have hlg : decide ((q : Int) < (s.size : Int)) = true := by rw [decide_eq_true_eq]; omega
      have cn32 : ¬ (c : Int) = 32 := by omega
      have cb32 : ((c : Int) == 32) = false := by simp; omega
      have cn9 : ¬ (c : Int) = 9 := by omega
      have cb9 : ((c : Int) == 9) = false := by simp; omega
      have cn10 : ¬ (c : Int) = 10 := by omega
      have cb10 : ((c : Int) == 10) = false := by simp; omega
      have cn13 : ¬ (c : Int) = 13 := by omega
      have cb13 : ((c : Int) == 13) = false := by simp; omega
      
      by_cases e40 : c = 40
      · subst e40
        have c1n42 : ¬ (c1 : Int) = 42 := by omega
        have c1b42 : ((c1 : Int) == 42) = false := by simp; omega
        
        go_wp2_with (first | (have _t := tk; go_at_call 23; refine (peek_any b s q 0 la ts.length lc 0 0 _ (by omega) (by omega) (by omega) h1).mono ?_; rintro e w1 ⟨rfl, q1, rfl⟩; rw [HC.out]; clear tk) | (go_at_call 23; refine (peek_any b s q 1 la ts.length lc 0 0 _ (by omega) (by omega) (by omega) (h1.drewN _)).mono ?_; rintro e w1 ⟨rfl, q2, rfl⟩; rw [HC1.out]))
        go_quiet (fail)
        go_wp2_with fail
        go_quiet (fail)
        go_wp2_with fail
        refine bodyPost_ret (results_none rfl _ _ _) rfl ?_
        exact hfin.out _ _
      have cn40 : ¬ (c : Int) = 40 := by omega
      have cb40 : ((c : Int) == 40) = false := by simp; omega
      
      go_wp2_with (first | (have _t := tk; go_at_call 23; refine (peek_any b s q 0 la ts.length lc 0 0 _ (by omega) (by omega) (by omega) h1).mono ?_; rintro e w1 ⟨rfl, q1, rfl⟩; rw [HC.out]; clear tk) | (go_at_call 23; refine (peek_any b s q 1 la ts.length lc 0 0 _ (by omega) (by omega) (by omega) (h1.drewN _)).mono ?_; rintro e w1 ⟨rfl, q2, rfl⟩; rw [HC1.out]))
      go_quiet (fail)
      go_wp2_with fail
      go_quiet (fail)
      go_wp2_with fail
      refine bodyPost_ret (results_none rfl _ _ _) rfl ?_
      exact hfin.out _ _
    · have hlg : decide ((q : Int) < (s.size : Int)) = false := by rw [decide_eq_false_iff_not]; omega
      obtain rfl : c = 0 := by rw [← HC.out]; exact bt_out (by omega)
      go_wp2_with (first | (have _t := tk; go_at_call 23; refine (peek_any b s q 0 la ts.length lc 0 0 _ (by omega) (by omega) (by omega) h1).mono ?_; rintro e w1 ⟨rfl, q1, rfl⟩; rw [HC.out]; clear tk) | (go_at_call 23; refine (peek_any b s q 1 la ts.length lc 0 0 _ (by omega) (by omega) (by omega) (h1.drewN _)).mono ?_; rintro e w1 ⟨rfl, q2, rfl⟩; rw [HC1.out]))
      go_quiet (fail)
      go_wp2_with fail
      go_quiet (fail)
      go_wp2_with fail
      refine bodyPost_ret (results_none rfl _ _ _) rfl ?_
      exact hfin.out _ _
end Go.Proofs.YtajpeeccomgnnaaGreatDoor
