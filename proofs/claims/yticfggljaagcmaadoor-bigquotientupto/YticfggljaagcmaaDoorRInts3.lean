/-
  The reference's Cmp, Same, Is, Of, walked.
-/
import Derived.Test.YticfggljaagcmaaDoorRInts1
namespace Go.Proofs.YticfggljaagcmaaDoor
set_option linter.all false
open Go.RowKit

theorem neg_cmpN (x y : Nat) : -cmpN x y = cmpN y x := by
  unfold cmpN
  rcases Nat.lt_trichotomy x y with h | h | h
  · rw [if_pos h, if_neg (by omega), if_pos h]; rfl
  · rw [if_neg (by omega), if_neg (by omega), if_neg (by omega), if_neg (by omega)]; rfl
  · rw [if_neg (by omega), if_pos h, if_pos h]

set_option maxHeartbeats 2000000 in
theorem rcmp_any (neg neg' : Bool) (a a' : Option Addr) (n c n' c' : Nat) (f g : Nat → Nat) (w : World) (hn : n ≤ 1099511627776) (hn' : n' ≤ 1099511627776) (hu : Us w a n c f) (hu' : Us w a' n' c' g) :
    Calls Tryd.prog 34 #[.agg #[.bool neg, .slice a n c], .agg #[.bool neg', .slice a' n' c']] w fun e w' => ResN w w' .i64 (cmpI (ival neg (val f n)) (ival neg' (val g n'))) e := by
    have tok : True := trivial
    go_enter Tryd.func34, Tryd.ntmps34
    go_wp2_with (first | (have _t := tok; go_at_call 30; refine (rsign_any _ _ _ _ _ _ (by omega) (hu.alloc2 _ _)).mono ?_; rintro e w1 ⟨rfl, ky3⟩; obtain ⟨hcy, hfy⟩ := bcell ky3; have hzy0 : w.heap.size < w1.heap.size := Nat.lt_of_lt_of_le (by first | (simp; done) | (simp; omega) | omega) ky3.size; have hzy1 : w.heap.size + 1 < w1.heap.size := Nat.lt_of_lt_of_le (by first | (simp; done) | (simp; omega) | omega) ky3.size; clear tok) | (go_at_call 30; refine (rsign_any _ _ _ _ _ _ (by omega) ((hu'.alloc2 _ _).below ky3 (Nat.le_refl _))).mono ?_; rintro e w2 ⟨rfl, kx3⟩; obtain ⟨hcx, hfx⟩ := bcell kx3; have hzx0 : w.heap.size < w2.heap.size := Nat.lt_of_lt_of_le (by first | (simp; done) | (simp; omega) | omega) kx3.size; have hzx1 : w.heap.size + 1 < w2.heap.size := Nat.lt_of_lt_of_le (by first | (simp; done) | (simp; omega) | omega) kx3.size; refine stopped ?_))
    unfold Stopped
    have k2 : Below w.heap.size w w2 := (((below_alloc w _).trans ((below_alloc _ _).mono (by simp))).trans (ky3.mono (by simp; omega))).trans (kx3.mono (by omega))
    have u1 := ((hu.alloc2 (.cells #[.bool neg, .slice a n c] 24) (.cells #[.bool neg', .slice a' n' c'] 24)).below ky3 (Nat.le_refl _)).below kx3 (Nat.le_refl _)
    have u2 := ((hu'.alloc2 (.cells #[.bool neg, .slice a n c] 24) (.cells #[.bool neg', .slice a' n' c'] 24)).below ky3 (Nat.le_refl _)).below kx3 (Nat.le_refl _)
    rcases Int.lt_trichotomy (ival neg (val f n)) 0 with hX | hX | hX <;> rcases Int.lt_trichotomy (ival neg' (val g n')) 0 with hY | hY | hY
    · have e1 : neg = true := by cases neg; · simp [ival] at hX; omega
                                 · rfl
      have e2 : neg' = true := by cases neg'; · simp [ival] at hY; omega
                                  · rfl
      rw [sgn_neg hX, sgn_neg hY]
      have e3 := hid (And.intro e1 e2)
      clear hX hY e1 e2
      have fin : Hid (∀ z, z = cmpN (val f n) (val g n') → -z = cmpI (ival neg (val f n)) (ival neg' (val g n'))) := by
        obtain ⟨rfl, rfl⟩ := e3.out
        exact hid (fun z hz => by rw [hz, neg_cmpN]; exact cmpN_down rfl)
      clear e3
      rcases Nat.lt_trichotomy (val f n) (val g n') with hc | hc | hc
      · have HC := hid (cmpN_lt hc)
        clear hc
        go_wp2_with (go_at_call 60; refine (rnatCmp_any _ _ _ _ _ _ _ _ _ (by omega) (by omega) u1 u2).mono ?_; rintro e w3 ⟨rfl, hw⟩; obtain rfl := hw.symm; rw [HC.out])
        go_ret
        exact ⟨by rw [← fin.out _ HC.out.symm]; rfl, k2⟩
      · have HC := hid (cmpN_eq hc)
        clear hc
        go_wp2_with (go_at_call 60; refine (rnatCmp_any _ _ _ _ _ _ _ _ _ (by omega) (by omega) u1 u2).mono ?_; rintro e w3 ⟨rfl, hw⟩; obtain rfl := hw.symm; rw [HC.out])
        go_ret
        exact ⟨by rw [← fin.out _ HC.out.symm]; rfl, k2⟩
      · have HC := hid (cmpN_gt hc)
        clear hc
        go_wp2_with (go_at_call 60; refine (rnatCmp_any _ _ _ _ _ _ _ _ _ (by omega) (by omega) u1 u2).mono ?_; rintro e w3 ⟨rfl, hw⟩; obtain rfl := hw.symm; rw [HC.out])
        go_ret
        exact ⟨by rw [← fin.out _ HC.out.symm]; rfl, k2⟩
    · rw [sgn_neg hX, hY, sgn_zero]; have HH := hid (And.intro hX hY); clear hX hY; go_wp2; go_ret; exact ⟨by obtain ⟨hX, hY⟩ := HH.out; rw [cmpI_lt (by omega)]; rfl, k2⟩
    · rw [sgn_neg hX, sgn_pos hY]; have HH := hid (And.intro hX hY); clear hX hY; go_wp2; go_ret; exact ⟨by obtain ⟨hX, hY⟩ := HH.out; rw [cmpI_lt (by omega)]; rfl, k2⟩
    · rw [hX, sgn_neg hY, sgn_zero]; have HH := hid (And.intro hX hY); clear hX hY; go_wp2; go_ret; exact ⟨by obtain ⟨hX, hY⟩ := HH.out; rw [cmpI_gt (by omega)]; rfl, k2⟩
    · have e1 : val f n = 0 := by cases neg <;> simp [ival] at hX <;> omega
      have e2 : val g n' = 0 := by cases neg' <;> simp [ival] at hY <;> omega
      rw [hX, hY, sgn_zero]
      have HC := hid (cmpN_eq (e1.trans e2.symm))
      have e4 := hid (cmpI_eq (hX.trans hY.symm))
      clear hX hY e1 e2
      go_wp2_with (go_at_call 60; refine (rnatCmp_any _ _ _ _ _ _ _ _ _ (by omega) (by omega) u1 u2).mono ?_; rintro e w3 ⟨rfl, hw⟩; obtain rfl := hw.symm; rw [HC.out])
      go_ret
      exact ⟨by rw [e4.out]; rfl, k2⟩
    · rw [hX, sgn_zero, sgn_pos hY]; have HH := hid (And.intro hX hY); clear hX hY; go_wp2; go_ret; exact ⟨by obtain ⟨hX, hY⟩ := HH.out; rw [cmpI_lt (by omega)]; rfl, k2⟩
    · rw [sgn_pos hX, sgn_neg hY]; have HH := hid (And.intro hX hY); clear hX hY; go_wp2; go_ret; exact ⟨by obtain ⟨hX, hY⟩ := HH.out; rw [cmpI_gt (by omega)]; rfl, k2⟩
    · rw [sgn_pos hX, hY, sgn_zero]; have HH := hid (And.intro hX hY); clear hX hY; go_wp2; go_ret; exact ⟨by obtain ⟨hX, hY⟩ := HH.out; rw [cmpI_gt (by omega)]; rfl, k2⟩
    · have e1 : neg = false := by cases neg; · rfl
                                  · simp [ival] at hX; omega
      have e2 : neg' = false := by cases neg'; · rfl
                                   · simp [ival] at hY; omega
      rw [sgn_pos hX, sgn_pos hY]
      have e3 := hid (And.intro e1 e2)
      clear hX hY e1 e2
      have fin : Hid (∀ z, z = cmpN (val f n) (val g n') → z = cmpI (ival neg (val f n)) (ival neg' (val g n'))) := by
        obtain ⟨rfl, rfl⟩ := e3.out
        exact hid (fun z hz => by rw [hz]; exact cmpN_up rfl)
      clear e3
      rcases Nat.lt_trichotomy (val f n) (val g n') with hc | hc | hc
      · have HC := hid (cmpN_lt hc)
        clear hc
        go_wp2_with (go_at_call 60; refine (rnatCmp_any _ _ _ _ _ _ _ _ _ (by omega) (by omega) u1 u2).mono ?_; rintro e w3 ⟨rfl, hw⟩; obtain rfl := hw.symm; rw [HC.out])
        go_ret
        exact ⟨by rw [← fin.out _ HC.out.symm]; rfl, k2⟩
      · have HC := hid (cmpN_eq hc)
        clear hc
        go_wp2_with (go_at_call 60; refine (rnatCmp_any _ _ _ _ _ _ _ _ _ (by omega) (by omega) u1 u2).mono ?_; rintro e w3 ⟨rfl, hw⟩; obtain rfl := hw.symm; rw [HC.out])
        go_ret
        exact ⟨by rw [← fin.out _ HC.out.symm]; rfl, k2⟩
      · have HC := hid (cmpN_gt hc)
        clear hc
        go_wp2_with (go_at_call 60; refine (rnatCmp_any _ _ _ _ _ _ _ _ _ (by omega) (by omega) u1 u2).mono ?_; rintro e w3 ⟨rfl, hw⟩; obtain rfl := hw.symm; rw [HC.out])
        go_ret
        exact ⟨by rw [← fin.out _ HC.out.symm]; rfl, k2⟩

theorem cmpI_zero {x y : Int} : (cmpI x y = 0) ↔ x = y := by
  unfold cmpI
  constructor
  · intro h
    split at h
    · cases h
    · split at h
      · cases h
      · omega
  · intro h
    rw [if_neg (by omega), if_neg (by omega)]

set_option maxHeartbeats 1000000 in
theorem same_any (neg neg' : Bool) (a a' : Option Addr) (n c n' c' : Nat) (f g : Nat → Nat) (w : World) (hn : n ≤ 1099511627776) (hn' : n' ≤ 1099511627776) (hu : Us w a n c f) (hu' : Us w a' n' c' g) :
    Calls Tryd.prog 71 #[.agg #[.bool neg, .slice a n c], .agg #[.bool neg', .slice a' n' c']] w fun e w' => e = .returned (.bool (decide (ival neg (val f n) = ival neg' (val g n')))) ∧ Below w.heap.size w w' := by
  have HZ := hid (cmpI_zero (x := ival neg (val f n)) (y := ival neg' (val g n')))
  generalize hq : cmpI (ival neg (val f n)) (ival neg' (val g n')) = q at HZ
  go_enter Tryd.func71, Tryd.ntmps71
  go_wp2_with (go_at_call 34; refine (rcmp_any _ _ _ _ _ _ _ _ _ _ _ (by omega) (by omega) (hu.alloc2 _ _) (hu'.alloc2 _ _)).mono ?_; rintro e w1 ⟨rfl, ky3⟩; rw [hq])
  go_ret
  refine ⟨?_, (below_alloc2 w _ _).trans (ky3.mono (by simp; omega))⟩
  rw [show decide (ival neg (val f n) = ival neg' (val g n')) = decide (q = 0) from decide_eq_decide.2 HZ.out.symm]
  rfl

set_option maxHeartbeats 1000000 in
theorem is_any (neg neg' : Bool) (a a' : Option Addr) (n c n' c' : Nat) (f g : Nat → Nat) (w : World) (hn : n ≤ 1099511627776) (hn' : n' ≤ 1099511627776) (hu : Us w a n c f) (hu' : Us w a' n' c' g) :
    Calls Tryd.prog 48 #[.agg #[.bool neg, .slice a n c], .agg #[.bool neg', .slice a' n' c']] w fun e w' => e = .returned (.bool (stB neg f n && decide (ival neg (val f n) = ival neg' (val g n')))) ∧ Below w.heap.size w w' := by
  generalize hq : stB neg f n = q
  cases q
  all_goals
    go_enter Tryd.func48, Tryd.ntmps48
    go_wp2_with (first | (go_at_call 43; refine (rvalid_any _ _ _ _ _ _ (by omega) (hu.alloc2 _ _)).mono ?_; rintro e w1 ⟨rfl, ky3⟩; rw [hq]; obtain ⟨hcy, hfy⟩ := bcell ky3; have hzy0 : w.heap.size < w1.heap.size := Nat.lt_of_lt_of_le (by first | (simp; done) | (simp; omega) | omega) ky3.size; have hzy1 : w.heap.size + 1 < w1.heap.size := Nat.lt_of_lt_of_le (by first | (simp; done) | (simp; omega) | omega) ky3.size) | (go_at_call 71; refine (same_any _ _ _ _ _ _ _ _ _ _ _ (by omega) (by omega) ((hu.alloc2 _ _).below ky3 (Nat.le_refl _)) ((hu'.alloc2 _ _).below ky3 (Nat.le_refl _))).mono ?_; rintro e w2 ⟨rfl, kx3⟩))
    go_ret
    exact ⟨rfl, ((below_alloc2 w _ _).trans (ky3.mono (by simp; omega))).trans (kx3.mono (by omega))⟩
end Go.Proofs.YticfggljaagcmaaDoor
