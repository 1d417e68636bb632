/-
  The reference's Norm, Valid, Sign, Neg, Abs, walked.
-/
import Derived.Test.YticfggljaagcmaaDoorInts5
import Derived.Test.YticfggljaagcmaaDoorRDiv
namespace Go.Proofs.YticfggljaagcmaaDoor
set_option linter.all false
open Go.RowKit


set_option maxHeartbeats 1000000 in
theorem rnorm_any (neg : Bool) (a : Option Addr) (n c : Nat) (f : Nat → Nat) (w : World) (hn : n ≤ 4398046511104) (hu : Us w a n c f) :
    Calls Tryd.prog 18 #[.agg #[.bool neg, .slice a n c]] w fun e w' => ResI w w' (ival neg (val f n)) n e := by
  cases neg
  all_goals
    go_enter Tryd.func18, Tryd.ntmps18
    go_wp2_with (go_at_call 47; refine (rtrim_any _ _ _ _ _ (by omega) ((hu.alloc _).alloc _)).mono ?_; rintro e w1 ⟨ax, nx, cx, fx, rfl, kx1, kx2, kx3, kx4, kx5, kx6⟩; obtain ⟨hcx, hfx⟩ := bcell kx3; have hzx0 : w.heap.size < w1.heap.size := Nat.lt_of_lt_of_le (by first | (simp; done) | (simp; omega) | omega) kx3.size; have hzx1 : w.heap.size + 1 < w1.heap.size := Nat.lt_of_lt_of_le (by first | (simp; done) | (simp; omega) | omega) kx3.size)
    refine bodyPost_ret (by simp [results, Tryd.results18, go_sem, hcx]; rfl) rfl (ResI.out kx1 kx2 kx3 kx4 ?_ ?_ kx6 (below_alloc2 w _ _) (by simp) (by simp) rfl (Nat.le_refl _) _ _)
  · intro _; rfl
  · rw [kx5.out]
  · intro e; subst e; rfl
  · rw [← kx5.out]
    by_cases e : 0 < nx
    · simp [e]
    · have : nx = 0 := by omega
      subst this
      simp [ival, val]

set_option maxHeartbeats 1000000 in
theorem rneg_any (neg : Bool) (a : Option Addr) (n c : Nat) (f : Nat → Nat) (w : World) (hn : n ≤ 4398046511104) (hu : Us w a n c f) :
    Calls Tryd.prog 35 #[.agg #[.bool neg, .slice a n c]] w fun e w' => ResI w w' (-ival neg (val f n)) n e := by
  go_enter Tryd.func35, Tryd.ntmps35
  go_wp2_with (go_at_call 18; refine (rnorm_any _ _ _ _ _ _ (by omega) ((hu.alloc _).alloc _)).mono ?_; rintro e w1 ⟨sgx, ax, nx, cx, fx, rfl, kx1, kx2, kx3, kx4, kx5, kx6, kx7⟩; obtain ⟨hcx, hfx⟩ := bcell kx3; have hzx0 : w.heap.size < w1.heap.size := Nat.lt_of_lt_of_le (by first | (simp; done) | (simp; omega) | omega) kx3.size; have hzx1 : w.heap.size + 1 < w1.heap.size := Nat.lt_of_lt_of_le (by first | (simp; done) | (simp; omega) | omega) kx3.size; have Kx6 := hid kx6; have Kx5 := hid kx5; clear kx6 kx5)
  exact bodyPost_ret (by simp [results, Tryd.results35, go_sem, hcx]) rfl (ResI.out kx1 kx2 kx3 kx4 Kx5.out Kx6.out kx7 (below_alloc2 w _ _) (by simp) (by simp) (ival_not _ _) (Nat.le_refl _) _ _)

set_option maxHeartbeats 1000000 in
theorem rabs_any (neg : Bool) (a : Option Addr) (n c : Nat) (f : Nat → Nat) (w : World) (hn : n ≤ 4398046511104) (hu : Us w a n c f) :
    Calls Tryd.prog 36 #[.agg #[.bool neg, .slice a n c]] w fun e w' => ResI w w' ((val f n : Int)) n e := by
  go_enter Tryd.func36, Tryd.ntmps36
  go_wp2_with (go_at_call 18; refine (rnorm_any _ _ _ _ _ _ (by omega) ((hu.alloc _).alloc _)).mono ?_; rintro e w1 ⟨sgx, ax, nx, cx, fx, rfl, kx1, kx2, kx3, kx4, kx5, kx6, kx7⟩; obtain ⟨hcx, hfx⟩ := bcell kx3; have hzx0 : w.heap.size < w1.heap.size := Nat.lt_of_lt_of_le (by first | (simp; done) | (simp; omega) | omega) kx3.size; have hzx1 : w.heap.size + 1 < w1.heap.size := Nat.lt_of_lt_of_le (by first | (simp; done) | (simp; omega) | omega) kx3.size; have Kx6 := hid kx6; have Kx5 := hid kx5; clear kx6 kx5)
  exact bodyPost_ret (by simp [results, Tryd.results36, go_sem, hcx]) rfl (ResI.out kx1 kx2 kx3 kx4 Kx5.out Kx6.out kx7 (below_alloc2 w _ _) (by simp) (by simp) rfl (Nat.le_refl _) _ _)

set_option maxHeartbeats 1000000 in
theorem rsign_any (neg : Bool) (a : Option Addr) (n c : Nat) (f : Nat → Nat) (w : World) (hn : n ≤ 4398046511104) (hu : Us w a n c f) :
    Calls Tryd.prog 30 #[.agg #[.bool neg, .slice a n c]] w fun e w' => ResN w w' .i64 (sgn (ival neg (val f n))) e := by
  go_enter Tryd.func30, Tryd.ntmps30
  go_wp2_with fail
  refine (rnorm_any _ _ _ _ _ _ (by omega) (hu.alloc _)).mono ?_
  rintro e w1 ⟨sgx, ax, nx, cx, fx, rfl, kx1, kx2, kx3, kx4, kx5, kx6, kx7⟩
  obtain ⟨r0, r1, r2, r3, r4⟩ := new2 kx3
  have hb : Below w.heap.size w w1 := (below_alloc w _).trans (kx3.mono (by simp))
  have K6 := hid kx6
  have K5 := hid kx5
  clear kx6 kx5
  have hbs := hb.size
  by_cases h0 : nx = 0
  · subst h0
    have := K5.out rfl
    subst this
    go_wp2
    go_ret
    refine ⟨?_, hb.alloc hbs _⟩
    rw [← K6.out]; simp [ival, val, sgn]
  · have hv : 0 < val fx nx := by rcases Nat.eq_zero_or_pos (val fx nx) with h | h
                                  · exact absurd (kx4.zero.1 h) h0
                                  · exact h
    have hne : ¬ (nx : Int) = 0 := by omega
    cases sgx
    all_goals
      go_wp2
      go_ret
      refine ⟨?_, hb.alloc hbs _⟩
      rw [← K6.out]
      unfold sgn ival
      simp only [Bool.false_eq_true, if_false, if_true]
      first
        | (rw [if_neg (by omega), if_pos (by omega)])
        | (rw [if_pos (by omega)])
      try rfl

theorem Nm.of_val {f g : Nat → Nat} {n : Nat} (hf : Lm f n) (hg : Nm g n) (h : val g n = val f n) : Nm f n := by
  cases n with
  | zero => exact .inl rfl
  | succ n =>
    right
    intro e
    simp at e
    have h1 := hg.ge
    rw [h, val_succ, e] at h1
    have h2 := val_lt (hf.mono (Nat.le_succ n))
    omega
theorem ival_abs {s t : Bool} {x y : Nat} (h : ival s x = ival t y) : x = y := by
  cases s <;> cases t <;> simp [ival] at h <;> omega
theorem ival_sg {s t : Bool} {x y : Nat} (h : ival s x = ival t y) (hx : 0 < x) : s = t := by
  cases s <;> cases t <;> simp [ival] at h <;> first | rfl | omega
theorem stB_norm {sg neg : Bool} {fx f : Nat → Nat} {nx n : Nat} (lx : Lm fx nx) (lf : Lm f n) (hm : Nm fx nx) (h0 : nx = 0 → sg = false) (h : ival sg (val fx nx) = ival neg (val f n)) :
    stB neg f n = decide (sg = neg ∧ nx = n) := by
  have e := ival_abs h
  have key : stB neg f n = true ↔ (sg = neg ∧ nx = n) := by
    rw [stB_iff]
    constructor
    · rintro ⟨k1, k2⟩
      have e1 : nx = n := Nat.le_antisymm (hm.few (by rw [e]; exact val_lt lf)) (k1.few (by rw [← e]; exact val_lt lx))
      refine ⟨?_, e1⟩
      by_cases hz : nx = 0
      · rw [h0 hz, k2 (by omega)]
      · exact ival_sg h (by rcases Nat.eq_zero_or_pos (val fx nx) with q | q
                            · exact absurd (hm.zero.1 q) hz
                            · exact q)
    · rintro ⟨rfl, rfl⟩
      exact ⟨Nm.of_val lf hm e, h0⟩
  cases hq : stB neg f n
  · have : ¬ (sg = neg ∧ nx = n) := fun k => by rw [key.2 k] at hq; cases hq
    rw [decide_eq_false this]
  · rw [decide_eq_true (key.1 hq)]

set_option maxHeartbeats 1000000 in
theorem rvalid_any (neg : Bool) (a : Option Addr) (n c : Nat) (f : Nat → Nat) (w : World) (hn : n ≤ 4398046511104) (hu : Us w a n c f) :
    Calls Tryd.prog 43 #[.agg #[.bool neg, .slice a n c]] w fun e w' => e = .returned (.bool (stB neg f n)) ∧ Below w.heap.size w w' := by
  have lf := hu.lm.mono hu.le
  go_enter Tryd.func43, Tryd.ntmps43
  go_wp2_with fail
  refine (rnorm_any _ _ _ _ _ _ (by omega) (hu.alloc _)).mono ?_
  rintro e w1 ⟨sgx, ax, nx, cx, fx, rfl, kx1, kx2, kx3, kx4, kx5, kx6, kx7⟩
  obtain ⟨r0, r1, r2, r3, r4⟩ := new2 kx3
  have hb : Below w.heap.size w w1 := (below_alloc w _).trans (kx3.mono (by simp))
  have HST := hid (stB_norm (kx1.lm.mono kx1.le) lf kx4 kx5 kx6)
  clear kx6 kx5
  have hbs := hb.size
  by_cases hs : sgx = neg
  · by_cases he : nx = n
    · subst hs; subst he
      have HE := hid (HST.out.trans (decide_eq_true ⟨rfl, rfl⟩))
      cases sgx
      all_goals
        go_wp2
        go_ret
        exact ⟨by rw [HE.out]; rfl, hb.alloc hbs _⟩
    · subst hs
      have hq : ¬ (nx : Int) = (n : Int) := by omega
      have HE := hid (HST.out.trans (decide_eq_false (fun k => he k.2)))
      cases sgx
      all_goals
        go_wp2
        go_ret
        exact ⟨by rw [HE.out]; simp [hq]; done, hb.alloc hbs _⟩
  · have HE := hid (HST.out.trans (decide_eq_false (fun k => hs k.1)))
    cases sgx <;> cases neg
    all_goals first
      | exact absurd rfl hs
      | (clear hs
         go_wp2
         go_ret
         exact ⟨by rw [HE.out]; rfl, hb.alloc hbs _⟩)
end Go.Proofs.YticfggljaagcmaaDoor
