/-
  The reference's natCmp, walked.
-/
import Derived.Test.YticfggljaagcmaaDoorRTrim
namespace Go.Proofs.YticfggljaagcmaaDoor
set_option linter.all false
open Go.RowKit

theorem cmpN_step {F G : Nat → Nat} {k : Nat} (hF : Lm F (k + 1)) (hG : Lm G (k + 1)) :
    (F k < G k → cmpN (val F (k + 1)) (val G (k + 1)) = -1) ∧ (G k < F k → cmpN (val F (k + 1)) (val G (k + 1)) = 1) ∧ (F k = G k → cmpN (val F (k + 1)) (val G (k + 1)) = cmpN (val F k) (val G k)) := by
  have h1 := val_lt (hF.mono (Nat.le_succ k))
  have h2 := val_lt (hG.mono (Nat.le_succ k))
  refine ⟨fun h => cmpN_lt ?_, fun h => cmpN_gt ?_, fun h => ?_⟩
  · rw [val_succ, val_succ]
    have : (F k + 1) * pw k ≤ G k * pw k := Nat.mul_le_mul_right _ h
    rw [Nat.succ_mul] at this; omega
  · rw [val_succ, val_succ]
    have : (G k + 1) * pw k ≤ F k * pw k := Nat.mul_le_mul_right _ h
    rw [Nat.succ_mul] at this; omega
  · rw [val_succ, val_succ, h]
    unfold cmpN
    simp
theorem ex_lm {f : Nat → Nat} {n m : Nat} (h : Lm f n) : Lm (ex f n) m := fun i _ => by
  unfold ex
  split
  · exact h i (by assumption)
  · omega

set_option maxHeartbeats 1000000 in
theorem rnatCmp_any (a a' : Option Addr) (n c n' c' : Nat) (f g : Nat → Nat) (w : World) (hn : n ≤ 4398046511104) (hn' : n' ≤ 4398046511104) (hu : Us w a n c f) (hu' : Us w a' n' c' g) :
    Calls Tryd.prog 60 #[.slice a n c, .slice a' n' c'] w fun e w' => e = .returned (.int .i64 (cmpN (val f n) (val g n'))) ∧ w' = w := by
  have e1 := hid (ex_val (g := f) (show n ≤ max n n' by omega))
  have e2 := hid (ex_val (g := g) (show n' ≤ max n n' by omega))
  have lF : ∀ m, Lm (ex f n) m := fun m => ex_lm (hu.lm.mono hu.le)
  have lG : ∀ m, Lm (ex g n') m := fun m => ex_lm (hu'.lm.mono hu'.le)
  generalize hM : max n n' = M at e1 e2
  go_enter Tryd.func60, Tryd.ntmps60
  go_wp2
  go_loop [5, 6] (fun ov iv => ∃ k : Nat, k ≤ M ∧ iv = .int .i64 k ∧ ov = .int .i64 (cmpN (val (ex f n) k) (val (ex g n') k))) (fun _ iv => M - (intOf iv).toNat)
  case atStart => exact ⟨0, Nat.zero_le _, rfl, rfl⟩
  case round =>
    obtain ⟨k, hk, rfl, rfl⟩ := hrel
    by_cases h0 : k < M
    · have hs := cmpN_step (lF (k + 1)) (lG (k + 1))
      rcases Nat.lt_trichotomy (ex f n k) (ex g n' k) with hc | hc | hc
      · have hr := hid (hs.1 hc)
        clear hs
        generalize hx : ex f n k = x at hc
        generalize hy : ex g n' k = y at hc
        have hng : ¬ y < x := by omega
        by_cases hkn : k < n
        all_goals
          go_wp2_with (go_at_call 80; refine (at_any _ _ _ _ _ _ (by omega) (by first | exact hu | exact hu')).mono ?_; rintro e w' ⟨rfl, rfl⟩; try rw [hx]; try rw [hy])
          refine ⟨⟨k + 1, by omega, by congr 1, by rw [hr.out]⟩, by simp [intOf]; omega⟩
      · have hr := hid (hs.2.2 hc)
        clear hs
        generalize hx : ex f n k = x
        have hy := hc.symm.trans hx; clear hc
        by_cases hkn : k < n
        all_goals
          go_wp2_with (go_at_call 80; refine (at_any _ _ _ _ _ _ (by omega) (by first | exact hu | exact hu')).mono ?_; rintro e w' ⟨rfl, rfl⟩; try rw [hx]; try rw [hy])
          refine ⟨⟨k + 1, by omega, by congr 1, by rw [hr.out]⟩, by simp [intOf]; omega⟩
      · have hr := hid (hs.2.1 hc)
        clear hs
        generalize hx : ex f n k = x at hc
        generalize hy : ex g n' k = y at hc
        have hng : ¬ x < y := by omega
        by_cases hkn : k < n
        all_goals
          go_wp2_with (go_at_call 80; refine (at_any _ _ _ _ _ _ (by omega) (by first | exact hu | exact hu')).mono ?_; rintro e w' ⟨rfl, rfl⟩; try rw [hx]; try rw [hy])
          refine ⟨⟨k + 1, by omega, by congr 1, by rw [hr.out]⟩, by simp [intOf]; omega⟩
    · have hkM : k = M := by omega
      subst hkM
      have hn1 : ¬ k < n := by omega
      have hn2 : ¬ k < n' := by omega
      go_wp2
      go_ret
      exact ⟨by rw [e1.out, e2.out]; rfl, rfl⟩
end Go.Proofs.YticfggljaagcmaaDoor
