/-
  big.natCmp, walked: how two magnitudes stand.
-/
import Derived.Test.YticfggljaagcmaaDoorBare
import Derived.RegionTactic
import Derived.BigQuiet
import Derived.Deep.QuietTactic
namespace Go.Proofs.YticfggljaagcmaaDoor
set_option linter.all false
open Go.RowKit

/-- How two numbers stand: -1, 0, 1. -/
def cmpN (x y : Nat) : Int := if x < y then -1 else if y < x then 1 else 0

theorem cmpN_lt {x y : Nat} (h : x < y) : cmpN x y = -1 := by simp [cmpN, h]
theorem cmpN_gt {x y : Nat} (h : y < x) : cmpN x y = 1 := by simp [cmpN, h]; omega
theorem cmpN_eq {x y : Nat} (h : x = y) : cmpN x y = 0 := by simp [cmpN, h]

theorem fewer {f g : Nat → Nat} {n m : Nat} (hf : Lm f n) (hg : Nm g m) (h : n < m) : val f n < val g m := by
  have h1 := val_lt hf
  by_cases c : val g m < pw n
  · have := hg.few c; omega
  · omega
theorem top_lt {f g : Nat → Nat} {k n : Nat} (hf : Lm f n) (hk : k < n) (he : ∀ j, k < j → j < n → f j = g j) (h : f k < g k) : val f n < val g n := by
  induction n with
  | zero => omega
  | succ n ih =>
    rw [val_succ, val_succ]
    by_cases e : k = n
    · subst e
      have h1 := val_lt (hf.mono (Nat.le_succ k))
      have : (f k + 1) * pw k ≤ g k * pw k := Nat.mul_le_mul_right _ h
      rw [Nat.succ_mul] at this; omega
    · have := ih (hf.mono (Nat.le_succ n)) (by omega) (fun j h1 h2 => he j h1 (by omega))
      rw [he n (by omega) (by omega)]; omega

set_option maxHeartbeats 1000000 in
theorem natCmp_any (a a' : Option Addr) (n c n' c' : Nat) (f g : Nat → Nat) (w : World) (hn : n ≤ 1099511627776) (hn' : n' ≤ 1099511627776) (hu : Us w a n c f) (hu' : Us w a' n' c' g) :
    Calls Tryd.prog 56 #[.slice a n c, .slice a' n' c'] w fun e w' => e = .returned (.int .i64 (cmpN (val f n) (val g n'))) ∧ ∃ q, w' = w.drewN q := by
  have b1 := nrm_le f n
  have b2 := nrm_le g n'
  go_enter Tryd.func56, Tryd.ntmps56
  go_wp2_with (go_at_call 64; refine (bare_any _ _ _ _ _ (by omega) (by assumption)).mono ?_; rintro e w' ⟨rfl, rfl⟩)
  · have hlt : nrm f n < nrm g n' := by omega
    go_ret
    have := fewer (hu.lm.mono (Nat.le_trans b1 hu.le)) (nrm_nm g n') hlt
    rw [val_nrm, val_nrm] at this
    exact ⟨by rw [cmpN_lt this]; rfl, 0, rfl⟩
  · have hlt : nrm g n' < nrm f n := by have e := ‹(_ != _) = true›; simp at e; omega
    go_ret
    have := fewer (hu'.lm.mono (Nat.le_trans b2 hu'.le)) (nrm_nm f n) hlt
    rw [val_nrm, val_nrm] at this
    exact ⟨by rw [cmpN_gt this]; rfl, 0, rfl⟩
  · have hm : nrm g n' = nrm f n := by have e := ‹(_ != _) = false›; simp at e; omega
    have c1 := (hu.cut (Nat.le_refl (nrm f n)) (by have := hu.le; omega)).cell
    have c2 := (hu'.cut (Nat.le_refl (nrm g n')) (by have := hu'.le; omega)).cell
    have HM := hid hm
    have lf := hu.lm
    have lg := hu'.lm
    have l1 := hu.le
    have l2 := hu'.le
    clear hm hu hu'
    go_loopw [5] (fun v wr => (∃ q, wr = w.drewN q) ∧ ∃ k : Nat, k ≤ nrm f n ∧ (∀ j, k ≤ j → j < nrm f n → f j = g j) ∧ v = .int .i64 ((k : Int) - 1)) (fun v _ => (intOf v + 1).toNat)
    case atStart => exact ⟨⟨0, rfl⟩, nrm f n, Nat.le_refl _, fun j h1 h2 => by omega, rfl⟩
    case round =>
      obtain ⟨⟨q, rfl⟩, k, hk, hj, rfl⟩ := hrel
      have HJ := hid hj
      clear hj
      cases k with
      | zero =>
        go_wp2
        go_ret
        refine ⟨?_, q, rfl⟩
        have : val f n = val g n' := by rw [← val_nrm f n, ← val_nrm g n', HM.out]; exact val_congr fun i hi => HJ.out i (by omega) hi
        rw [cmpN_eq this]; rfl
      | succ k =>
        obtain ⟨b, off, rfl, hc1⟩ := c1 k (by omega)
        obtain ⟨b', off', rfl, hc2⟩ := c2 k (by rw [HM.out]; omega)
        have ek : ((k + 1 : Nat) : Int) - 1 = k := by omega
        rw [ek]
        have k1 : k < nrm f n := by omega
        have k2 : k < nrm g n' := by rw [HM.out]; omega
        clear c1 c2 ek hk
        go_wp2
        go_region
        go_wp2
        · have hlt : f k < g k := by assumption
          go_ret
          refine ⟨?_, _, rfl⟩
          have := top_lt (n := nrm f n) (lf.mono (by omega)) k1 (fun j h1 h2 => HJ.out j (by omega) h2) hlt
          rw [val_nrm, ← HM.out, val_nrm] at this
          rw [cmpN_lt this]; rfl
        · go_region
          go_wp2
          · have hlt : g k < f k := by assumption
            go_ret
            refine ⟨?_, _, rfl⟩
            have := top_lt (n := nrm g n') (lg.mono (by omega)) k2 (fun j h1 h2 => (HJ.out j (by omega) (by rw [← HM.out]; exact h2)).symm) hlt
            rw [val_nrm, HM.out, val_nrm] at this
            rw [cmpN_gt this]; rfl
          · have h1 : ¬ f k < g k := by assumption
            have h2 : ¬ g k < f k := by assumption
            go_roundw
            case rel =>
              refine ⟨⟨_, rfl⟩, k, by omega, fun j h3 h4 => ?_, by go_num⟩
              by_cases e : j = k
              · subst e; omega
              · exact HJ.out j (by omega) h4
            case measure => simp [intOf]
end Go.Proofs.YticfggljaagcmaaDoor
