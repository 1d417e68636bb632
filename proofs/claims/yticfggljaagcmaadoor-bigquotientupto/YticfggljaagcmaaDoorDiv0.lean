/-
  big.natDiv, walked: the cases without a long division.
-/
import Derived.Test.YticfggljaagcmaaDoorDigit
import Derived.Test.YticfggljaagcmaaDoorDivs
namespace Go.Proofs.YticfggljaagcmaaDoor
set_option linter.all false
open Go.RowKit

set_option maxRecDepth 100000 in
set_option maxHeartbeats 1000000 in
theorem natDiv_zero (a a' : Option Addr) (n c n' c' : Nat) (f g : Nat → Nat) (w : World) (hn : n ≤ 1099511627776) (hn' : n' ≤ 1099511627776) (hu : Us w a n c f) (hu' : Us w a' n' c' g) (h0 : nrm g n' = 0) :
    Calls Tryd.prog 44 #[.slice a n c, .slice a' n' c'] w fun e w' => e = .returned (.tuple #[.slice none 0 0, .slice none 0 0, .int .i64 10]) ∧ w = w' := by
  go_enter Tryd.func44, Tryd.ntmps44
  go_wp2_with (go_at_call 64; refine (bare_any _ _ _ _ _ (by omega) (by assumption)).mono ?_; rintro e w' ⟨rfl, rfl⟩)
  go_ret3
  exact ⟨rfl, rfl⟩

set_option maxRecDepth 100000 in
set_option maxHeartbeats 1000000 in
theorem natDiv_one (a a' : Option Addr) (n c n' c' : Nat) (f g : Nat → Nat) (w : World) (hn : n ≤ 1099511627776) (hn' : n' ≤ 1099511627776) (hu : Us w a n c f) (hu' : Us w a' n' c' g) (h1 : nrm g n' = 1) :
    Calls Tryd.prog 44 #[.slice a n c, .slice a' n' c'] w fun e w' => ∃ r m d h r2 m2 d2 h2, e = .returned (.tuple #[.slice r m d, .slice r2 m2 d2, .int .i64 0]) ∧ Us w' r m d h ∧ New w' w.heap.size r d ∧ Us w' r2 m2 d2 h2 ∧ New w' w.heap.size r2 d2 ∧ Below w.heap.size w w' ∧ Nm h m ∧ Nm h2 m2 ∧ val f n = val h m * val g n' + val h2 m2 ∧ val h2 m2 < val g n' ∧ m ≤ n ∧ m2 ≤ n' := by
  have b1 := nrm_le f n
  have b2 := nrm_le g n'
  have v1 := hid (val_nrm f n)
  have l1 := hu.le
  have l2 := hu'.le
  have lg := hu'.lm 0 (by omega)
  obtain ⟨bb, ob, rfl, hc⟩ := hu'.cell 0 (by omega)
  simp only [Nat.add_zero] at hc
  have t := nrm_nm g n'
  have vg : val g n' = g 0 := by rw [← val_nrm g n', h1]; simp [val, pw]
  rw [h1] at t
  have hg0 : 1 ≤ g 0 := by rcases t with t | t <;> simp at t; omega
  have VG := hid vg
  have U1 := hu.cut (Nat.le_refl (nrm f n)) (by omega)
  clear vg t
  go_enter Tryd.func44, Tryd.ntmps44
  go_wp2_with (first | (go_at_call 64; refine (bare_any _ _ _ _ _ (by omega) (by assumption)).mono ?_; rintro e w' ⟨rfl, rfl⟩) | (go_at_call 65; refine (short_any _ _ _ _ _ _ (by omega) hg0 lg U1).mono ?_; rintro e w' ⟨r, m, d, h, tt, rfl, k1, k2, k3, k4, k5, k6, k7⟩))
  have K5 := hid k5
  clear k5
  go_wp2_with (go_at_call 59; refine (natOf_any tt _ (by omega)).mono ?_; rintro e w' ⟨r2, m2, d2, hh2, rfl, e1, e2, e3, e4, e5, e6⟩)
  go_ret3
  have vg := VG.out
  have few : m2 ≤ 1 := e4.few (by rw [e5]; simp [pw]; omega)
  refine ⟨_, _, _, _, _, _, _, _, rfl, k1.below e3 (Nat.le_refl _), k2.below k1 e3 (Nat.le_refl _), e1, e2.mono k3.size, k3.trans (e3.mono k3.size), k4, e4, ?_, by rw [e5, vg]; exact k6, by omega, by omega⟩
  rw [e5, vg, ← v1.out, K5.out]

theorem cmpN_neg {x y : Nat} (h : x < y) : cmpN x y < 0 := by rw [cmpN_lt h]; omega

set_option maxRecDepth 100000 in
set_option maxHeartbeats 1000000 in
theorem natDiv_less (a a' : Option Addr) (n c n' c' : Nat) (f g : Nat → Nat) (w : World) (hn : n ≤ 1099511627776) (hn' : n' ≤ 1099511627776) (hu : Us w a n c f) (hu' : Us w a' n' c' g) (h1 : 2 ≤ nrm g n') (hlt : val f n < val g n') :
    Calls Tryd.prog 44 #[.slice a n c, .slice a' n' c'] w fun e w' => ∃ r m d h r2 m2 d2 h2, e = .returned (.tuple #[.slice r m d, .slice r2 m2 d2, .int .i64 0]) ∧ Us w' r m d h ∧ New w' w.heap.size r d ∧ Us w' r2 m2 d2 h2 ∧ New w' w.heap.size r2 d2 ∧ Below w.heap.size w w' ∧ Nm h m ∧ Nm h2 m2 ∧ val f n = val h m * val g n' + val h2 m2 ∧ val h2 m2 < val g n' ∧ m ≤ n ∧ m2 ≤ n' := by
  have b1 := nrm_le f n
  have b2 := nrm_le g n'
  have v1 := hid (val_nrm f n)
  have l1 := hu.le
  have l2 := hu'.le
  have U1 := hu.cut (Nat.le_refl (nrm f n)) (by omega)
  have U2 := hu'.cut (Nat.le_refl (nrm g n')) (by omega)
  have hc := cmpN_neg (x := val f (nrm f n)) (y := val g (nrm g n')) (by rw [val_nrm, val_nrm]; exact hlt)
  have HL := hid hlt
  have hne : ¬ (nrm g n' = 0) := by omega
  have hne1 : ¬ (nrm g n' = 1) := by omega
  clear hlt
  go_enter Tryd.func44, Tryd.ntmps44
  go_wp2_with (first | (go_at_call 64; refine (bare_any _ _ _ _ _ (by omega) (by assumption)).mono ?_; rintro e w' ⟨rfl, rfl⟩) | (go_at_call 56; refine (natCmp_any _ _ _ _ _ _ _ _ _ (by omega) (by omega) U1 U2).mono ?_; rintro e w' ⟨rfl, q, rfl⟩))
  have U3 := (U1.drewN q).alloc (.cells #[] 58)
  go_wp2_with (go_at_call 66; refine (own_any _ _ _ _ _ (by omega) U3).mono ?_; rintro e w' ⟨r2, m2, d2, hh2, rfl, e1, e2, e3, e4, e5, e6⟩)
  have E5 := hid e5
  clear e5
  go_ret3
  have hb : Below w.heap.size w ((w.drewN q).alloc (.cells #[] 58)) := (drewN_below w q _).trans (below_alloc (w.drewN q) _)
  have hb2 : Below w.heap.size w w' := hb.trans (e3.mono (by show w.heap.size ≤ ((w.drewN q).alloc _).heap.size; simp [World.drewN]))
  have hl := HL.out
  have fe := E5.out
  rw [v1.out] at fe
  refine ⟨_, 0, 0, (fun _ => 0), _, _, _, _, rfl, (Arr.empty _ _ (fun _ => .int .u32 ((0 : Nat) : Int))).us (fun _ hi => by omega), New.nil _ _ _, e1, e2.mono (by show w.heap.size ≤ ((w.drewN q).alloc _).heap.size; simp [World.drewN]), hb2, .inl rfl, e4, ?_, by omega, by omega, ?_⟩
  · rw [fe]; simp [val]
  · have := (nrm_nm g n')
    have hq := val_lt (hu'.lm.mono (Nat.le_trans b2 l2))
    rw [val_nrm] at hq
    have := e4.few (m := nrm g n') (by omega)
    omega
end Go.Proofs.YticfggljaagcmaaDoor
