/-
  big.Cmp, DivMod, walked.
-/
import Derived.Test.YticfggljaagcmaaDoorInts4
namespace Go.Proofs.YticfggljaagcmaaDoor
set_option linter.all false
open Go.RowKit

theorem sgn_neg {z : Int} (h : z < 0) : sgn z = -1 := by simp [sgn, h]
theorem sgn_zero : sgn 0 = 0 := rfl
theorem sgn_pos {z : Int} (h : 0 < z) : sgn z = 1 := by unfold sgn; rw [if_neg (by omega), if_pos h]
theorem cmpI_lt {x y : Int} (h : x < y) : cmpI x y = -1 := by simp [cmpI, h]
theorem cmpI_gt {x y : Int} (h : y < x) : cmpI x y = 1 := by unfold cmpI; rw [if_neg (by omega), if_pos h]
theorem cmpI_eq {x y : Int} (h : x = y) : cmpI x y = 0 := by unfold cmpI; rw [if_neg (by omega), if_neg (by omega)]
theorem cmpN_up {b : Bool} {x y : Nat} (hb : b = false) : cmpN x y = cmpI (ival b x) (ival b y) := by
  subst hb; unfold cmpN cmpI ival; simp
theorem cmpN_down {b : Bool} {x y : Nat} (hb : b = true) : cmpN y x = cmpI (ival b x) (ival b y) := by
  subst hb; unfold cmpN cmpI ival; simp
theorem Us.alloc2 {w : World} {a : Option Addr} {n c : Nat} {h : Nat → Nat} (k : Us w a n c h) (o o' : Obj) : Us ((w.alloc o).alloc o') a n c h := (k.alloc _).alloc _

set_option maxHeartbeats 2000000 in
theorem cmp_any (neg neg' : Bool) (a a' : Option Addr) (n c n' c' : Nat) (f g : Nat → Nat) (w : World) (hn : n ≤ 1099511627776) (hn' : n' ≤ 1099511627776) (hu : Us w a n c f) (hu' : Us w a' n' c' g) :
    Calls Tryd.prog 32 #[.agg #[.bool neg, .slice a n c], .agg #[.bool neg', .slice a' n' c']] w fun e w' => ResN w w' .i64 (cmpI (ival neg (val f n)) (ival neg' (val g n'))) e := by
    have tok : True := trivial
    go_enter Tryd.func32, Tryd.ntmps32
    go_wp2_with fail
    go_region_held3 (fun wx => wx.cell? ⟨w.heap.size, 0, none⟩ = some (.bool neg) ∧ wx.cell? ⟨w.heap.size, 1, none⟩ = some (.slice a n c) ∧ wx.cell? ⟨w.heap.size + 1, 0, none⟩ = some (.bool neg') ∧ wx.cell? ⟨w.heap.size + 1, 1, none⟩ = some (.slice a' n' c')) (refine ⟨?_, ?_, ?_, ?_⟩ <;> first | (go_keep; done) | (simp [*, go_sem]; done)) (first | (have _t := tok; go_at_call 33; refine (sign_any _ _ _ _ _ _ (by omega) (hu.alloc2 _ _).drew).mono ?_; rintro e w1 ⟨rfl, ky3⟩; obtain ⟨hcy, hfy⟩ := bcell ky3; have hzy0 : w.heap.size < w1.heap.size := Nat.lt_of_lt_of_le (by first | (simp; done) | (simp; omega) | omega) ky3.size; have hzy1 : w.heap.size + 1 < w1.heap.size := Nat.lt_of_lt_of_le (by first | (simp; done) | (simp; omega) | omega) ky3.size; clear tok) | (go_at_call 33; refine (sign_any _ _ _ _ _ _ (by omega) ((hu'.alloc2 _ _).drew.below ky3 (Nat.le_refl _))).mono ?_; rintro e w2 ⟨rfl, kx3⟩; obtain ⟨hcx, hfx⟩ := bcell kx3; have hzx0 : w.heap.size < w2.heap.size := Nat.lt_of_lt_of_le (by first | (simp; done) | (simp; omega) | omega) kx3.size; have hzx1 : w.heap.size + 1 < w2.heap.size := Nat.lt_of_lt_of_le (by first | (simp; done) | (simp; omega) | omega) kx3.size))
    have k2 : Below w.heap.size w w2 := (((below_alloc w _).trans ((below_alloc _ _).mono (by simp))).drew.trans (ky3.mono (by simp; omega))).trans (kx3.mono (by omega))
    have u1 := ((hu.alloc2 (.cells #[.bool neg, .slice a n c] 24) (.cells #[.bool neg', .slice a' n' c'] 24)).drew.below ky3 (Nat.le_refl _)).below kx3 (Nat.le_refl _)
    have u2 := ((hu'.alloc2 (.cells #[.bool neg, .slice a n c] 24) (.cells #[.bool neg', .slice a' n' c'] 24)).drew.below ky3 (Nat.le_refl _)).below kx3 (Nat.le_refl _)
    rcases Int.lt_trichotomy (ival neg (val f n)) 0 with hX | hX | hX <;> rcases Int.lt_trichotomy (ival neg' (val g n')) 0 with hY | hY | hY
    · -- both below nought
      have e1 : neg = true := by cases neg; · simp [ival] at hX; omega
                                 · rfl
      have e2 : neg' = true := by cases neg'; · simp [ival] at hY; omega
                                  · rfl
      rw [sgn_neg hX, sgn_neg hY]
      have e3 := hid (And.intro e1 e2)
      clear hX hY e1 e2
      go_wp2_with (go_at_call 56; refine (natCmp_keeps _ _ _ _ _ _ _ _ _ (by omega) (by omega) u2 u1).mono ?_; rintro e w3 ⟨rfl, kc3, _⟩)
      go_ret
      refine ⟨?_, k2.trans (kc3.mono (by omega))⟩
      obtain ⟨rfl, rfl⟩ := e3.out
      rw [← cmpN_down rfl]
      rfl
    · rw [sgn_neg hX, hY, sgn_zero]; have HH := hid (And.intro hX hY); clear hX hY; go_wp2; go_ret; exact ⟨by obtain ⟨hX, hY⟩ := HH.out; rw [cmpI_lt (by omega)]; rfl, k2⟩
    · rw [sgn_neg hX, sgn_pos hY]; have HH := hid (And.intro hX hY); clear hX hY; go_wp2; go_ret; exact ⟨by obtain ⟨hX, hY⟩ := HH.out; rw [cmpI_lt (by omega)]; rfl, k2⟩
    · rw [hX, sgn_neg hY, sgn_zero]; have HH := hid (And.intro hX hY); clear hX hY; go_wp2; go_ret; exact ⟨by obtain ⟨hX, hY⟩ := HH.out; rw [cmpI_gt (by omega)]; rfl, k2⟩
    · -- both nought
      have e1 : val f n = 0 := by cases neg <;> simp [ival] at hX <;> omega
      have e2 : val g n' = 0 := by cases neg' <;> simp [ival] at hY <;> omega
      rw [hX, hY, sgn_zero]
      have e3 := hid (And.intro e1 e2)
      have e4 := hid (cmpI_eq (hX.trans hY.symm))
      clear hX hY e1 e2
      go_wp2_with (go_at_call 56; refine (natCmp_keeps _ _ _ _ _ _ _ _ _ (by omega) (by omega) u1 u2).mono ?_; rintro e w3 ⟨rfl, kc3, _⟩)
      go_ret
      refine ⟨?_, k2.trans (kc3.mono (by omega))⟩
      obtain ⟨e1, e2⟩ := e3.out
      rw [e4.out]
      show Ending.returned (.int .i64 (cmpN (val f n) (val g n'))) = _
      rw [cmpN_eq (e1.trans e2.symm)]
    · rw [hX, sgn_zero, sgn_pos hY]; have HH := hid (And.intro hX hY); clear hX hY; go_wp2; go_ret; exact ⟨by obtain ⟨hX, hY⟩ := HH.out; rw [cmpI_lt (by omega)]; rfl, k2⟩
    · rw [sgn_pos hX, sgn_neg hY]; have HH := hid (And.intro hX hY); clear hX hY; go_wp2; go_ret; exact ⟨by obtain ⟨hX, hY⟩ := HH.out; rw [cmpI_gt (by omega)]; rfl, k2⟩
    · rw [sgn_pos hX, hY, sgn_zero]; have HH := hid (And.intro hX hY); clear hX hY; go_wp2; go_ret; exact ⟨by obtain ⟨hX, hY⟩ := HH.out; rw [cmpI_gt (by omega)]; rfl, k2⟩
    · -- both above nought
      have e1 : neg = false := by cases neg; · rfl
                                  · simp [ival] at hX; omega
      have e2 : neg' = false := by cases neg'; · rfl
                                   · simp [ival] at hY; omega
      rw [sgn_pos hX, sgn_pos hY]
      have e3 := hid (And.intro e1 e2)
      clear hX hY e1 e2
      go_wp2_with (go_at_call 56; refine (natCmp_keeps _ _ _ _ _ _ _ _ _ (by omega) (by omega) u1 u2).mono ?_; rintro e w3 ⟨rfl, kc3, _⟩)
      go_ret
      refine ⟨?_, k2.trans (kc3.mono (by omega))⟩
      obtain ⟨rfl, rfl⟩ := e3.out
      rw [← cmpN_up rfl]
      rfl
end Go.Proofs.YticfggljaagcmaaDoor
