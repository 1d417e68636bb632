/-
  big.Sign, Valid, Sub, Cmp, walked.
-/
import Derived.Test.YticfggljaagcmaaDoorInts3
namespace Go.Proofs.YticfggljaagcmaaDoor
set_option linter.all false
open Go.RowKit

/-- The sign of an integer. -/
def sgn (z : Int) : Int := if z < 0 then -1 else if 0 < z then 1 else 0
/-- How two integers stand. -/
def cmpI (x y : Int) : Int := if x < y then -1 else if y < x then 1 else 0
/-- A number is answered; the world is below as it was. -/
def ResN (w w' : World) (k : IntKind) (z : Int) (e : Ending) : Prop := e = .returned (.int k z) ∧ Below w.heap.size w w'
theorem ival_zero_iff {sg : Bool} {f : Nat → Nat} {n : Nat} (h : Nm f n) : ival sg (val f n) = 0 ↔ n = 0 := by
  have := h.zero
  unfold ival; cases sg <;> simp <;> omega

set_option maxHeartbeats 1000000 in
theorem sign_any (neg : Bool) (a : Option Addr) (n c : Nat) (f : Nat → Nat) (w : World) (hn : n ≤ 4398046511104) (hu : Us w a n c f) :
    Calls Tryd.prog 33 #[.agg #[.bool neg, .slice a n c]] w fun e w' => ResN w w' .i64 (sgn (ival neg (val f n))) e := by
  go_enter Tryd.func33, Tryd.ntmps33
  go_wp2_with fail
  refine (norm_any _ _ _ _ _ _ (by omega) (hu.alloc _)).mono ?_
  rintro e w1 ⟨sgx, ax, nx, cx, fx, rfl, kx1, kx2, kx3, kx4, kx5, kx6, kx7⟩
  obtain ⟨r0, r1, r2, r3, r4⟩ := new2 kx3
  have hb : Below w.heap.size w w1 := (below_alloc w _).trans (kx3.mono (by simp))
  have K6 := hid kx6
  have K5 := hid kx5
  clear kx6 kx5
  by_cases h0 : nx = 0
  · subst h0
    have := K5.out rfl
    subst this
    go_wp2
    go_ret
    refine ⟨?_, (hb.setCell (by simp) _).setCell (by simp) _⟩
    rw [← K6.out]; simp [ival, val, sgn]
  · have hv : 0 < val fx nx := by rcases Nat.eq_zero_or_pos (val fx nx) with h | h
                                  · exact absurd (kx4.zero.1 h) h0
                                  · exact h
    have hne : ¬ (nx : Int) = 0 := by omega
    cases sgx
    all_goals
      go_wp2
      go_ret
      refine ⟨?_, (hb.setCell (by simp) _).setCell (by simp) _⟩
      rw [← K6.out]
      unfold sgn ival
      simp only [Bool.false_eq_true, if_false, if_true]
      first
        | (rw [if_neg (by omega), if_pos (by omega)])
        | (rw [if_pos (by omega)])
      try rfl


/-- Does it stand as it should? -/
def stB (neg : Bool) (f : Nat → Nat) (n : Nat) : Bool := if n = 0 then !neg else ((f (n - 1) : Int) != 0)
theorem stB_iff {neg : Bool} {f : Nat → Nat} {n : Nat} : stB neg f n = true ↔ Nm f n ∧ (n = 0 → neg = false) := by
  unfold stB Nm
  by_cases h : n = 0
  · simp [h]
  · simp [h]

set_option maxHeartbeats 1000000 in
theorem valid_any (neg : Bool) (a : Option Addr) (n c : Nat) (f : Nat → Nat) (w : World) (hn : n ≤ 4398046511104) (hu : Us w a n c f) :
    Calls Tryd.prog 41 #[.agg #[.bool neg, .slice a n c]] w fun e w' => e = .returned (.bool (stB neg f n)) ∧ Below w.heap.size w w' := by
  by_cases h0 : n = 0
  · have e0 : stB neg f n = !neg := by simp [stB, h0]
    rw [e0]
    subst h0
    clear e0
    go_enter Tryd.func41, Tryd.ntmps41
    go_wp2
    go_ret
    exact ⟨rfl, below_alloc w _⟩
  · have e0 : stB neg f n = ((f (n - 1) : Int) != 0) := by simp [stB, h0]
    rw [e0]
    clear e0
    obtain ⟨m, rfl⟩ : ∃ m, n = m + 1 := ⟨n - 1, by omega⟩
    have hle := hu.le
    obtain ⟨b, off, rfl, hc⟩ := (hu.alloc (.cells #[.bool neg, .slice a (m + 1) c] 24)).cell m (by omega)
    have hne : ¬ ((m : Int) + 1 = 0) := by omega
    clear h0
    simp only [Nat.add_sub_cancel]
    go_enter Tryd.func41, Tryd.ntmps41
    go_wp2
    go_ret
    exact ⟨rfl, below_alloc w _⟩

set_option maxHeartbeats 2000000 in
theorem sub_any (neg neg' : Bool) (a a' : Option Addr) (n c n' c' : Nat) (f g : Nat → Nat) (w : World) (hn : n ≤ 1099511627776) (hn' : n' ≤ 1099511627776) (hu : Us w a n c f) (hu' : Us w a' n' c' g) :
    Calls Tryd.prog 25 #[.agg #[.bool neg, .slice a n c], .agg #[.bool neg', .slice a' n' c']] w fun e w' => ResI w w' (ival neg (val f n) - ival neg' (val g n')) (max n n' + 1) e := by
    go_enter Tryd.func25, Tryd.ntmps25
    go_wp2_with fail
    go_region_held3 (fun wx => wx.cell? ⟨w.heap.size, 0, none⟩ = some (.bool neg) ∧ wx.cell? ⟨w.heap.size, 1, none⟩ = some (.slice a n c) ∧ wx.cell? ⟨w.heap.size + 1, 0, none⟩ = some (.bool neg') ∧ wx.cell? ⟨w.heap.size + 1, 1, none⟩ = some (.slice a' n' c')) (refine ⟨?_, ?_, ?_, ?_⟩ <;> first | (go_keep; done) | (simp [*, go_sem]; done)) (first | (go_at_call 22; refine (neg_any _ _ _ _ _ _ (by omega) (hu'.alloc3 _ _ _).drew).mono ?_; rintro e w1 ⟨sgy, ay, ny, cy, fy, rfl, ky1, ky2, ky3, ky4, ky5, ky6, ky7⟩; obtain ⟨hcy, hfy⟩ := bcell ky3; have hzy0 : w.heap.size < w1.heap.size := Nat.lt_of_lt_of_le (by first | (simp; done) | (simp; omega) | omega) ky3.size; have hzy1 : w.heap.size + 1 < w1.heap.size := Nat.lt_of_lt_of_le (by first | (simp; done) | (simp; omega) | omega) ky3.size; have hzy2 : w.heap.size + 2 < w1.heap.size := Nat.lt_of_lt_of_le (by first | (simp; done) | (simp; omega) | omega) ky3.size; have Ky6 := hid ky6; have Ky5 := hid ky5; clear ky6 ky5) | (go_at_call 24; refine (add_any _ _ _ _ _ _ _ _ _ _ _ (by omega) (by omega) ((hu.alloc3 _ _ _).drew.below ky3 (Nat.le_refl _)) ky1).mono ?_; rintro e w2 ⟨sgx, ax, nx, cx, fx, rfl, kx1, kx2, kx3, kx4, kx5, kx6, kx7⟩; obtain ⟨hcx, hfx⟩ := bcell kx3; have hzx0 : w.heap.size < w2.heap.size := Nat.lt_of_lt_of_le (by first | (simp; done) | (simp; omega) | omega) kx3.size; have hzx1 : w.heap.size + 1 < w2.heap.size := Nat.lt_of_lt_of_le (by first | (simp; done) | (simp; omega) | omega) kx3.size; have hzx2 : w.heap.size + 2 < w2.heap.size := Nat.lt_of_lt_of_le (by first | (simp; done) | (simp; omega) | omega) kx3.size; have Kx6 := hid kx6; have Kx5 := hid kx5; clear kx6 kx5))
    go_wp2
    exact bodyPost_ret (by simp [results, Tryd.results25, go_sem, hcx, hcy, hzy2]) rfl (ResI.out kx1 kx2 kx3 kx4 Kx5.out Kx6.out kx7 (((below_alloc3 w _ _ _).drew).trans (ky3.mono (by simp; omega))) (by omega) hzy2 (by rw [Ky6.out]; omega) (by omega) _ _)
end Go.Proofs.YticfggljaagcmaaDoor
