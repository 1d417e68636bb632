/-
  big.left, big.short, walked: a magnitude shifted; a magnitude divided by one limb.
-/
import Derived.Test.YticfggljaagcmaaDoorNatMul
namespace Go.Proofs.YticfggljaagcmaaDoor
set_option linter.all false
open Go.RowKit

theorem left_step {x s y : Nat} (hx : x ≤ 4294967295) (hs : s ≤ 31) (hy : y < 2 ^ s) :
    (y ||| (x * 2 ^ s % 4294967296)) = y + x * 2 ^ s % 4294967296 ∧ y + x * 2 ^ s % 4294967296 ≤ 4294967295 ∧ x * 2 ^ s / 4294967296 < 2 ^ s ∧ x * 2 ^ s ≤ 18446744073709551615 := by
  have h31 : 2 ^ s ≤ 2 ^ 31 := Nat.pow_le_pow_right (by omega) hs
  have e32 : (4294967296 : Nat) = 2 ^ s * 2 ^ (32 - s) := by rw [← Nat.pow_add, show s + (32 - s) = 32 by omega]
  have hm : x * 2 ^ s % 4294967296 % 2 ^ s = 0 := by
    rw [e32, Nat.mod_mul_right_mod]; simp
  have h1 : (y ||| (x * 2 ^ s % 4294967296)) = y + x * 2 ^ s % 4294967296 := by
    rw [Nat.or_comm, nat_join s _ _ hm hy, Nat.add_comm]
  have h2 : (y ||| (x * 2 ^ s % 4294967296)) < 2 ^ 32 := Nat.or_lt_two_pow (by omega) (by omega)
  have h3 : x * 2 ^ s ≤ 4294967295 * 2 ^ s := Nat.mul_le_mul_right _ hx
  refine ⟨h1, by omega, ?_, by omega⟩
  refine Nat.div_lt_of_lt_mul ?_
  have := Nat.two_pow_pos s
  omega
theorem left_val {v y T q W A D F k : Nat} (h : v + y * pw k = q * T) (e : A = y + W % 4294967296) (e2 : D = W / 4294967296) (e3 : W = F * T) :
    v + A * pw k + D * pw (k + 1) = (q + F * pw k) * T := by
  have e4 : A * pw k = y * pw k + W % 4294967296 * pw k := by rw [e, Nat.add_mul]
  have e5 : D * pw (k + 1) = 4294967296 * (W / 4294967296) * pw k := by rw [e2, pw_succ, Nat.mul_left_comm, Nat.mul_assoc]
  have e6 : (W % 4294967296 + 4294967296 * (W / 4294967296)) * pw k = F * pw k * T := by
    rw [Nat.mod_add_div, e3, Nat.mul_right_comm]
  rw [Nat.add_mul] at e6
  rw [Nat.add_mul]
  omega
theorem wrap_u64 {x : Int} {y : Nat} (h : x = (y : Int)) (hy : y ≤ 18446744073709551615) : IntKind.u64.wrap x = (y : Int) := by
  rw [h]; exact IntWalk.u64_in _ (by omega)

set_option maxHeartbeats 1000000 in
theorem left_any (a : Option Addr) (n c s : Nat) (f : Nat → Nat) (w : World) (hn : n ≤ 1099511627776) (hs : s ≤ 31) (hu : Us w a n c f) :
    Calls Tryd.prog 68 #[.slice a n c, .int .u64 s] w fun e w' => ∃ g h, e = .returned (.slice (some ⟨g, 0, none⟩) (n + 1) (n + 1)) ∧ Cs w' g 0 (n + 1) h ∧ Fr w' g 0 (n + 1) ∧ Lm h (n + 1) ∧ w.heap.size ≤ g ∧ Below w.heap.size w w' ∧ val h (n + 1) = val f n * 2 ^ s := by
  have lf := hu.lm
  have l1 := hu.le
  go_enter Tryd.func68, Tryd.ntmps68
  go_wp2_with (at_make; refine wpList_make_arr _ rfl _ _ 22 rfl 58 (.int .u32 0) 4 Tryd.underlying22 Tryd.info58 rfl _ _ _ _ (n + 1) rfl rfl (by omega) (by omega) (by omega) (by omega) ?_)
  intro w1 hc1 hf1 hb1 hs1
  have C1 := Cs.made hc1
  have F1 : Fr w1 w.heap.size 0 (n + 1) := fun i _ => hf1 _
  have hs0 := Nat.le_of_eq hs1.symm
  clear hc1 hf1 hs1
  go_wp2
  go_loopw [15] (fun iv wr => ∃ (k : Nat) (h : Nat → Nat), k ≤ n ∧ iv = .int .i64 k ∧ Cs wr w.heap.size 0 (n + 1) h ∧ Fr wr w.heap.size 0 (n + 1) ∧ Lm h (n + 1) ∧ h k < 2 ^ s ∧ Hid (val h (k + 1) = val f k * 2 ^ s) ∧ Below w.heap.size w wr ∧ w.heap.size + 1 ≤ wr.heap.size) (fun iv _ => n - (intOf iv).toNat)
  case atStart => exact ⟨0, _, Nat.zero_le _, rfl, C1, F1, fun _ _ => Nat.zero_le _, Nat.two_pow_pos _, by show val _ _ = val _ _ * _; simp [val], hb1, hs0⟩
  case round =>
    clear C1 F1 hb1 hs0
    obtain ⟨k, hh, hk, rfl, hC, hF, hL, hT, hV, hB, hS⟩ := hrel
    by_cases hlt : k < n
    · obtain ⟨bl, ol, rfl, hcl⟩ := (hu.below hB (Nat.le_refl _)).cell k (by omega)
      have lk := lf k (by omega)
      have hfr := hF k (by omega)
      have hco := hC k (by omega)
      have hfr' := hF (k + 1) (by omega)
      have hco' := hC (k + 1) (by omega)
      rw [Nat.zero_add] at hfr hco hfr' hco'
      have lo := hL k (by omega)
      go_wp2
      go_roundw
      case rel =>
        go_light
        obtain ⟨q1, q2, q3, q4⟩ := left_step lk hs hT
        have e1 : IntKind.u64.wrap ((f k : Int) * 2 ^ s) = ((f k * 2 ^ s : Nat) : Int) := wrap_u64 (by simp) q4
        rw [e1]
        have e2 : bits .or .u32 (hh k : Int) (((f k * 2 ^ s : Nat) : Int) % 4294967296) = ((hh k + f k * 2 ^ s % 4294967296 : Nat) : Int) := by
          have := u32_or_nat (hh k) (f k * 2 ^ s % 4294967296) (by omega) (by omega)
          rw [q1] at this
          rw [← this]; congr 1
        rw [e2]
        have k1 := hC.put (j := k) (by omega) (x := hh k + f k * 2 ^ s % 4294967296) rfl
        have k2 := k1.put (j := k + 1) (by omega) (x := f k * 2 ^ s / 4294967296) (v := ((f k * 2 ^ s : Nat) : Int) / 4294967296 % 4294967296) (by omega)
        refine ⟨k + 1, _, by omega, by go_num, k2, (hF.set _ _).set _ _, (hL.upd q2).upd (by omega), by rw [upd_same]; exact q3, ?_, (hB.setCell (by simp) _).setCell (by simp) _, by simpa using hS⟩
        show val _ (k + 1 + 1) = _
        rw [val_upd_at, val_upd_at]
        have hV' := hV.out
        rw [val_succ] at hV'
        rw [left_val hV' rfl rfl rfl, val_succ]
      case measure => simp [intOf]; omega
    · have hkN : k = n := by omega
      subst hkN
      go_wp2
      go_ret
      exact ⟨_, hh, rfl, hC, hF, hL, Nat.le_refl _, hB, hV⟩
end Go.Proofs.YticfggljaagcmaaDoor
