/-
  The reference's quo, walked: a magnitude by a limb.
-/
import Derived.Test.YticfggljaagcmaaDoorRTrim
namespace Go.Proofs.YticfggljaagcmaaDoor
set_option linter.all false
open Go.RowKit

set_option maxHeartbeats 1000000 in
theorem quo_any (a : Option Addr) (n c b : Nat) (f : Nat → Nat) (w : World) (hn : n ≤ 2199023255552) (hb : 1 ≤ b) (hb2 : b ≤ 4294967295) (hu : Us w a n c f) :
    Calls Tryd.prog 78 #[.slice a n c, .int .u32 b] w fun e w' => ∃ r m d h, e = .returned (.tuple #[.slice r m d, .int .u32 ((val f n % b : Nat) : Int)]) ∧ Us w' r m d h ∧ New w' w.heap.size r d ∧ Below w.heap.size w w' ∧ Nm h m ∧ Hid (val h m = val f n / b) ∧ m ≤ n := by
  have lf := hu.lm
  have l1 := hu.le
  go_enter Tryd.func78, Tryd.ntmps78
  go_wp2_with (at_make; refine wpList_make_arr _ rfl _ _ 22 rfl 58 (.int .u32 0) 4 Tryd.underlying22 Tryd.info58 rfl _ _ _ _ n rfl rfl (by omega) (by omega) (by omega) (by omega) ?_)
  intro w1 hc1 hf1 hb1 hs1
  have C1 := Cs.made hc1
  have F1 : Fr w1 w.heap.size 0 n := fun i _ => hf1 _
  have hs0 := Nat.le_of_eq hs1.symm
  clear hc1 hf1 hs1
  go_wp2
  go_loopw [7, 8] (fun rv iv wr => ∃ (k r : Nat) (h : Nat → Nat), k ≤ n ∧ r < b ∧ iv = .int .i64 ((k : Int) - 1) ∧ rv = .int .u64 r ∧ Cs wr w.heap.size 0 n h ∧ Fr wr w.heap.size 0 n ∧ Lm h n ∧ Hid (val f n + val h k * b = val f k + val h n * b + r * pw k) ∧ Below w.heap.size w wr ∧ w.heap.size + 1 ≤ wr.heap.size) (fun _ iv _ => (intOf iv + 1).toNat)
  case atStart => exact ⟨n, 0, _, Nat.le_refl _, by omega, rfl, rfl, C1, F1, fun _ _ => Nat.zero_le _, by show _ = _; omega, hb1, hs0⟩
  case round =>
    clear C1 F1 hb1 hs0
    obtain ⟨k, r, hh, hk, hr, rfl, rfl, hC, hF, hL, hV, hB, hS⟩ := hrel
    cases k with
    | succ k =>
      obtain ⟨bl, ol, rfl, hcl⟩ := (hu.below hB (Nat.le_refl _)).cell k (by omega)
      have lk := lf k (by omega)
      have hfr := hF k (by omega)
      have hco := hC k (by omega)
      rw [Nat.zero_add] at hfr hco
      have ek : ((k + 1 : Nat) : Int) - 1 = k := by omega
      rw [ek]
      clear ek
      have hkn : k < n := by omega
      have hj := join64 (r := r) (x := f k) (by omega) lk
      go_wp2
      go_roundw
      case rel =>
        go_light
        have q1 : (r * 4294967296 + f k) / b ≤ 4294967295 := by
          have : (r * 4294967296 + f k) / b < 4294967296 := Nat.div_lt_of_lt_mul (by
            have : (r + 1) * 4294967296 ≤ b * 4294967296 := Nat.mul_le_mul_right _ hr
            omega)
          omega
        have k1 := hC.put (j := k) (by omega) (x := (r * 4294967296 + f k) / b) (v := ((r : Int) * 4294967296 + f k) / b % 4294967296) (by
          have : ((r : Int) * 4294967296 + f k) / b = (((r * 4294967296 + f k) / b : Nat) : Int) := by simp
          rw [this]; exact modcast q1)
        refine ⟨k, (r * 4294967296 + f k) % b, _, by omega, Nat.mod_lt _ (by omega), rfl, by congr 1, k1, hF.set _ _, hL.upd q1, ?_, hB.setCell (by simp) _, by simpa using hS⟩
        show _ + val _ k * b = _
        have hV' := hV.out
        rw [val_succ, val_succ] at hV'
        rw [val_upd_ge _ _ _ _ (Nat.le_refl _)]
        exact short_step hV' (val_upd hh k _ n (by omega)) rfl (Nat.div_add_mod _ _).symm
      case measure => simp [intOf]
    | zero =>
      have HU : Us wr (some ⟨w.heap.size, 0, none⟩) n n hh := hC.us (Nat.le_refl _) (by unfold maxLen; omega) hL
      go_wp2_with (go_at_call 47; refine (rtrim_any _ _ _ _ _ (by omega) HU).mono ?_; rintro e w' ⟨ar, nr, cr, fr, rfl, h1, h2, h3, h4, h5, h6⟩)
      have hV' := hV.out
      simp only [val, pw] at hV'
      have hq : val f n = val hh n * b + r := by omega
      have hq2 : val f n / b = val hh n := by rw [hq, Nat.mul_comm, Nat.mul_add_div (by omega), Nat.div_eq_of_lt hr]; rfl
      have hq3 : val f n % b = r := by rw [hq, Nat.mul_comm, Nat.mul_add_mod]; exact Nat.mod_eq_of_lt hr
      clear hV' hq
      go_ret2
      refine ⟨_, _, _, _, by rw [hq3]; rfl, h1, h2.mono (by omega), hB.trans (h3.mono (by omega)), h4, hid (h5.out.trans hq2.symm), h6⟩
end Go.Proofs.YticfggljaagcmaaDoor
