/-
  big.short, walked: a magnitude divided by one limb.
-/
import Derived.Test.YticfggljaagcmaaDoorLeft
namespace Go.Proofs.YticfggljaagcmaaDoor
set_option linter.all false
open Go.RowKit

theorem join64 {r x : Nat} (hr : r ≤ 4294967295) (hx : x ≤ 4294967295) : bits .or .u64 ((r : Int) * 4294967296) (x : Int) = (r : Int) * 4294967296 + (x : Int) := by
  have h := u64_or_nat (r * 4294967296) x (by omega) (by omega)
  rw [nat_join 32 _ _ (by omega) (by omega)] at h
  simpa using h
theorem modcast {z : Nat} (h : z ≤ 4294967295) : (z : Int) % 4294967296 = z := by omega
theorem short_step {b k x t r d e : Nat} {vf vfk vh vhk vh' H : Nat} (h : vf + (vhk + H * pw k) * b = (vfk + x * pw k) + vh * b + r * pw (k + 1)) (hu : vh' + H * pw k = vh + d * pw k) (hd : t = r * 4294967296 + x) (ht : t = b * d + e) :
    vf + vhk * b = vfk + vh' * b + e * pw k := by
  have h1 : (vh' + H * pw k) * b = (vh + d * pw k) * b := by rw [hu]
  have h2 : t * pw k = (b * d + e) * pw k := by rw [ht]
  rw [hd, Nat.add_mul, Nat.add_mul] at h2
  rw [Nat.add_mul] at h
  rw [Nat.add_mul, Nat.add_mul] at h1
  have h3 : r * pw (k + 1) = r * 4294967296 * pw k := by rw [pw_succ, Nat.mul_assoc]
  have h4 : d * pw k * b = b * d * pw k := by rw [Nat.mul_comm, Nat.mul_assoc]
  omega

set_option maxHeartbeats 1000000 in
theorem short_any (a : Option Addr) (n c b : Nat) (f : Nat → Nat) (w : World) (hn : n ≤ 1099511627776) (hb : 1 ≤ b) (hb2 : b ≤ 4294967295) (hu : Us w a n c f) :
    Calls Tryd.prog 65 #[.slice a n c, .int .u32 b] w fun e w' => ∃ r m d h t, e = .returned (.tuple #[.slice r m d, .int .u32 (t : Nat)]) ∧ Us w' r m d h ∧ New w' w.heap.size r d ∧ Below w.heap.size w w' ∧ Nm h m ∧ val f n = val h m * b + t ∧ t < b ∧ m ≤ n := by
  have lf := hu.lm
  have l1 := hu.le
  go_enter Tryd.func65, Tryd.ntmps65
  go_wp2_with (at_make; refine wpList_make_arr _ rfl _ _ 22 rfl 58 (.int .u32 0) 4 Tryd.underlying22 Tryd.info58 rfl _ _ _ _ n rfl rfl (by omega) (by omega) (by omega) (by omega) ?_)
  intro w1 hc1 hf1 hb1 hs1
  have C1 := Cs.made hc1
  have F1 : Fr w1 w.heap.size 0 n := fun i _ => hf1 _
  have hs0 := Nat.le_of_eq hs1.symm
  clear hc1 hf1 hs1
  go_wp2
  go_loopw [7, 8] (fun rv iv wr => ∃ (k r : Nat) (h : Nat → Nat), k ≤ n ∧ r < b ∧ iv = .int .i64 ((k : Int) - 1) ∧ rv = .int .u64 r ∧ Cs wr w.heap.size 0 n h ∧ Fr wr w.heap.size 0 n ∧ Lm h n ∧ Hid (val f n + val h k * b = val f k + val h n * b + r * pw k) ∧ Below w.heap.size w wr ∧ w.heap.size + 1 ≤ wr.heap.size) (fun _ iv _ => (intOf iv + 1).toNat)
  case atStart => exact ⟨n, 0, _, Nat.le_refl _, by omega, rfl, rfl, C1, F1, fun _ _ => Nat.zero_le _, by show _ = _; omega, hb1, hs0⟩
  case round =>
    clear C1 F1 hb1 hs0
    obtain ⟨k, r, hh, hk, hr, rfl, rfl, hC, hF, hL, hV, hB, hS⟩ := hrel
    cases k with
    | succ k =>
      obtain ⟨bl, ol, rfl, hcl⟩ := (hu.below hB (Nat.le_refl _)).cell k (by omega)
      have lk := lf k (by omega)
      have hfr := hF k (by omega)
      have hco := hC k (by omega)
      rw [Nat.zero_add] at hfr hco
      have ek : ((k + 1 : Nat) : Int) - 1 = k := by omega
      rw [ek]
      clear ek
      have hkn : k < n := by omega
      have hj := join64 (r := r) (x := f k) (by omega) lk
      go_wp2
      go_roundw
      case rel =>
        go_light
        have q1 : (r * 4294967296 + f k) / b ≤ 4294967295 := by
          have : (r * 4294967296 + f k) / b < 4294967296 := Nat.div_lt_of_lt_mul (by
            have : (r + 1) * 4294967296 ≤ b * 4294967296 := Nat.mul_le_mul_right _ hr
            omega)
          omega
        have k1 := hC.put (j := k) (by omega) (x := (r * 4294967296 + f k) / b) (v := ((r : Int) * 4294967296 + f k) / b % 4294967296) (by
          have : ((r : Int) * 4294967296 + f k) / b = (((r * 4294967296 + f k) / b : Nat) : Int) := by simp
          rw [this]; exact modcast q1)
        refine ⟨k, (r * 4294967296 + f k) % b, _, by omega, Nat.mod_lt _ (by omega), rfl, by congr 1, k1, hF.set _ _, hL.upd q1, ?_, hB.setCell (by simp) _, by simpa using hS⟩
        show _ + val _ k * b = _
        have hV' := hV.out
        rw [val_succ, val_succ] at hV'
        rw [val_upd_ge _ _ _ _ (Nat.le_refl _)]
        exact short_step hV' (val_upd hh k _ n (by omega)) rfl (Nat.div_add_mod _ _).symm
      case measure => simp [intOf]
    | zero =>
      have HU : Us wr (some ⟨w.heap.size, 0, none⟩) n n hh := hC.us (Nat.le_refl _) (by unfold maxLen; omega) hL
      go_wp2_with (go_at_call 66; refine (own_any _ _ _ _ _ (by omega) HU).mono ?_; rintro e w' ⟨ar, nr, cr, fr, rfl, h1, h2, h3, h4, h5, h6⟩)
      have H5 := hid h5
      clear h5
      go_ret2
      refine ⟨_, _, _, _, r, rfl, h1, h2.mono (by omega), hB.trans (h3.mono (by omega)), h4, ?_, hr, by omega⟩
      have := hV.out
      simp only [val, pw] at this
      rw [H5.out]
      omega
end Go.Proofs.YticfggljaagcmaaDoor
