/-
  big.natMul, walked: the product of two magnitudes.
-/
import Derived.Test.YticfggljaagcmaaDoorTake
namespace Go.Proofs.YticfggljaagcmaaDoor
set_option linter.all false
open Go.RowKit

theorem mul_le {x y : Nat} (hx : x ≤ 4294967295) (hy : y ≤ 4294967295) : x * y ≤ 18446744065119617025 := by
  have := Nat.mul_le_mul hx hy; omega
theorem val_zero (n : Nat) : val (fun _ => 0) n = 0 := by
  induction n with
  | zero => rfl
  | succ n ih => rw [val_succ, ih]; simp
theorem mul_step {v c s p q r x c' i k F : Nat} (h : v + c * pw (i + k) = s + F * p * pw i) (e : x + 4294967296 * c' = c + (F * q + r)) :
    v + x * pw (i + k) + c' * pw (i + k + 1) = s + r * pw (i + k) + F * (p + q * pw k) * pw i := by
  have e2 : (x + 4294967296 * c') * pw (i + k) = (c + (F * q + r)) * pw (i + k) := by rw [e]
  rw [Nat.add_mul, Nat.add_mul, Nat.add_mul] at e2
  have e3 : c' * pw (i + k + 1) = 4294967296 * c' * pw (i + k) := by rw [pw_succ, Nat.mul_left_comm, Nat.mul_assoc]
  have e4 : F * (p + q * pw k) * pw i = F * p * pw i + F * q * pw (i + k) := by
    rw [Nat.mul_add, Nat.add_mul, pw_add]
    congr 1
    rw [← Nat.mul_assoc F, Nat.mul_assoc (F * q), Nat.mul_comm (pw k)]
  omega
theorem mul_row {v c s F i m G : Nat} (h : v + c * pw (i + m) = s * G + F * G * pw i) : v + c * pw (i + m) = (s + F * pw i) * G := by
  rw [h, Nat.add_mul, Nat.mul_right_comm]

set_option maxHeartbeats 1000000 in
theorem natMul_any (a a' : Option Addr) (n c n' c' : Nat) (f g : Nat → Nat) (w : World) (hn : n ≤ 1099511627776) (hn' : n' ≤ 1099511627776) (hu : Us w a n c f) (hu' : Us w a' n' c' g) :
    Calls Tryd.prog 58 #[.slice a n c, .slice a' n' c'] w fun e w' => ∃ r m d h, e = .returned (.slice r m d) ∧ Us w' r m d h ∧ New w' w.heap.size r d ∧ Below w.heap.size w w' ∧ Nm h m ∧ val h m = val f n * val g n' ∧ m ≤ n + n' := by
  have b1 := nrm_le f n
  have b2 := nrm_le g n'
  have v1 := hid (val_nrm f n)
  have v2 := hid (val_nrm g n')
  have lf := hu.lm
  have lg := hu'.lm
  have l1 := hu.le
  have l2 := hu'.le
  have U1 := hu.cut (Nat.le_refl (nrm f n)) (by omega)
  have U2 := hu'.cut (Nat.le_refl (nrm g n')) (by omega)
  go_enter Tryd.func58, Tryd.ntmps58
  go_wp2_with (first | (go_at_call 64; refine (bare_any _ _ _ _ _ (by omega) (by assumption)).mono ?_; rintro e w' ⟨rfl, rfl⟩) | (at_make; refine wpList_make_arr _ rfl _ _ 22 rfl 58 (.int .u32 0) 4 Tryd.underlying22 Tryd.info58 rfl _ _ _ _ (nrm f n + nrm g n') rfl rfl (by omega) (by omega) (by omega) (by omega) ?_))
  intro w1 hc1 hf1 hb1 hs1
  have C1 := Cs.made hc1
  have F1 : Fr w1 w.heap.size 0 (nrm f n + nrm g n') := fun i _ => hf1 _
  have hs0 := Nat.le_of_eq hs1.symm
  clear hc1 hf1 hu hu' hs1
  go_wp2
  go_loopw [23] (fun iv wr => ∃ (k : Nat) (h : Nat → Nat), k ≤ nrm f n ∧ iv = .int .i64 k ∧ Cs wr w.heap.size 0 (nrm f n + nrm g n') h ∧ Fr wr w.heap.size 0 (nrm f n + nrm g n') ∧ Lm h (nrm f n + nrm g n') ∧ Hid (val h (k + nrm g n') = val f k * val g (nrm g n')) ∧ Below w.heap.size w wr ∧ w.heap.size + 1 ≤ wr.heap.size) (fun iv _ => nrm f n - (intOf iv).toNat)
  case atStart => exact ⟨0, _, Nat.zero_le _, rfl, C1, F1, fun _ _ => Nat.zero_le _, by show val _ _ = val _ _ * _; rw [val_zero]; simp [val], hb1, hs0⟩
  case round =>
    clear C1 F1 hb1 hs0
    obtain ⟨k, hh, hk, rfl, hC, hF, hL, hV, hB, hS⟩ := hrel
    by_cases hlt : k < nrm f n
    · obtain ⟨bl, ol, rfl, hcl⟩ := (U1.below hB (Nat.le_refl _)).cell k hlt
      have lk := lf k (by omega)
      go_wp2
      obtain ⟨wo, rfl⟩ : ∃ wo : World, wo = wr := ⟨_, rfl⟩
      go_loopw [8, 30] (fun cv iv wr => ∃ (j cc : Nat) (h : Nat → Nat), j ≤ nrm g n' ∧ cc ≤ 4294967295 ∧ iv = .int .i64 j ∧ cv = .int .u64 cc ∧ Cs wr w.heap.size 0 (nrm f n + nrm g n') h ∧ Fr wr w.heap.size 0 (nrm f n + nrm g n') ∧ Lm h (nrm f n + nrm g n') ∧ (∀ i, k + j ≤ i → h i = hh i) ∧ Hid (val h (k + j) + cc * pw (k + j) = val hh (k + j) + f k * val g j * pw k) ∧ Below w.heap.size w wr ∧ w.heap.size + 1 ≤ wr.heap.size) (fun _ iv _ => nrm g n' - (intOf iv).toNat)
      case atStart => exact ⟨0, 0, hh, Nat.zero_le _, Nat.zero_le _, rfl, rfl, hC, hF, hL, fun _ _ => rfl, by show _ = _; simp [val], hB, hS⟩
      case round =>
        clear hC hF hL hB hS
        obtain ⟨j, cc, h2, hj, hcc, rfl, rfl, hC, hF, hL, hE, hW, hB, hS⟩ := hrel
        have HE := hid hE
        by_cases hjl : j < nrm g n'
        · obtain ⟨bs, os, rfl, hcs⟩ := (U2.below hB (Nat.le_refl _)).cell j hjl
          have lk2 := lg j (by omega)
          have hfr := hF (k + j) (by omega)
          have hco := hC (k + j) (by omega)
          rw [Nat.zero_add] at hfr hco
          rw [hE _ (Nat.le_refl _)] at hco
          have lo := hL (k + j) (by omega)
          rw [hE _ (Nat.le_refl _)] at lo
          have hm := mul_le lk lk2
          have hm' : (f k : Int) * (g j : Int) ≤ 18446744065119617025 := by
            have : ((f k * g j : Nat) : Int) ≤ 18446744065119617025 := by omega
            rwa [Int.natCast_mul] at this
          have hm0 : 0 ≤ (f k : Int) * (g j : Int) := Int.mul_nonneg (by omega) (by omega)
          clear hE
          go_wp2
          go_roundw
          case rel =>
            go_light
            refine ⟨j + 1, (cc + (f k * g j + hh (k + j))) / 4294967296, upd h2 (k + j) ((cc + (f k * g j + hh (k + j))) % 4294967296), by omega, by omega, by go_num, ?_, hC.put (by omega) ?_, hF.set _ _, hL.upd (by omega), fun i hi => by rw [upd_other _ _ _ _ (by omega)]; exact HE.out i (by omega), ?_, hB.setCell (by simp) _, by simpa using hS⟩
            · congr 1
            · simp
            · have := mul_step hW.out (show (cc + (f k * g j + hh (k + j))) % 4294967296 + 4294967296 * ((cc + (f k * g j + hh (k + j))) / 4294967296) = cc + (f k * g j + hh (k + j)) by omega)
              show val _ (k + j + 1) + _ * pw (k + j + 1) = val _ (k + j + 1) + _
              rw [val_upd_at, this, val_succ, val_succ]
          case measure => simp [intOf]; omega
        · have hjN : j = nrm g n' := by omega
          subst hjN
          have hfr := hF (k + nrm g n') (by omega)
          have hco := hC (k + nrm g n') (by omega)
          rw [Nat.zero_add] at hfr hco
          clear hE
          go_wp2
          go_roundw
          case rel =>
            go_light
            refine ⟨k + 1, upd h2 (k + nrm g n') cc, by omega, by go_num, hC.put (by omega) rfl, hF.set _ _, hL.upd hcc, ?_, hB.setCell (by simp) _, by simpa using hS⟩
            show val _ _ = _
            have h1 := hW.out
            rw [hV.out] at h1
            have h2 := mul_row h1
            rw [show k + 1 + nrm g n' = k + nrm g n' + 1 by omega, val_upd_at, h2, val_succ]
          case measure => simp [intOf]; omega
    · have hkN : k = nrm f n := by omega
      subst hkN
      have HU : Us wr (some ⟨w.heap.size, 0, none⟩) (nrm f n + nrm g n') (nrm f n + nrm g n') hh := hC.us (Nat.le_refl _) (by unfold maxLen; omega) hL
      go_wp2_with (go_at_call 66; refine (own_any _ _ _ _ _ (by omega) HU).mono ?_; rintro e w' ⟨ar, nr, cr, fr, rfl, h1, h2, h3, h4, h5, h6⟩)
      have H5 := hid h5
      clear h5
      go_ret
      refine ⟨_, _, _, _, rfl, h1, h2.mono (by omega), hB.trans (h3.mono (by omega)), h4, ?_, by omega⟩
      rw [H5.out, hV.out, v1.out, v2.out]
end Go.Proofs.YticfggljaagcmaaDoor
