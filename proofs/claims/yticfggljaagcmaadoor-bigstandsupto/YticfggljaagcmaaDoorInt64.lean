/-
  big.Int64, walked.
-/
import Derived.Test.YticfggljaagcmaaDoorInts5
namespace Go.Proofs.YticfggljaagcmaaDoor
set_option linter.all false
open Go.RowKit

/-- Has it room in 64 bits? -/
def i64f (z : Int) : Bool := decide (-9223372036854775808 ≤ z ∧ z ≤ 9223372036854775807)
/-- Its value there. -/
def i64v (z : Int) : Int := if i64f z then z else 0
theorem i64_out {z : Int} (h : ¬ (-9223372036854775808 ≤ z ∧ z ≤ 9223372036854775807)) : i64f z = false ∧ i64v z = 0 := by
  have e : i64f z = false := decide_eq_false h
  exact ⟨e, by unfold i64v; rw [e]; rfl⟩
theorem i64_in {z : Int} (h : -9223372036854775808 ≤ z ∧ z ≤ 9223372036854775807) : i64f z = true ∧ i64v z = z := by
  have e : i64f z = true := decide_eq_true h
  exact ⟨e, by unfold i64v; rw [e]; rfl⟩
theorem pw2 : pw 2 = 18446744073709551616 := by decide
theorem nm_big {f : Nat → Nat} {n : Nat} (h : Nm f n) (hn : 2 < n) : 18446744073709551616 ≤ val f n := by
  obtain ⟨k, rfl⟩ : ∃ k, n = k + 1 := ⟨n - 1, by omega⟩
  have h1 := h.ge
  have h2 := pw_mono (show 2 ≤ k by omega)
  rw [pw2] at h2
  omega

set_option maxHeartbeats 1000000 in
theorem int64_any (neg : Bool) (a : Option Addr) (n c : Nat) (f : Nat → Nat) (w : World) (hn : n ≤ 4398046511104) (hu : Us w a n c f) :
    Calls Tryd.prog 40 #[.agg #[.bool neg, .slice a n c]] w fun e w' => e = .returned (.tuple #[.int .i64 (i64v (ival neg (val f n))), .bool (i64f (ival neg (val f n)))]) ∧ Below w.heap.size w w' := by
  go_enter Tryd.func40, Tryd.ntmps40
  go_wp2_with fail
  refine (norm_any _ _ _ _ _ _ (by omega) (hu.alloc _)).mono ?_
  rintro e w1 ⟨sgx, ax, nx, cx, fx, rfl, kx1, kx2, kx3, kx4, kx5, kx6, kx7⟩
  obtain ⟨r0, r1, r2, r3, r4⟩ := new2 kx3
  have hb : Below w.heap.size w w1 := (below_alloc w _).trans (kx3.mono (by simp))
  have K6 := hid kx6
  clear kx6 kx5
  have hbs := hb.size
  have lx := kx1.lm.mono kx1.le
  have xle := kx1.le
  have ux : Us ((w1.setCell ⟨w.heap.size, 0, none⟩ (.bool sgx)).setCell ⟨w.heap.size, 1, none⟩ (.slice ax nx cx)) ax nx cx fx := (kx1.apart kx2 (by simp) _).apart (kx2.set _ _) (by simp) _
  have hb2 := (hb.setCell (p := ⟨w.heap.size, 0, none⟩) (Nat.le_refl _) (.bool sgx)).setCell (p := ⟨w.heap.size, 1, none⟩) (Nat.le_refl _) (.slice ax nx cx)
  by_cases h2 : 2 < nx
  · have HO := hid (show i64f (ival neg (val f n)) = false ∧ i64v (ival neg (val f n)) = 0 from i64_out (by
      have := nm_big kx4 h2
      rw [← K6.out]; unfold ival; cases sgx <;> simp <;> omega))
    go_wp2
    go_ret2
    exact ⟨by rw [HO.out.1, HO.out.2]; rfl, hb2⟩
  · have hnx : nx ≤ 2 := by omega
    clear h2
    go_wp2
    go_loopw [4, 5, 6, 17] (fun uv iv xv jv wr => wr = ((w1.setCell ⟨w.heap.size, 0, none⟩ (.bool sgx)).setCell ⟨w.heap.size, 1, none⟩ (.slice ax nx cx)) ∧ ∃ j : Nat, j ≤ nx ∧ jv = .int .i64 j ∧ uv = .int .u64 (val fx j : Nat)) (fun _ _ _ jv _ => nx - (intOf jv).toNat)
    case atStart => exact ⟨rfl, 0, Nat.zero_le _, rfl, rfl⟩
    case round =>
      obtain ⟨hwx, j, hj, rfl, rfl⟩ := hrel
      obtain rfl := hwx.symm
      by_cases hjl : j < nx
      · obtain ⟨b, off, rfl, hcell⟩ := ux.cell j (by omega)
        have lj := lx j hjl
        obtain rfl | rfl : j = 0 ∨ j = 1 := by omega
        · have hv1 := hid (show val fx 1 = fx 0 by simp [val, pw])
          have hv0 : val fx 0 = 0 := rfl
          rw [Nat.add_zero] at hcell
          rw [hv0]
          have hor : bits .or .u64 0 ((fx 0 : Nat) : Int) = ((fx 0 : Nat) : Int) := by
            have := join64 (r := 0) (x := fx 0) (by omega) lj
            simpa using this
          go_wp2
          exact ⟨⟨trivial, 1, by omega, rfl, by rw [hv1.out]⟩, by simp [intOf]; omega⟩
        · have hv2 := hid (show val fx 2 = fx 0 + fx 1 * 4294967296 by simp [val, pw])
          have hv1 : val fx 1 = fx 0 := by simp [val, pw]
          rw [hv1]
          have lj0 := lx 0 (by omega)
          have hor : bits .or .u64 ((fx 0 : Nat) : Int) ((fx 1 : Nat) * 4294967296 : Int) = ((fx 0 + fx 1 * 4294967296 : Nat) : Int) := by
            have h := u64_or_nat (fx 0) (fx 1 * 4294967296) (by omega) (by omega)
            rw [show fx 0 ||| fx 1 * 4294967296 = fx 1 * 4294967296 ||| fx 0 from Nat.or_comm _ _, nat_join 32 _ _ (by omega) (by omega)] at h
            rw [Nat.add_comm]
            simpa using h
          go_wp2
          exact ⟨⟨trivial, 2, by omega, rfl, by rw [hv2.out]; simp⟩, by simp [intOf]; omega⟩
      · obtain rfl : j = nx := by omega
        have hlt : val fx j ≤ 18446744073709551615 := by
          have := val_lt lx
          have := pw_mono hnx
          rw [pw2] at this
          omega
        have HV := hid (show ival sgx (val fx j) = ival neg (val f n) from K6.out)
        obtain ⟨z, HZ⟩ : ∃ z, Hid (ival neg (val f n) = z) := ⟨_, hid rfl⟩
        rw [HZ.out] at HV
        clear K6
        generalize val fx j = u at hlt HV ⊢
        cases sgx
        · by_cases h3 : u ≤ 9223372036854775807
          · have HO := hid (show i64f z = true ∧ i64v z = z from i64_in (by rw [← HV.out]; unfold ival; simp; omega))
            go_wp2
            go_ret2
            exact ⟨by rw [HZ.out, HO.out.1, HO.out.2, ← HV.out]; rfl, hb2⟩
          · have HO := hid (show i64f z = false ∧ i64v z = 0 from i64_out (by rw [← HV.out]; unfold ival; simp; omega))
            have hw2 : ¬ (0 ≤ wrap64 (u : Int)) := by unfold wrap64; omega
            go_wp2
            go_ret2
            exact ⟨by rw [HZ.out, HO.out.1, HO.out.2]; rfl, hb2⟩
        · by_cases h3 : u ≤ 9223372036854775808
          · have HO := hid (show i64f z = true ∧ i64v z = z from i64_in (by rw [← HV.out]; unfold ival; simp; omega))
            have hw : Hid (wrap64 (- wrap64 (u : Int)) = -u) := hid (by unfold wrap64; omega)
            go_wp2
            go_ret2
            exact ⟨by rw [HZ.out, HO.out.1, HO.out.2, ← HV.out, hw.out]; rfl, hb2⟩
          · have HO := hid (show i64f z = false ∧ i64v z = 0 from i64_out (by rw [← HV.out]; unfold ival; simp; omega))
            go_wp2
            go_ret2
            exact ⟨by rw [HZ.out, HO.out.1, HO.out.2]; rfl, hb2⟩
end Go.Proofs.YticfggljaagcmaaDoor
