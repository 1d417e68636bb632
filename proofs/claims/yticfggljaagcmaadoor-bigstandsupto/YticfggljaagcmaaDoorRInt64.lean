/-
  The reference's Int64, walked.
-/
import Derived.Test.YticfggljaagcmaaDoorInt64
import Derived.Test.YticfggljaagcmaaDoorRInts1
namespace Go.Proofs.YticfggljaagcmaaDoor
set_option linter.all false
open Go.RowKit

set_option maxHeartbeats 1000000 in
theorem rint64_any (neg : Bool) (a : Option Addr) (n c : Nat) (f : Nat → Nat) (w : World) (hn : n ≤ 4398046511104) (hu : Us w a n c f) :
    Calls Tryd.prog 42 #[.agg #[.bool neg, .slice a n c]] w fun e w' => e = .returned (.tuple #[.int .i64 (i64v (ival neg (val f n))), .bool (i64f (ival neg (val f n)))]) ∧ Below w.heap.size w w' := by
  go_enter Tryd.func42, Tryd.ntmps42
  go_wp2_with fail
  refine (rnorm_any _ _ _ _ _ _ (by omega) (hu.alloc _)).mono ?_
  rintro e w1 ⟨sgx, ax, nx, cx, fx, rfl, kx1, kx2, kx3, kx4, kx5, kx6, kx7⟩
  obtain ⟨r0, r1, r2, r3, r4⟩ := new2 kx3
  have hb : Below w.heap.size w w1 := (below_alloc w _).trans (kx3.mono (by simp))
  have K6 := hid kx6
  have K5 := hid kx5
  clear kx6 kx5
  have hbs := hb.size
  have lx := kx1.lm.mono kx1.le
  have xle := kx1.le
  have ux : Us (w1.alloc (.cells #[.bool sgx, .slice ax nx cx] 24)) ax nx cx fx := kx1.alloc _
  have hb2 := hb.alloc hbs (.cells #[.bool sgx, .slice ax nx cx] 24)
  by_cases h2 : 2 < nx
  · have HO := hid (show i64f (ival neg (val f n)) = false ∧ i64v (ival neg (val f n)) = 0 from i64_out (by
      have := nm_big kx4 h2
      rw [← K6.out]; unfold ival; cases sgx <;> simp <;> omega))
    go_wp2
    go_ret2
    exact ⟨by rw [HO.out.1, HO.out.2]; rfl, hb2⟩
  · have hnx : nx ≤ 2 := by omega
    clear h2
    go_wp2
    go_loopw [5, 6] (fun uv jv wr => wr = (w1.alloc (.cells #[.bool sgx, .slice ax nx cx] 24)) ∧ ∃ j u : Nat, j ≤ nx ∧ jv = .int .i64 ((j : Int) - 1) ∧ uv = .int .u64 (u : Nat) ∧ u ≤ 18446744073709551615 ∧ (0 < j → u ≤ 4294967295) ∧ Hid (u * pw j + val fx j = val fx nx) ∧ Hid (j = nx → u = 0)) (fun _ jv _ => (intOf jv + 1).toNat)
    case atStart => exact ⟨rfl, nx, 0, Nat.le_refl _, rfl, rfl, by omega, by omega, hid (by omega), hid (fun _ => rfl)⟩
    case round =>
      obtain ⟨hwx, j, u, hj, rfl, rfl, hu1, hu2, HU, HU0⟩ := hrel
      obtain rfl := hwx.symm
      cases j with
      | succ j =>
        obtain ⟨b, off, rfl, hcell⟩ := ux.cell j (by omega)
        have lj := lx j (by omega)
        have hu3 := hu2 (by omega)
        have ek : ((j + 1 : Nat) : Int) - 1 = j := by omega
        rw [ek]
        clear ek
        have hor := join64 (r := u) (x := fx j) hu3 lj
        clear hu2
        go_wp2
        refine ⟨⟨trivial, j, u * 4294967296 + fx j, by omega, rfl, by simp, by omega, fun h0 => ?_, hid ?_, hid (fun h => by omega)⟩, by simp [intOf]⟩
        · have : j = 1 := by omega
          subst this
          have := HU0.out (by omega)
          omega
        · have := HU.out
          rw [val_succ, pw_succ] at this
          rw [Nat.add_mul, Nat.mul_assoc]
          omega
      | zero =>
        have hu' : u = val fx nx := by have := HU.out; simpa [val, pw] using this
        have HV := hid (show ival sgx u = ival neg (val f n) by rw [hu']; exact K6.out)
        obtain ⟨z, HZ⟩ : ∃ z, Hid (ival neg (val f n) = z) := ⟨_, hid rfl⟩
        rw [HZ.out] at HV
        have hS : sgx = true → 0 < u := by
          intro h
          rw [hu']
          rcases Nat.eq_zero_or_pos (val fx nx) with q | q
          · have := K5.out (kx4.zero.1 q)
            rw [h] at this
            cases this
          · exact q
        clear K6 HU HU0 hu2 hu' K5
        cases sgx
        · clear hS
          by_cases h3 : u ≤ 9223372036854775807
          · have HO := hid (show i64f z = true ∧ i64v z = z from i64_in (by rw [← HV.out]; unfold ival; simp; omega))
            have h4 : ¬ (9223372036854775808 ≤ (u : Int)) := by omega
            have H3 := hid h3
            clear h3
            go_wp2
            go_ret2
            exact ⟨by rw [HZ.out, HO.out.1, HO.out.2, ← HV.out]; rfl, hb2⟩
          · have HO := hid (show i64f z = false ∧ i64v z = 0 from i64_out (by rw [← HV.out]; unfold ival; simp; omega))
            have h4 : 9223372036854775808 ≤ (u : Int) := by omega
            clear h3
            go_wp2
            go_ret2
            exact ⟨by rw [HZ.out, HO.out.1, HO.out.2]; rfl, hb2⟩
        · have hS := hS rfl
          by_cases h3 : u ≤ 9223372036854775808
          · have HO := hid (show i64f z = true ∧ i64v z = z from i64_in (by rw [← HV.out]; unfold ival; simp; omega))
            have hw : Hid (-((u : Int) - 1) - 1 = -u) := hid (by omega)
            go_wp2
            go_ret2
            exact ⟨by rw [HZ.out, HO.out.1, HO.out.2, ← HV.out]; show Ending.returned (.tuple #[.int .i64 (-((u : Int) - 1) - 1), .bool true]) = _; rw [hw.out]; rfl, hb2⟩
          · have HO := hid (show i64f z = false ∧ i64v z = 0 from i64_out (by rw [← HV.out]; unfold ival; simp; omega))
            go_wp2
            go_ret2
            exact ⟨by rw [HZ.out, HO.out.1, HO.out.2]; rfl, hb2⟩
end Go.Proofs.YticfggljaagcmaaDoor
