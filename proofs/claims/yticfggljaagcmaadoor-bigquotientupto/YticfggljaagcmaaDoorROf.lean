/-
  The reference's Of, walked.
-/
import Derived.Test.YticfggljaagcmaaDoorRInts1
namespace Go.Proofs.YticfggljaagcmaaDoor
set_option linter.all false
open Go.RowKit

theorem mask32 {x : Nat} (hx : x ≤ 18446744073709551615) : bits .and .u64 (x : Int) 4294967295 % 4294967296 = (x : Int) % 4294967296 := by
  have h := u64_and_nat x 4294967295 (by omega) (by omega)
  rw [show x &&& 4294967295 = x % 4294967296 from Nat.and_two_pow_sub_one_eq_mod x 32] at h
  rw [show (4294967295 : Int) = ((4294967295 : Nat) : Int) from rfl, h]
  omega

set_option maxHeartbeats 1000000 in
theorem rof_any (z : Int) (w : World) (h1 : -9223372036854775808 ≤ z) (h2 : z ≤ 9223372036854775807) :
    Calls Tryd.prog 31 #[.int .i64 z] w fun e w' => ResI w w' z 2 e := by
  by_cases hz : z < 0
  · obtain ⟨x, hx⟩ : ∃ x : Nat, (x : Int) = -z := ⟨(-z).toNat, by omega⟩
    have hx2 : x ≤ 18446744073709551615 := by omega
    have HX := hid hx
    have HX2 := hid (show -(z + 1) + 1 = (x : Int) by omega)
    clear hx
    have hu2 : Us ((w.alloc (Obj.cells #[Value.bool false, Value.slice none 0 0] 24)).alloc (Obj.cells #[Value.int IntKind.u32 ((x : Int) % 4294967296), Value.int IntKind.u32 ((x : Int) / 4294967296)] 58)) (some ⟨w.heap.size + 1, 0, none⟩) 2 2 (lo2 x) := by
      have := lo2_us x (w.alloc (Obj.cells #[Value.bool false, Value.slice none 0 0] 24)) hx2
      rwa [show (w.alloc (Obj.cells #[Value.bool false, Value.slice none 0 0] 24)).heap.size = w.heap.size + 1 by simp] at this
    go_enter Tryd.func31, Tryd.ntmps31
    go_wp2_with (go_at_call 18; rw [HX2.out, mask32 hx2]; refine (rnorm_any _ _ _ _ _ _ (by omega) hu2).mono ?_; rintro e w2 ⟨sgx, ax, nx, cx, fx, rfl, kx1, kx2, kx3, kx4, kx5, kx6, kx7⟩; obtain ⟨hcx, hfx⟩ := bcell kx3; have hzx0 : w.heap.size < w2.heap.size := Nat.lt_of_lt_of_le (by first | (simp; done) | (simp; omega) | omega) kx3.size; have Kx6 := hid kx6; have Kx5 := hid kx5; clear kx6 kx5)
    exact bodyPost_ret (by simp [results, Tryd.results31, go_sem, hcx, hzx0, show w.heap.size < w.heap.size + 1 + 1 by omega]) rfl (ResI.out kx1 kx2 kx3 kx4 Kx5.out Kx6.out kx7 (below_alloc2 w _ _) (by simp) (by simp; omega) (by rw [lo2_val]; exact of_neg hz x HX.out) (Nat.le_refl _) _ _)
  · obtain ⟨x, hx⟩ : ∃ x : Nat, (x : Int) = z := ⟨z.toNat, by omega⟩
    subst hx
    have hx2 : x ≤ 18446744073709551615 := by omega
    have hu2 : Us ((w.alloc (Obj.cells #[Value.bool false, Value.slice none 0 0] 24)).alloc (Obj.cells #[Value.int IntKind.u32 ((x : Int) % 4294967296), Value.int IntKind.u32 ((x : Int) / 4294967296)] 58)) (some ⟨w.heap.size + 1, 0, none⟩) 2 2 (lo2 x) := by
      have := lo2_us x (w.alloc (Obj.cells #[Value.bool false, Value.slice none 0 0] 24)) hx2
      rwa [show (w.alloc (Obj.cells #[Value.bool false, Value.slice none 0 0] 24)).heap.size = w.heap.size + 1 by simp] at this
    go_enter Tryd.func31, Tryd.ntmps31
    go_wp2_with (go_at_call 18; rw [mask32 hx2]; refine (rnorm_any _ _ _ _ _ _ (by omega) hu2).mono ?_; rintro e w2 ⟨sgx, ax, nx, cx, fx, rfl, kx1, kx2, kx3, kx4, kx5, kx6, kx7⟩; obtain ⟨hcx, hfx⟩ := bcell kx3; have hzx0 : w.heap.size < w2.heap.size := Nat.lt_of_lt_of_le (by first | (simp; done) | (simp; omega) | omega) kx3.size; have Kx6 := hid kx6; have Kx5 := hid kx5; clear kx6 kx5)
    exact bodyPost_ret (by simp [results, Tryd.results31, go_sem, hcx, hzx0, show w.heap.size < w.heap.size + 1 + 1 by omega]) rfl (ResI.out kx1 kx2 kx3 kx4 Kx5.out Kx6.out kx7 (below_alloc2 w _ _) (by simp) (by simp; omega) (by rw [lo2_val]; rfl) (Nat.le_refl _) _ _)
end Go.Proofs.YticfggljaagcmaaDoor
