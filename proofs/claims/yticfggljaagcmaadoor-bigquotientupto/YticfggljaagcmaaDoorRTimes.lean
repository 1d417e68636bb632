/-
  The reference's times, walked: a magnitude times a limb, and one more.
-/
import Derived.Test.YticfggljaagcmaaDoorRTrim
namespace Go.Proofs.YticfggljaagcmaaDoor
set_option linter.all false
open Go.RowKit

theorem one_us (w : World) {x : Nat} {v : Int} (hv : v = (x : Int)) (hx : x ≤ 4294967295) : Us (w.alloc (Obj.cells #[Value.int IntKind.u32 v] 58)) (some ⟨w.heap.size, 0, none⟩) 1 1 (fun _ => x) := by
  subst hv
  refine ⟨Nat.le_refl _, by decide, fun _ _ => hx, fun i hi => ⟨_, _, rfl, ?_⟩⟩
  obtain rfl : i = 0 := by omega
  simp [World.cell?_alloc_new]
theorem push_val {h f : Nat → Nat} {k x : Nat} (h1 : ∀ i, i < k → f i = h i) (h2 : ∀ i, i < 1 → f (k + i) = x) : val f (k + 1) = val h k + x * pw k := by
  rw [val_succ, val_congr h1, show f k = x from h2 0 (by omega)]

set_option maxHeartbeats 1000000 in
theorem times_any (a : Option Addr) (n c m t : Nat) (f : Nat → Nat) (w : World) (hn : n ≤ 2199023255552) (hm : m ≤ 4294967295) (ht : t ≤ 4294967295) (hu : Us w a n c f) :
    Calls Tryd.prog 70 #[.slice a n c, .int .u32 m, .int .u32 t] w fun e w' => ResM w w' (val f n * m + t) (n + 1) e := by
  have lf := hu.lm
  have l1 := hu.le
  go_enter Tryd.func70, Tryd.ntmps70
  go_wp2
  go_loopw [7, 8, 9] (fun ov cv iv wr => ∃ (k cc d : Nat) (r : Option Addr) (h : Nat → Nat), k ≤ n ∧ cc ≤ 4294967295 ∧ iv = .int .i64 k ∧ cv = .int .u64 cc ∧ ov = .slice r k d ∧ Us wr r k d h ∧ New wr w.heap.size r d ∧ Hid (val h k + cc * pw k = val f k * m + t) ∧ Below w.heap.size w wr) (fun _ _ iv _ => n - (intOf iv).toNat)
  case atStart => exact ⟨0, t, 0, none, f, Nat.zero_le _, ht, rfl, rfl, rfl, Us.nil _ _, New.nil _ _ _, by show _ = _; simp [val, pw], Below.refl _ _⟩
  case round =>
    obtain ⟨k, cc, d, r, h, hk, hcc, rfl, rfl, rfl, hU, hN, hV, hB⟩ := hrel
    have hs := hB.size
    by_cases h0 : k < n
    · have HU := hu.below hB (Nat.le_refl _)
      obtain ⟨b, off, rfl, hcell⟩ := HU.cell k (by omega)
      have lk := lf k (by omega)
      have hp : f k * m ≤ 4294967295 * 4294967295 := Nat.mul_le_mul lk hm
      have hlt : f k * m + cc ≤ 18446744073709551615 := by omega
      go_wp2_with (at_builtin; refine wpList_append_u32 _ rfl _ _ 22 22 rfl 58 Tryd.underlying22 Tryd.underlying22 Tryd.info58 w.heap.size (by simp; omega) _ _ _ _ 1 1 _ (fun _ => (f k * m + cc) % 4294967296) rfl rfl (hU.alloc _) (hN.below hU (below_alloc _ _) (Nat.le_refl _)) (one_us wr (by simp) (by omega)) (by omega) ?_; intro a' c' f' w1 k1 k2 k3 k4 k5; have k6 := hid (push_val k2 k3); clear k2 k3)
      go_roundw
      case rel =>
        go_light
        have hcn : (f k * m + cc) / 4294967296 ≤ 4294967295 := by omega
        refine ⟨k + 1, (f k * m + cc) / 4294967296, _, _, _, by omega, hcn, by congr 1, by simp, rfl, k1, k4, ?_, hB.trans (((below_alloc wr _).mono hs).trans k5)⟩
        show _ = _
        rw [k6.out, val_succ, Nat.add_mul]
        have hV' := hV.out
        have e2 : (f k * m + cc) / 4294967296 * pw (k + 1) = (f k * m + cc) / 4294967296 * 4294967296 * pw k := by rw [pw_succ, Nat.mul_assoc]
        have e3 : (f k * m + cc) % 4294967296 * pw k + (f k * m + cc) / 4294967296 * 4294967296 * pw k = f k * pw k * m + cc * pw k := by
          rw [← Nat.add_mul, Nat.mod_add_div', Nat.add_mul, Nat.mul_right_comm]
        omega
      case measure => simp [intOf]; omega
    · obtain rfl : k = n := by omega
      clear h0
      go_wp2_with (first | (at_builtin; refine wpList_append_u32 _ rfl _ _ 22 22 rfl 58 Tryd.underlying22 Tryd.underlying22 Tryd.info58 w.heap.size (by simp; omega) _ _ _ _ 1 1 _ (fun _ => cc) rfl rfl (hU.alloc _) (hN.below hU (below_alloc _ _) (Nat.le_refl _)) (one_us wr (by omega) (by omega)) (by omega) ?_; intro a' c' f' w1 k1 k2 k3 k4 k5; have k6 := hid (push_val k2 k3); clear k2 k3) | (go_at_call 47; refine (rtrim_any _ _ _ _ _ (by omega) k1).mono ?_; rintro e w' ⟨ar, nr, cr, fr, rfl, h1, h2, h3, h4, h5, h6⟩))
      go_ret
      have b1 : Below w.heap.size w w1 := hB.trans (((below_alloc wr _).mono hs).trans k5)
      refine ⟨_, _, _, _, rfl, h1, h2.mono b1.size, b1.trans (h3.mono b1.size), h4, hid ?_, by omega⟩
      rw [h5.out, k6.out]; exact hV.out
end Go.Proofs.YticfggljaagcmaaDoor
