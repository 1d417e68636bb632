/-
  big.Norm, Neg, Abs, Of, Add, Sub, Mul, walked.
-/
import Derived.Test.YticfggljaagcmaaDoorInts
import Derived.Deep.RegionWith
namespace Go.Proofs.YticfggljaagcmaaDoor
set_option linter.all false
open Go.RowKit

theorem bcell {W w1 : World} (hb : Below W.heap.size W w1) : (∀ b o, b < W.heap.size → w1.cell? ⟨b, o, none⟩ = W.cell? ⟨b, o, none⟩) ∧ (∀ b o, b < W.heap.size → w1.frozen? ⟨b, o, none⟩ = W.frozen? ⟨b, o, none⟩) :=
  ⟨fun b o h => hb.cell (p := ⟨b, o, none⟩) h, fun b o h => hb.frozen (p := ⟨b, o, none⟩) h⟩
/-- An answer of an inner call, laid into a result's cells. -/
theorem ResI.out {w w2 w3 : World} {z z' : Int} {L L' q n c : Nat} {sg : Bool} {a : Option Addr} {f : Nat → Nat} (k1 : Us w3 a n c f) (k2 : New w3 w2.heap.size a c) (k3 : Below w2.heap.size w2 w3) (k4 : Nm f n) (k5 : n = 0 → sg = false) (k6 : ival sg (val f n) = z') (k7 : n ≤ L')
    (hB : Below w.heap.size w w2) (h1 : w.heap.size ≤ q) (h2 : q < w2.heap.size) (hz : z' = z) (hl : L' ≤ L) (x y : Value) : ResI w ((w3.setCell ⟨q, 0, none⟩ x).setCell ⟨q, 1, none⟩ y) z L (.returned (.agg #[.bool sg, .slice a n c])) :=
  ⟨sg, a, n, c, f, rfl, (k1.apart k2 h2 _).apart (k2.set _ _) h2 _, ((k2.set _ _).set _ _).mono (by omega), ((hB.trans (k3.mono (by omega))).setCell h1 _).setCell h1 _, k4, k5, k6.trans hz, by omega⟩
theorem below_alloc2 (w : World) (o o' : Obj) : Below w.heap.size w ((w.alloc o).alloc o') := ((Below.refl _ _).alloc (Nat.le_refl _) _).alloc (by simp) _
theorem below_alloc3 (w : World) (o o' o'' : Obj) : Below w.heap.size w (((w.alloc o).alloc o').alloc o'') := (((Below.refl _ _).alloc (Nat.le_refl _) _).alloc (by simp) _).alloc (by simp; omega) _
theorem ival_not (b : Bool) (x : Nat) : ival (!b) x = -ival b x := by cases b <;> simp [ival]

set_option maxHeartbeats 1000000 in
theorem norm_any (neg : Bool) (a : Option Addr) (n c : Nat) (f : Nat → Nat) (w : World) (hn : n ≤ 4398046511104) (hu : Us w a n c f) :
    Calls Tryd.prog 21 #[.agg #[.bool neg, .slice a n c]] w fun e w' => ResI w w' (ival neg (val f n)) n e := by
  go_enter Tryd.func21, Tryd.ntmps21
  go_wp2_with (go_at_call 45; refine (made_any _ _ _ _ _ _ (by omega) ((hu.alloc _).alloc _)).mono ?_; rintro e w1 ⟨sgx, ax, nx, cx, fx, rfl, kx1, kx2, kx3, kx4, kx5, kx6, kx7⟩; obtain ⟨hcx, hfx⟩ := bcell kx3; have hzx0 : w.heap.size < w1.heap.size := Nat.lt_of_lt_of_le (by first | (simp; done) | (simp; omega) | omega) kx3.size; have hzx1 : w.heap.size + 1 < w1.heap.size := Nat.lt_of_lt_of_le (by first | (simp; done) | (simp; omega) | omega) kx3.size; have Kx6 := hid kx6; have Kx5 := hid kx5; clear kx6 kx5)
  exact bodyPost_ret (by simp [results, Tryd.results21, go_sem, hcx]) rfl (ResI.out kx1 kx2 kx3 kx4 Kx5.out Kx6.out kx7 (below_alloc2 w _ _) (by simp) (by simp) rfl (Nat.le_refl _) _ _)

set_option maxHeartbeats 1000000 in
theorem neg_any (neg : Bool) (a : Option Addr) (n c : Nat) (f : Nat → Nat) (w : World) (hn : n ≤ 4398046511104) (hu : Us w a n c f) :
    Calls Tryd.prog 22 #[.agg #[.bool neg, .slice a n c]] w fun e w' => ResI w w' (-ival neg (val f n)) n e := by
  go_enter Tryd.func22, Tryd.ntmps22
  go_wp2_with (go_at_call 45; refine (made_any _ _ _ _ _ _ (by omega) ((hu.alloc _).alloc _)).mono ?_; rintro e w1 ⟨sgx, ax, nx, cx, fx, rfl, kx1, kx2, kx3, kx4, kx5, kx6, kx7⟩; obtain ⟨hcx, hfx⟩ := bcell kx3; have hzx0 : w.heap.size < w1.heap.size := Nat.lt_of_lt_of_le (by first | (simp; done) | (simp; omega) | omega) kx3.size; have hzx1 : w.heap.size + 1 < w1.heap.size := Nat.lt_of_lt_of_le (by first | (simp; done) | (simp; omega) | omega) kx3.size; have Kx6 := hid kx6; have Kx5 := hid kx5; clear kx6 kx5)
  exact bodyPost_ret (by simp [results, Tryd.results22, go_sem, hcx]) rfl (ResI.out kx1 kx2 kx3 kx4 Kx5.out Kx6.out kx7 (below_alloc2 w _ _) (by simp) (by simp) (ival_not _ _) (Nat.le_refl _) _ _)

set_option maxHeartbeats 1000000 in
theorem abs_any (neg : Bool) (a : Option Addr) (n c : Nat) (f : Nat → Nat) (w : World) (hn : n ≤ 4398046511104) (hu : Us w a n c f) :
    Calls Tryd.prog 23 #[.agg #[.bool neg, .slice a n c]] w fun e w' => ResI w w' ((val f n : Int)) n e := by
  go_enter Tryd.func23, Tryd.ntmps23
  go_wp2_with (go_at_call 45; refine (made_any _ _ _ _ _ _ (by omega) ((hu.alloc _).alloc _)).mono ?_; rintro e w1 ⟨sgx, ax, nx, cx, fx, rfl, kx1, kx2, kx3, kx4, kx5, kx6, kx7⟩; obtain ⟨hcx, hfx⟩ := bcell kx3; have hzx0 : w.heap.size < w1.heap.size := Nat.lt_of_lt_of_le (by first | (simp; done) | (simp; omega) | omega) kx3.size; have hzx1 : w.heap.size + 1 < w1.heap.size := Nat.lt_of_lt_of_le (by first | (simp; done) | (simp; omega) | omega) kx3.size; have Kx6 := hid kx6; have Kx5 := hid kx5; clear kx6 kx5)
  exact bodyPost_ret (by simp [results, Tryd.results23, go_sem, hcx]) rfl (ResI.out kx1 kx2 kx3 kx4 Kx5.out Kx6.out kx7 (below_alloc2 w _ _) (by simp) (by simp) rfl (Nat.le_refl _) _ _)

theorem of_neg {z : Int} (h : z < 0) (x : Nat) (hx : (x : Int) = -z) : ival true x = z := by simp [ival, hx]

set_option maxHeartbeats 1000000 in
theorem of_any (z : Int) (w : World) (h1 : -9223372036854775808 ≤ z) (h2 : z ≤ 9223372036854775807) :
    Calls Tryd.prog 28 #[.int .i64 z] w fun e w' => ResI w w' z 2 e := by
  by_cases hz : z < 0
  · obtain ⟨x, hx⟩ : ∃ x : Nat, (x : Int) = -z := ⟨(-z).toNat, by omega⟩
    have hx2 : x ≤ 18446744073709551615 := by omega
    have HX := hid hx
    have hw : IntKind.u64.wrap (-IntKind.u64.wrap z) = (x : Int) := by rw [IntKind.wrap_u64, IntKind.wrap_u64]; omega
    have HW := hid hw
    clear hw hx
    go_enter Tryd.func28, Tryd.ntmps28
    go_wp2_with fail
    rw [HW.out]
    go_wp2_with (first | (go_at_call 59; refine (natOf_any x _ (by omega)).mono ?_; rintro e w1 ⟨ay, ny, cy, fy, rfl, ky1, ky2, ky3, ky4, ky5, ky6⟩; obtain ⟨hcy, hfy⟩ := bcell ky3; have hzy0 : w.heap.size < w1.heap.size := Nat.lt_of_lt_of_le (by first | (simp; done) | (simp; omega) | omega) ky3.size; have Ky5 := hid ky5; clear ky5) | (go_at_call 45; refine (made_any _ _ _ _ _ _ (by omega) ky1).mono ?_; rintro e w2 ⟨sgx, ax, nx, cx, fx, rfl, kx1, kx2, kx3, kx4, kx5, kx6, kx7⟩; obtain ⟨hcx, hfx⟩ := bcell kx3; have hzx0 : w.heap.size < w2.heap.size := Nat.lt_of_lt_of_le (by first | (simp; done) | (simp; omega) | omega) kx3.size; have Kx6 := hid kx6; have Kx5 := hid kx5; clear kx6 kx5))
    exact bodyPost_ret (by simp [results, Tryd.results28, go_sem, hcx, hcy, hzy0]) rfl (ResI.out kx1 kx2 kx3 kx4 Kx5.out Kx6.out kx7 ((below_alloc w _).trans (ky3.mono (by simp))) (Nat.le_refl _) hzy0 (by rw [Ky5.out]; exact of_neg hz x HX.out) (by omega) _ _)
  · obtain ⟨x, hx⟩ : ∃ x : Nat, (x : Int) = z := ⟨z.toNat, by omega⟩
    subst hx
    go_enter Tryd.func28, Tryd.ntmps28
    go_wp2_with (first | (go_at_call 59; refine (natOf_any x _ (by omega)).mono ?_; rintro e w1 ⟨ay, ny, cy, fy, rfl, ky1, ky2, ky3, ky4, ky5, ky6⟩; obtain ⟨hcy, hfy⟩ := bcell ky3; have hzy0 : w.heap.size < w1.heap.size := Nat.lt_of_lt_of_le (by first | (simp; done) | (simp; omega) | omega) ky3.size; have Ky5 := hid ky5; clear ky5) | (go_at_call 45; refine (made_any _ _ _ _ _ _ (by omega) ky1).mono ?_; rintro e w2 ⟨sgx, ax, nx, cx, fx, rfl, kx1, kx2, kx3, kx4, kx5, kx6, kx7⟩; obtain ⟨hcx, hfx⟩ := bcell kx3; have hzx0 : w.heap.size < w2.heap.size := Nat.lt_of_lt_of_le (by first | (simp; done) | (simp; omega) | omega) kx3.size; have Kx6 := hid kx6; have Kx5 := hid kx5; clear kx6 kx5))
    exact bodyPost_ret (by simp [results, Tryd.results28, go_sem, hcx, hcy, hzy0]) rfl (ResI.out kx1 kx2 kx3 kx4 Kx5.out Kx6.out kx7 ((below_alloc w _).trans (ky3.mono (by simp))) (Nat.le_refl _) hzy0 (by rw [Ky5.out]; rfl) (by omega) _ _)
end Go.Proofs.YticfggljaagcmaaDoor
