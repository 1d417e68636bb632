/-
  big.Add, Sub, Mul, walked.
-/
import Derived.Test.YticfggljaagcmaaDoorInts2
import Derived.Deep.RegionHeld3
namespace Go.Proofs.YticfggljaagcmaaDoor
set_option linter.all false
open Go.RowKit

theorem Us.drew {w : World} {a : Option Addr} {n c : Nat} {h : Nat → Nat} (k : Us w a n c h) : Us w.drew a n c h := ⟨k.le, k.mx, k.lm, k.cell⟩
theorem Us.alloc3 {w : World} {a : Option Addr} {n c : Nat} {h : Nat → Nat} (k : Us w a n c h) (o o' o'' : Obj) : Us (((w.alloc o).alloc o').alloc o'') a n c h := ((k.alloc _).alloc _).alloc _
theorem ival_add (b : Bool) (x y : Nat) : ival b (x + y) = ival b x + ival b y := by cases b <;> simp [ival] <;> omega
theorem ival_sub {x y d : Nat} (b : Bool) (h : d + y = x) : ival b d = ival b x + ival (!b) y := by cases b <;> simp [ival] <;> omega
theorem ival_sub' {x y d : Nat} (b : Bool) (h : d + x = y) : ival (!b) d = ival b x + ival (!b) y := by cases b <;> simp [ival] <;> omega
theorem ival_mul (b b' : Bool) (x y : Nat) : ival (b != b') (x * y) = ival b x * ival b' y := by cases b <;> cases b' <;> simp [ival, Int.neg_mul, Int.mul_neg]
/-- Three boxes, the first blocks that a call makes. -/
structure Box3 (w wx : World) (x0 x1 y0 y1 z0 z1 : Value) : Prop where
  below : Below w.heap.size w wx
  size : w.heap.size + 1 + 1 < wx.heap.size
  c00 : wx.cell? ⟨w.heap.size, 0, none⟩ = some x0
  c01 : wx.cell? ⟨w.heap.size, 1, none⟩ = some x1
  c10 : wx.cell? ⟨w.heap.size + 1, 0, none⟩ = some y0
  c11 : wx.cell? ⟨w.heap.size + 1, 1, none⟩ = some y1
  c20 : wx.cell? ⟨w.heap.size + 1 + 1, 0, none⟩ = some z0
  c21 : wx.cell? ⟨w.heap.size + 1 + 1, 1, none⟩ = some z1
  f0 : ∀ o, wx.frozen? ⟨w.heap.size, o, none⟩ = false
  f1 : ∀ o, wx.frozen? ⟨w.heap.size + 1, o, none⟩ = false
  f2 : ∀ o, wx.frozen? ⟨w.heap.size + 1 + 1, o, none⟩ = false
theorem Box3.made (w : World) (x0 x1 y0 y1 z0 z1 : Value) (T : TypeId) : Box3 w (((w.alloc (.cells #[x0, x1] T)).alloc (.cells #[y0, y1] T)).alloc (.cells #[z0, z1] T)) x0 x1 y0 y1 z0 z1 :=
  ⟨below_alloc3 w _ _ _, by simp, by simp [go_sem], by simp [go_sem], by simp [go_sem], by simp [go_sem], by simp [go_sem], by simp [go_sem], fun o => by simp [go_sem], fun o => by simp [go_sem], fun o => by simp [go_sem]⟩
theorem Box3.keep {w wx wy : World} {x0 x1 y0 y1 z0 z1 : Value} (k : Box3 w wx x0 x1 y0 y1 z0 z1) (hb : Below wx.heap.size wx wy) : Box3 w wy x0 x1 y0 y1 z0 z1 :=
  have s := k.size
  ⟨k.below.trans (hb.mono k.below.size), Nat.lt_of_lt_of_le s hb.size,
   (hb.cell (p := ⟨w.heap.size, 0, none⟩) (by simp; omega)).trans k.c00, (hb.cell (p := ⟨w.heap.size, 1, none⟩) (by simp; omega)).trans k.c01,
   (hb.cell (p := ⟨w.heap.size + 1, 0, none⟩) (by simp; omega)).trans k.c10, (hb.cell (p := ⟨w.heap.size + 1, 1, none⟩) (by simp; omega)).trans k.c11,
   (hb.cell (p := ⟨w.heap.size + 1 + 1, 0, none⟩) (by simp; omega)).trans k.c20, (hb.cell (p := ⟨w.heap.size + 1 + 1, 1, none⟩) (by simp; omega)).trans k.c21,
   fun o => (hb.frozen (p := ⟨w.heap.size, o, none⟩) (by simp; omega)).trans (k.f0 o), fun o => (hb.frozen (p := ⟨w.heap.size + 1, o, none⟩) (by simp; omega)).trans (k.f1 o), fun o => (hb.frozen (p := ⟨w.heap.size + 1 + 1, o, none⟩) (by simp; omega)).trans (k.f2 o)⟩
theorem Box3.drew {w wx : World} {x0 x1 y0 y1 z0 z1 : Value} (k : Box3 w wx x0 x1 y0 y1 z0 z1) : Box3 w wx.drew x0 x1 y0 y1 z0 z1 :=
  ⟨k.below.drew, k.size, k.c00, k.c01, k.c10, k.c11, k.c20, k.c21, k.f0, k.f1, k.f2⟩
/-- Two boxes are written anew. -/
theorem Box3.swap {w wx : World} {x0 x1 y0 y1 z0 z1 : Value} (k : Box3 w wx x0 x1 y0 y1 z0 z1) (p0 p1 q0 q1 : Value) :
    Box3 w ((((wx.setCell ⟨w.heap.size, 0, none⟩ p0).setCell ⟨w.heap.size, 1, none⟩ p1).setCell ⟨w.heap.size + 1, 0, none⟩ q0).setCell ⟨w.heap.size + 1, 1, none⟩ q1) p0 p1 q0 q1 z0 z1 :=
  ⟨(((k.below.setCell (Nat.le_refl _) _).setCell (Nat.le_refl _) _).setCell (Nat.le_succ _) _).setCell (Nat.le_succ _) _, by simpa using k.size,
   by simp [go_sem, k.c00], by simp [go_sem, k.c01], by simp [go_sem, k.c10], by simp [go_sem, k.c11], by simp [go_sem, k.c20], by simp [go_sem, k.c21],
   fun o => by simp [k.f0 o], fun o => by simp [k.f1 o], fun o => by simp [k.f2 o]⟩
/-- Memory that a call keeps: a cell of a block of its own caller. -/
theorem Us.off {w : World} {a : Option Addr} {n c : Nat} {h : Nat → Nat} (k : Us w a n c h) {w0 : World} (k0 : Us w0 a n c h) {p : Addr} (hp : w0.heap.size ≤ p.block) (x : Value) : Us (w.setCell p x) a n c h :=
  ⟨k.le, k.mx, k.lm, fun i hi => by
    obtain ⟨b, off, e, h1⟩ := k.cell i hi
    have := k0.lt e (by omega)
    exact ⟨b, off, e, by rw [World.cell?_setCell_other _ _ _ _ (by intro h; subst h; simp at hp; omega)]; exact h1⟩⟩

set_option maxHeartbeats 1000000 in
theorem add_same_false (a a' : Option Addr) (n c n' c' : Nat) (f g : Nat → Nat) (w : World) (hn : n ≤ 1099511627776) (hn' : n' ≤ 1099511627776) (hu : Us w a n c f) (hu' : Us w a' n' c' g) :
    Calls Tryd.prog 24 #[.agg #[.bool false, .slice a n c], .agg #[.bool false, .slice a' n' c']] w fun e w' => ResI w w' (ival false (val f n) + ival false (val g n')) (max n n' + 1) e := by
    go_enter Tryd.func24, Tryd.ntmps24
    go_wp2_with fail
    go_region_held3 (fun wx => wx.cell? ⟨w.heap.size, 0, none⟩ = some (.bool false) ∧ wx.cell? ⟨w.heap.size, 1, none⟩ = some (.slice a n c) ∧ wx.cell? ⟨w.heap.size + 1, 0, none⟩ = some (.bool false) ∧ wx.cell? ⟨w.heap.size + 1, 1, none⟩ = some (.slice a' n' c')) (refine ⟨?_, ?_, ?_, ?_⟩ <;> first | (go_keep; done) | (simp [*, go_sem]; done)) (first | (go_at_call 55; refine (natAdd_any _ _ _ _ _ _ _ _ _ (by omega) (by omega) (hu.alloc3 _ _ _).drew (hu'.alloc3 _ _ _).drew).mono ?_; rintro e w1 ⟨ay, ny, cy, fy, rfl, ky1, ky2, ky3, ky4, ky5, ky6⟩; obtain ⟨hcy, hfy⟩ := bcell ky3; have hzy0 : w.heap.size < w1.heap.size := Nat.lt_of_lt_of_le (by first | (simp; done) | (simp; omega) | omega) ky3.size; have hzy1 : w.heap.size + 1 < w1.heap.size := Nat.lt_of_lt_of_le (by first | (simp; done) | (simp; omega) | omega) ky3.size; have hzy2 : w.heap.size + 2 < w1.heap.size := Nat.lt_of_lt_of_le (by first | (simp; done) | (simp; omega) | omega) ky3.size; have Ky5 := hid ky5; clear ky5) | (go_at_call 45; refine (made_any _ _ _ _ _ _ (by omega) ky1).mono ?_; rintro e w2 ⟨sgx, ax, nx, cx, fx, rfl, kx1, kx2, kx3, kx4, kx5, kx6, kx7⟩; obtain ⟨hcx, hfx⟩ := bcell kx3; have hzx0 : w.heap.size < w2.heap.size := Nat.lt_of_lt_of_le (by first | (simp; done) | (simp; omega) | omega) kx3.size; have hzx1 : w.heap.size + 1 < w2.heap.size := Nat.lt_of_lt_of_le (by first | (simp; done) | (simp; omega) | omega) kx3.size; have hzx2 : w.heap.size + 2 < w2.heap.size := Nat.lt_of_lt_of_le (by first | (simp; done) | (simp; omega) | omega) kx3.size; have Kx6 := hid kx6; have Kx5 := hid kx5; clear kx6 kx5))
    go_wp2
    exact bodyPost_ret (by simp [results, Tryd.results24, go_sem, hcx, hcy, hzy2]) rfl (ResI.out kx1 kx2 kx3 kx4 Kx5.out Kx6.out kx7 (((below_alloc3 w _ _ _).drew).trans (ky3.mono (by simp; omega))) (by omega) hzy2 (by rw [Ky5.out, ival_add]) (by omega) _ _)

set_option maxHeartbeats 1000000 in
theorem add_same_true (a a' : Option Addr) (n c n' c' : Nat) (f g : Nat → Nat) (w : World) (hn : n ≤ 1099511627776) (hn' : n' ≤ 1099511627776) (hu : Us w a n c f) (hu' : Us w a' n' c' g) :
    Calls Tryd.prog 24 #[.agg #[.bool true, .slice a n c], .agg #[.bool true, .slice a' n' c']] w fun e w' => ResI w w' (ival true (val f n) + ival true (val g n')) (max n n' + 1) e := by
    go_enter Tryd.func24, Tryd.ntmps24
    go_wp2_with fail
    go_region_held3 (fun wx => wx.cell? ⟨w.heap.size, 0, none⟩ = some (.bool true) ∧ wx.cell? ⟨w.heap.size, 1, none⟩ = some (.slice a n c) ∧ wx.cell? ⟨w.heap.size + 1, 0, none⟩ = some (.bool true) ∧ wx.cell? ⟨w.heap.size + 1, 1, none⟩ = some (.slice a' n' c')) (refine ⟨?_, ?_, ?_, ?_⟩ <;> first | (go_keep; done) | (simp [*, go_sem]; done)) (first | (go_at_call 55; refine (natAdd_any _ _ _ _ _ _ _ _ _ (by omega) (by omega) (hu.alloc3 _ _ _).drew (hu'.alloc3 _ _ _).drew).mono ?_; rintro e w1 ⟨ay, ny, cy, fy, rfl, ky1, ky2, ky3, ky4, ky5, ky6⟩; obtain ⟨hcy, hfy⟩ := bcell ky3; have hzy0 : w.heap.size < w1.heap.size := Nat.lt_of_lt_of_le (by first | (simp; done) | (simp; omega) | omega) ky3.size; have hzy1 : w.heap.size + 1 < w1.heap.size := Nat.lt_of_lt_of_le (by first | (simp; done) | (simp; omega) | omega) ky3.size; have hzy2 : w.heap.size + 2 < w1.heap.size := Nat.lt_of_lt_of_le (by first | (simp; done) | (simp; omega) | omega) ky3.size; have Ky5 := hid ky5; clear ky5) | (go_at_call 45; refine (made_any _ _ _ _ _ _ (by omega) ky1).mono ?_; rintro e w2 ⟨sgx, ax, nx, cx, fx, rfl, kx1, kx2, kx3, kx4, kx5, kx6, kx7⟩; obtain ⟨hcx, hfx⟩ := bcell kx3; have hzx0 : w.heap.size < w2.heap.size := Nat.lt_of_lt_of_le (by first | (simp; done) | (simp; omega) | omega) kx3.size; have hzx1 : w.heap.size + 1 < w2.heap.size := Nat.lt_of_lt_of_le (by first | (simp; done) | (simp; omega) | omega) kx3.size; have hzx2 : w.heap.size + 2 < w2.heap.size := Nat.lt_of_lt_of_le (by first | (simp; done) | (simp; omega) | omega) kx3.size; have Kx6 := hid kx6; have Kx5 := hid kx5; clear kx6 kx5))
    go_wp2
    exact bodyPost_ret (by simp [results, Tryd.results24, go_sem, hcx, hcy, hzy2]) rfl (ResI.out kx1 kx2 kx3 kx4 Kx5.out Kx6.out kx7 (((below_alloc3 w _ _ _).drew).trans (ky3.mono (by simp; omega))) (by omega) hzy2 (by rw [Ky5.out, ival_add]) (by omega) _ _)

/-- natCmp, the world told by what it keeps. -/
theorem natCmp_keeps (a a' : Option Addr) (n c n' c' : Nat) (f g : Nat → Nat) (w : World) (hn : n ≤ 1099511627776) (hn' : n' ≤ 1099511627776) (hu : Us w a n c f) (hu' : Us w a' n' c' g) :
    Calls Tryd.prog 56 #[.slice a n c, .slice a' n' c'] w fun e w' => e = .returned (.int .i64 (cmpN (val f n) (val g n'))) ∧ Below w.heap.size w w' ∧ w'.heap.size = w.heap.size :=
  (natCmp_any a a' n c n' c' f g w hn hn' hu hu').mono fun e w' ⟨h1, q, h2⟩ => by subst h2; exact ⟨h1, drewN_below w q _, rfl⟩

set_option maxHeartbeats 1000000 in
theorem add_diff_false_lt (a a' : Option Addr) (n c n' c' : Nat) (f g : Nat → Nat) (w : World) (hn : n ≤ 1099511627776) (hn' : n' ≤ 1099511627776) (hu : Us w a n c f) (hu' : Us w a' n' c' g) (hlt : val f n < val g n') :
    Calls Tryd.prog 24 #[.agg #[.bool false, .slice a n c], .agg #[.bool true, .slice a' n' c']] w fun e w' => ResI w w' (ival false (val f n) + ival true (val g n')) (max n n' + 1) e := by
  have hc := cmpN_neg hlt
  have HL := hid (Nat.le_of_lt hlt)
  clear hlt
  go_enter Tryd.func24, Tryd.ntmps24
  go_wp2_with (go_at_call 56; refine (natCmp_keeps _ _ _ _ _ _ _ _ _ (by omega) (by omega) (hu.alloc3 _ _ _) (hu'.alloc3 _ _ _)).mono ?_; rintro e w1 ⟨rfl, kc3, _⟩; have B1 := (Box3.made w _ _ _ _ _ _ 24).keep kc3; obtain ⟨_, hzs, bx0, bx1, by0, by1, bz0, bz1, fx, fy, fz⟩ := id B1)
  have uA : Us ((((w1.setCell ⟨w.heap.size, 0, none⟩ (.bool true)).setCell ⟨w.heap.size, 1, none⟩ (.slice a' n' c')).setCell ⟨w.heap.size + 1, 0, none⟩ (.bool false)).setCell ⟨w.heap.size + 1, 1, none⟩ (.slice a n c)) a' n' c' g := ((((hu'.alloc3 _ _ _).below kc3 (Nat.le_refl _)).off hu' (Nat.le_refl _) _).off hu' (Nat.le_refl _) _ |>.off hu' (Nat.le_succ _) _ |>.off hu' (Nat.le_succ _) _)
  have uB : Us ((((w1.setCell ⟨w.heap.size, 0, none⟩ (.bool true)).setCell ⟨w.heap.size, 1, none⟩ (.slice a' n' c')).setCell ⟨w.heap.size + 1, 0, none⟩ (.bool false)).setCell ⟨w.heap.size + 1, 1, none⟩ (.slice a n c)) a n c f := ((((hu.alloc3 _ _ _).below kc3 (Nat.le_refl _)).off hu (Nat.le_refl _) _).off hu (Nat.le_refl _) _ |>.off hu (Nat.le_succ _) _ |>.off hu (Nat.le_succ _) _)
  have BW := (B1.swap (.bool true) (.slice a' n' c') (.bool false) (.slice a n c))
  generalize ((((w1.setCell ⟨w.heap.size, 0, none⟩ (.bool true)).setCell ⟨w.heap.size, 1, none⟩ (.slice a' n' c')).setCell ⟨w.heap.size + 1, 0, none⟩ (.bool false)).setCell ⟨w.heap.size + 1, 1, none⟩ (.slice a n c)) = w2 at uA uB BW ⊢
  obtain ⟨_, hzs2, cx0, cx1, cy0, cy1, cz0, cz1, gx, gy, gz⟩ := id BW
  refine (natSub_any _ _ _ _ _ _ _ _ _ (by omega) (by omega) uA uB HL.out).mono ?_
  rintro e w3 ⟨ay, ny, cy, fy', rfl, ky1, ky2, ky3, ky4, ky5, ky6⟩
  have B3 := BW.keep ky3
  obtain ⟨_, hzs3, dx0, dx1, dy0, dy1, dz0, dz1, jx, jy, jz⟩ := id B3
  have Ky5 := hid ky5
  clear ky5 hzs hzs2 cx0 cx1 cy0 cy1 cz0 cz1 gx gy gz bx0 bx1 by0 by1 bz0 bz1 fx fy fz
  go_wp2_with (go_at_call 45; refine (made_any _ _ _ _ _ _ (by omega) ky1).mono ?_; rintro e w4 ⟨sgx, ax, nx, cx, fx, rfl, kx1, kx2, kx3, kx4, kx5, kx6, kx7⟩; have B4 := B3.keep kx3; obtain ⟨_, hzs4, ex0, ex1, ey0, ey1, ez0, ez1, lx, ly, lz⟩ := id B4; have Kx6 := hid kx6; have Kx5 := hid kx5; clear kx6 kx5)
  exact bodyPost_ret (by simp [results, Tryd.results24, go_sem, ez0, ez1]) rfl (ResI.out kx1 kx2 kx3 kx4 Kx5.out Kx6.out kx7 B3.below (by omega) hzs3 (ival_sub' false Ky5.out) (by omega) _ _)

set_option maxHeartbeats 1000000 in
theorem add_diff_false_ge (a a' : Option Addr) (n c n' c' : Nat) (f g : Nat → Nat) (w : World) (hn : n ≤ 1099511627776) (hn' : n' ≤ 1099511627776) (hu : Us w a n c f) (hu' : Us w a' n' c' g) (hlt : val g n' ≤ val f n) :
    Calls Tryd.prog 24 #[.agg #[.bool false, .slice a n c], .agg #[.bool true, .slice a' n' c']] w fun e w' => ResI w w' (ival false (val f n) + ival true (val g n')) (max n n' + 1) e := by
  have hc := cmpN_nn hlt
  have HL := hid hlt
  clear hlt
  go_enter Tryd.func24, Tryd.ntmps24
  go_wp2_with (go_at_call 56; refine (natCmp_keeps _ _ _ _ _ _ _ _ _ (by omega) (by omega) (hu.alloc3 _ _ _) (hu'.alloc3 _ _ _)).mono ?_; rintro e w1 ⟨rfl, kc3, _⟩; have B1 := (Box3.made w _ _ _ _ _ _ 24).keep kc3; obtain ⟨_, hzs, bx0, bx1, by0, by1, bz0, bz1, fx, fy, fz⟩ := id B1)
  have uA : Us w1 a n c f := ((hu.alloc3 _ _ _).below kc3 (Nat.le_refl _))
  have uB : Us w1 a' n' c' g := ((hu'.alloc3 _ _ _).below kc3 (Nat.le_refl _))
  have BW := B1
  generalize w1 = w2 at uA uB BW ⊢
  obtain ⟨_, hzs2, cx0, cx1, cy0, cy1, cz0, cz1, gx, gy, gz⟩ := id BW
  refine (natSub_any _ _ _ _ _ _ _ _ _ (by omega) (by omega) uA uB HL.out).mono ?_
  rintro e w3 ⟨ay, ny, cy, fy', rfl, ky1, ky2, ky3, ky4, ky5, ky6⟩
  have B3 := BW.keep ky3
  obtain ⟨_, hzs3, dx0, dx1, dy0, dy1, dz0, dz1, jx, jy, jz⟩ := id B3
  have Ky5 := hid ky5
  clear ky5 hzs hzs2 cx0 cx1 cy0 cy1 cz0 cz1 gx gy gz bx0 bx1 by0 by1 bz0 bz1 fx fy fz
  go_wp2_with (go_at_call 45; refine (made_any _ _ _ _ _ _ (by omega) ky1).mono ?_; rintro e w4 ⟨sgx, ax, nx, cx, fx, rfl, kx1, kx2, kx3, kx4, kx5, kx6, kx7⟩; have B4 := B3.keep kx3; obtain ⟨_, hzs4, ex0, ex1, ey0, ey1, ez0, ez1, lx, ly, lz⟩ := id B4; have Kx6 := hid kx6; have Kx5 := hid kx5; clear kx6 kx5)
  exact bodyPost_ret (by simp [results, Tryd.results24, go_sem, ez0, ez1]) rfl (ResI.out kx1 kx2 kx3 kx4 Kx5.out Kx6.out kx7 B3.below (by omega) hzs3 (ival_sub false Ky5.out) (by omega) _ _)

set_option maxHeartbeats 1000000 in
theorem add_diff_true_lt (a a' : Option Addr) (n c n' c' : Nat) (f g : Nat → Nat) (w : World) (hn : n ≤ 1099511627776) (hn' : n' ≤ 1099511627776) (hu : Us w a n c f) (hu' : Us w a' n' c' g) (hlt : val f n < val g n') :
    Calls Tryd.prog 24 #[.agg #[.bool true, .slice a n c], .agg #[.bool false, .slice a' n' c']] w fun e w' => ResI w w' (ival true (val f n) + ival false (val g n')) (max n n' + 1) e := by
  have hc := cmpN_neg hlt
  have HL := hid (Nat.le_of_lt hlt)
  clear hlt
  go_enter Tryd.func24, Tryd.ntmps24
  go_wp2_with (go_at_call 56; refine (natCmp_keeps _ _ _ _ _ _ _ _ _ (by omega) (by omega) (hu.alloc3 _ _ _) (hu'.alloc3 _ _ _)).mono ?_; rintro e w1 ⟨rfl, kc3, _⟩; have B1 := (Box3.made w _ _ _ _ _ _ 24).keep kc3; obtain ⟨_, hzs, bx0, bx1, by0, by1, bz0, bz1, fx, fy, fz⟩ := id B1)
  have uA : Us ((((w1.setCell ⟨w.heap.size, 0, none⟩ (.bool false)).setCell ⟨w.heap.size, 1, none⟩ (.slice a' n' c')).setCell ⟨w.heap.size + 1, 0, none⟩ (.bool true)).setCell ⟨w.heap.size + 1, 1, none⟩ (.slice a n c)) a' n' c' g := ((((hu'.alloc3 _ _ _).below kc3 (Nat.le_refl _)).off hu' (Nat.le_refl _) _).off hu' (Nat.le_refl _) _ |>.off hu' (Nat.le_succ _) _ |>.off hu' (Nat.le_succ _) _)
  have uB : Us ((((w1.setCell ⟨w.heap.size, 0, none⟩ (.bool false)).setCell ⟨w.heap.size, 1, none⟩ (.slice a' n' c')).setCell ⟨w.heap.size + 1, 0, none⟩ (.bool true)).setCell ⟨w.heap.size + 1, 1, none⟩ (.slice a n c)) a n c f := ((((hu.alloc3 _ _ _).below kc3 (Nat.le_refl _)).off hu (Nat.le_refl _) _).off hu (Nat.le_refl _) _ |>.off hu (Nat.le_succ _) _ |>.off hu (Nat.le_succ _) _)
  have BW := (B1.swap (.bool false) (.slice a' n' c') (.bool true) (.slice a n c))
  generalize ((((w1.setCell ⟨w.heap.size, 0, none⟩ (.bool false)).setCell ⟨w.heap.size, 1, none⟩ (.slice a' n' c')).setCell ⟨w.heap.size + 1, 0, none⟩ (.bool true)).setCell ⟨w.heap.size + 1, 1, none⟩ (.slice a n c)) = w2 at uA uB BW ⊢
  obtain ⟨_, hzs2, cx0, cx1, cy0, cy1, cz0, cz1, gx, gy, gz⟩ := id BW
  refine (natSub_any _ _ _ _ _ _ _ _ _ (by omega) (by omega) uA uB HL.out).mono ?_
  rintro e w3 ⟨ay, ny, cy, fy', rfl, ky1, ky2, ky3, ky4, ky5, ky6⟩
  have B3 := BW.keep ky3
  obtain ⟨_, hzs3, dx0, dx1, dy0, dy1, dz0, dz1, jx, jy, jz⟩ := id B3
  have Ky5 := hid ky5
  clear ky5 hzs hzs2 cx0 cx1 cy0 cy1 cz0 cz1 gx gy gz bx0 bx1 by0 by1 bz0 bz1 fx fy fz
  go_wp2_with (go_at_call 45; refine (made_any _ _ _ _ _ _ (by omega) ky1).mono ?_; rintro e w4 ⟨sgx, ax, nx, cx, fx, rfl, kx1, kx2, kx3, kx4, kx5, kx6, kx7⟩; have B4 := B3.keep kx3; obtain ⟨_, hzs4, ex0, ex1, ey0, ey1, ez0, ez1, lx, ly, lz⟩ := id B4; have Kx6 := hid kx6; have Kx5 := hid kx5; clear kx6 kx5)
  exact bodyPost_ret (by simp [results, Tryd.results24, go_sem, ez0, ez1]) rfl (ResI.out kx1 kx2 kx3 kx4 Kx5.out Kx6.out kx7 B3.below (by omega) hzs3 (ival_sub' true Ky5.out) (by omega) _ _)

set_option maxHeartbeats 1000000 in
theorem add_diff_true_ge (a a' : Option Addr) (n c n' c' : Nat) (f g : Nat → Nat) (w : World) (hn : n ≤ 1099511627776) (hn' : n' ≤ 1099511627776) (hu : Us w a n c f) (hu' : Us w a' n' c' g) (hlt : val g n' ≤ val f n) :
    Calls Tryd.prog 24 #[.agg #[.bool true, .slice a n c], .agg #[.bool false, .slice a' n' c']] w fun e w' => ResI w w' (ival true (val f n) + ival false (val g n')) (max n n' + 1) e := by
  have hc := cmpN_nn hlt
  have HL := hid hlt
  clear hlt
  go_enter Tryd.func24, Tryd.ntmps24
  go_wp2_with (go_at_call 56; refine (natCmp_keeps _ _ _ _ _ _ _ _ _ (by omega) (by omega) (hu.alloc3 _ _ _) (hu'.alloc3 _ _ _)).mono ?_; rintro e w1 ⟨rfl, kc3, _⟩; have B1 := (Box3.made w _ _ _ _ _ _ 24).keep kc3; obtain ⟨_, hzs, bx0, bx1, by0, by1, bz0, bz1, fx, fy, fz⟩ := id B1)
  have uA : Us w1 a n c f := ((hu.alloc3 _ _ _).below kc3 (Nat.le_refl _))
  have uB : Us w1 a' n' c' g := ((hu'.alloc3 _ _ _).below kc3 (Nat.le_refl _))
  have BW := B1
  generalize w1 = w2 at uA uB BW ⊢
  obtain ⟨_, hzs2, cx0, cx1, cy0, cy1, cz0, cz1, gx, gy, gz⟩ := id BW
  refine (natSub_any _ _ _ _ _ _ _ _ _ (by omega) (by omega) uA uB HL.out).mono ?_
  rintro e w3 ⟨ay, ny, cy, fy', rfl, ky1, ky2, ky3, ky4, ky5, ky6⟩
  have B3 := BW.keep ky3
  obtain ⟨_, hzs3, dx0, dx1, dy0, dy1, dz0, dz1, jx, jy, jz⟩ := id B3
  have Ky5 := hid ky5
  clear ky5 hzs hzs2 cx0 cx1 cy0 cy1 cz0 cz1 gx gy gz bx0 bx1 by0 by1 bz0 bz1 fx fy fz
  go_wp2_with (go_at_call 45; refine (made_any _ _ _ _ _ _ (by omega) ky1).mono ?_; rintro e w4 ⟨sgx, ax, nx, cx, fx, rfl, kx1, kx2, kx3, kx4, kx5, kx6, kx7⟩; have B4 := B3.keep kx3; obtain ⟨_, hzs4, ex0, ex1, ey0, ey1, ez0, ez1, lx, ly, lz⟩ := id B4; have Kx6 := hid kx6; have Kx5 := hid kx5; clear kx6 kx5)
  exact bodyPost_ret (by simp [results, Tryd.results24, go_sem, ez0, ez1]) rfl (ResI.out kx1 kx2 kx3 kx4 Kx5.out Kx6.out kx7 B3.below (by omega) hzs3 (ival_sub true Ky5.out) (by omega) _ _)

set_option maxHeartbeats 1000000 in
theorem mul_false_false (a a' : Option Addr) (n c n' c' : Nat) (f g : Nat → Nat) (w : World) (hn : n ≤ 1099511627776) (hn' : n' ≤ 1099511627776) (hu : Us w a n c f) (hu' : Us w a' n' c' g) :
    Calls Tryd.prog 26 #[.agg #[.bool false, .slice a n c], .agg #[.bool false, .slice a' n' c']] w fun e w' => ResI w w' (ival false (val f n) * ival false (val g n')) (n + n') e := by
    go_enter Tryd.func26, Tryd.ntmps26
    go_wp2_with fail
    go_region_held3 (fun wx => wx.cell? ⟨w.heap.size, 0, none⟩ = some (.bool false) ∧ wx.cell? ⟨w.heap.size, 1, none⟩ = some (.slice a n c) ∧ wx.cell? ⟨w.heap.size + 1, 0, none⟩ = some (.bool false) ∧ wx.cell? ⟨w.heap.size + 1, 1, none⟩ = some (.slice a' n' c')) (refine ⟨?_, ?_, ?_, ?_⟩ <;> first | (go_keep; done) | (simp [*, go_sem]; done)) (first | (go_at_call 58; refine (natMul_any _ _ _ _ _ _ _ _ _ (by omega) (by omega) (hu.alloc3 _ _ _).drew (hu'.alloc3 _ _ _).drew).mono ?_; rintro e w1 ⟨ay, ny, cy, fy, rfl, ky1, ky2, ky3, ky4, ky5, ky6⟩; obtain ⟨hcy, hfy⟩ := bcell ky3; have hzy0 : w.heap.size < w1.heap.size := Nat.lt_of_lt_of_le (by first | (simp; done) | (simp; omega) | omega) ky3.size; have hzy1 : w.heap.size + 1 < w1.heap.size := Nat.lt_of_lt_of_le (by first | (simp; done) | (simp; omega) | omega) ky3.size; have hzy2 : w.heap.size + 2 < w1.heap.size := Nat.lt_of_lt_of_le (by first | (simp; done) | (simp; omega) | omega) ky3.size; have Ky5 := hid ky5; clear ky5) | (go_at_call 45; refine (made_any _ _ _ _ _ _ (by omega) ky1).mono ?_; rintro e w2 ⟨sgx, ax, nx, cx, fx, rfl, kx1, kx2, kx3, kx4, kx5, kx6, kx7⟩; obtain ⟨hcx, hfx⟩ := bcell kx3; have hzx0 : w.heap.size < w2.heap.size := Nat.lt_of_lt_of_le (by first | (simp; done) | (simp; omega) | omega) kx3.size; have hzx1 : w.heap.size + 1 < w2.heap.size := Nat.lt_of_lt_of_le (by first | (simp; done) | (simp; omega) | omega) kx3.size; have hzx2 : w.heap.size + 2 < w2.heap.size := Nat.lt_of_lt_of_le (by first | (simp; done) | (simp; omega) | omega) kx3.size; have Kx6 := hid kx6; have Kx5 := hid kx5; clear kx6 kx5))
    go_wp2
    exact bodyPost_ret (by simp [results, Tryd.results26, go_sem, hcx, hcy, hzy2]) rfl (ResI.out kx1 kx2 kx3 kx4 Kx5.out Kx6.out kx7 (((below_alloc3 w _ _ _).drew).trans (ky3.mono (by simp; omega))) (by omega) hzy2 (by rw [Ky5.out]; exact ival_mul false false _ _) (by omega) _ _)

set_option maxHeartbeats 1000000 in
theorem mul_false_true (a a' : Option Addr) (n c n' c' : Nat) (f g : Nat → Nat) (w : World) (hn : n ≤ 1099511627776) (hn' : n' ≤ 1099511627776) (hu : Us w a n c f) (hu' : Us w a' n' c' g) :
    Calls Tryd.prog 26 #[.agg #[.bool false, .slice a n c], .agg #[.bool true, .slice a' n' c']] w fun e w' => ResI w w' (ival false (val f n) * ival true (val g n')) (n + n') e := by
    go_enter Tryd.func26, Tryd.ntmps26
    go_wp2_with fail
    go_region_held3 (fun wx => wx.cell? ⟨w.heap.size, 0, none⟩ = some (.bool false) ∧ wx.cell? ⟨w.heap.size, 1, none⟩ = some (.slice a n c) ∧ wx.cell? ⟨w.heap.size + 1, 0, none⟩ = some (.bool true) ∧ wx.cell? ⟨w.heap.size + 1, 1, none⟩ = some (.slice a' n' c')) (refine ⟨?_, ?_, ?_, ?_⟩ <;> first | (go_keep; done) | (simp [*, go_sem]; done)) (first | (go_at_call 58; refine (natMul_any _ _ _ _ _ _ _ _ _ (by omega) (by omega) (hu.alloc3 _ _ _).drew (hu'.alloc3 _ _ _).drew).mono ?_; rintro e w1 ⟨ay, ny, cy, fy, rfl, ky1, ky2, ky3, ky4, ky5, ky6⟩; obtain ⟨hcy, hfy⟩ := bcell ky3; have hzy0 : w.heap.size < w1.heap.size := Nat.lt_of_lt_of_le (by first | (simp; done) | (simp; omega) | omega) ky3.size; have hzy1 : w.heap.size + 1 < w1.heap.size := Nat.lt_of_lt_of_le (by first | (simp; done) | (simp; omega) | omega) ky3.size; have hzy2 : w.heap.size + 2 < w1.heap.size := Nat.lt_of_lt_of_le (by first | (simp; done) | (simp; omega) | omega) ky3.size; have Ky5 := hid ky5; clear ky5) | (go_at_call 45; refine (made_any _ _ _ _ _ _ (by omega) ky1).mono ?_; rintro e w2 ⟨sgx, ax, nx, cx, fx, rfl, kx1, kx2, kx3, kx4, kx5, kx6, kx7⟩; obtain ⟨hcx, hfx⟩ := bcell kx3; have hzx0 : w.heap.size < w2.heap.size := Nat.lt_of_lt_of_le (by first | (simp; done) | (simp; omega) | omega) kx3.size; have hzx1 : w.heap.size + 1 < w2.heap.size := Nat.lt_of_lt_of_le (by first | (simp; done) | (simp; omega) | omega) kx3.size; have hzx2 : w.heap.size + 2 < w2.heap.size := Nat.lt_of_lt_of_le (by first | (simp; done) | (simp; omega) | omega) kx3.size; have Kx6 := hid kx6; have Kx5 := hid kx5; clear kx6 kx5))
    go_wp2
    exact bodyPost_ret (by simp [results, Tryd.results26, go_sem, hcx, hcy, hzy2]) rfl (ResI.out kx1 kx2 kx3 kx4 Kx5.out Kx6.out kx7 (((below_alloc3 w _ _ _).drew).trans (ky3.mono (by simp; omega))) (by omega) hzy2 (by rw [Ky5.out]; exact ival_mul false true _ _) (by omega) _ _)

set_option maxHeartbeats 1000000 in
theorem mul_true_false (a a' : Option Addr) (n c n' c' : Nat) (f g : Nat → Nat) (w : World) (hn : n ≤ 1099511627776) (hn' : n' ≤ 1099511627776) (hu : Us w a n c f) (hu' : Us w a' n' c' g) :
    Calls Tryd.prog 26 #[.agg #[.bool true, .slice a n c], .agg #[.bool false, .slice a' n' c']] w fun e w' => ResI w w' (ival true (val f n) * ival false (val g n')) (n + n') e := by
    go_enter Tryd.func26, Tryd.ntmps26
    go_wp2_with fail
    go_region_held3 (fun wx => wx.cell? ⟨w.heap.size, 0, none⟩ = some (.bool true) ∧ wx.cell? ⟨w.heap.size, 1, none⟩ = some (.slice a n c) ∧ wx.cell? ⟨w.heap.size + 1, 0, none⟩ = some (.bool false) ∧ wx.cell? ⟨w.heap.size + 1, 1, none⟩ = some (.slice a' n' c')) (refine ⟨?_, ?_, ?_, ?_⟩ <;> first | (go_keep; done) | (simp [*, go_sem]; done)) (first | (go_at_call 58; refine (natMul_any _ _ _ _ _ _ _ _ _ (by omega) (by omega) (hu.alloc3 _ _ _).drew (hu'.alloc3 _ _ _).drew).mono ?_; rintro e w1 ⟨ay, ny, cy, fy, rfl, ky1, ky2, ky3, ky4, ky5, ky6⟩; obtain ⟨hcy, hfy⟩ := bcell ky3; have hzy0 : w.heap.size < w1.heap.size := Nat.lt_of_lt_of_le (by first | (simp; done) | (simp; omega) | omega) ky3.size; have hzy1 : w.heap.size + 1 < w1.heap.size := Nat.lt_of_lt_of_le (by first | (simp; done) | (simp; omega) | omega) ky3.size; have hzy2 : w.heap.size + 2 < w1.heap.size := Nat.lt_of_lt_of_le (by first | (simp; done) | (simp; omega) | omega) ky3.size; have Ky5 := hid ky5; clear ky5) | (go_at_call 45; refine (made_any _ _ _ _ _ _ (by omega) ky1).mono ?_; rintro e w2 ⟨sgx, ax, nx, cx, fx, rfl, kx1, kx2, kx3, kx4, kx5, kx6, kx7⟩; obtain ⟨hcx, hfx⟩ := bcell kx3; have hzx0 : w.heap.size < w2.heap.size := Nat.lt_of_lt_of_le (by first | (simp; done) | (simp; omega) | omega) kx3.size; have hzx1 : w.heap.size + 1 < w2.heap.size := Nat.lt_of_lt_of_le (by first | (simp; done) | (simp; omega) | omega) kx3.size; have hzx2 : w.heap.size + 2 < w2.heap.size := Nat.lt_of_lt_of_le (by first | (simp; done) | (simp; omega) | omega) kx3.size; have Kx6 := hid kx6; have Kx5 := hid kx5; clear kx6 kx5))
    go_wp2
    exact bodyPost_ret (by simp [results, Tryd.results26, go_sem, hcx, hcy, hzy2]) rfl (ResI.out kx1 kx2 kx3 kx4 Kx5.out Kx6.out kx7 (((below_alloc3 w _ _ _).drew).trans (ky3.mono (by simp; omega))) (by omega) hzy2 (by rw [Ky5.out]; exact ival_mul true false _ _) (by omega) _ _)

set_option maxHeartbeats 1000000 in
theorem mul_true_true (a a' : Option Addr) (n c n' c' : Nat) (f g : Nat → Nat) (w : World) (hn : n ≤ 1099511627776) (hn' : n' ≤ 1099511627776) (hu : Us w a n c f) (hu' : Us w a' n' c' g) :
    Calls Tryd.prog 26 #[.agg #[.bool true, .slice a n c], .agg #[.bool true, .slice a' n' c']] w fun e w' => ResI w w' (ival true (val f n) * ival true (val g n')) (n + n') e := by
    go_enter Tryd.func26, Tryd.ntmps26
    go_wp2_with fail
    go_region_held3 (fun wx => wx.cell? ⟨w.heap.size, 0, none⟩ = some (.bool true) ∧ wx.cell? ⟨w.heap.size, 1, none⟩ = some (.slice a n c) ∧ wx.cell? ⟨w.heap.size + 1, 0, none⟩ = some (.bool true) ∧ wx.cell? ⟨w.heap.size + 1, 1, none⟩ = some (.slice a' n' c')) (refine ⟨?_, ?_, ?_, ?_⟩ <;> first | (go_keep; done) | (simp [*, go_sem]; done)) (first | (go_at_call 58; refine (natMul_any _ _ _ _ _ _ _ _ _ (by omega) (by omega) (hu.alloc3 _ _ _).drew (hu'.alloc3 _ _ _).drew).mono ?_; rintro e w1 ⟨ay, ny, cy, fy, rfl, ky1, ky2, ky3, ky4, ky5, ky6⟩; obtain ⟨hcy, hfy⟩ := bcell ky3; have hzy0 : w.heap.size < w1.heap.size := Nat.lt_of_lt_of_le (by first | (simp; done) | (simp; omega) | omega) ky3.size; have hzy1 : w.heap.size + 1 < w1.heap.size := Nat.lt_of_lt_of_le (by first | (simp; done) | (simp; omega) | omega) ky3.size; have hzy2 : w.heap.size + 2 < w1.heap.size := Nat.lt_of_lt_of_le (by first | (simp; done) | (simp; omega) | omega) ky3.size; have Ky5 := hid ky5; clear ky5) | (go_at_call 45; refine (made_any _ _ _ _ _ _ (by omega) ky1).mono ?_; rintro e w2 ⟨sgx, ax, nx, cx, fx, rfl, kx1, kx2, kx3, kx4, kx5, kx6, kx7⟩; obtain ⟨hcx, hfx⟩ := bcell kx3; have hzx0 : w.heap.size < w2.heap.size := Nat.lt_of_lt_of_le (by first | (simp; done) | (simp; omega) | omega) kx3.size; have hzx1 : w.heap.size + 1 < w2.heap.size := Nat.lt_of_lt_of_le (by first | (simp; done) | (simp; omega) | omega) kx3.size; have hzx2 : w.heap.size + 2 < w2.heap.size := Nat.lt_of_lt_of_le (by first | (simp; done) | (simp; omega) | omega) kx3.size; have Kx6 := hid kx6; have Kx5 := hid kx5; clear kx6 kx5))
    go_wp2
    exact bodyPost_ret (by simp [results, Tryd.results26, go_sem, hcx, hcy, hzy2]) rfl (ResI.out kx1 kx2 kx3 kx4 Kx5.out Kx6.out kx7 (((below_alloc3 w _ _ _).drew).trans (ky3.mono (by simp; omega))) (by omega) hzy2 (by rw [Ky5.out]; exact ival_mul true true _ _) (by omega) _ _)

theorem add_any (neg neg' : Bool) (a a' : Option Addr) (n c n' c' : Nat) (f g : Nat → Nat) (w : World) (hn : n ≤ 1099511627776) (hn' : n' ≤ 1099511627776) (hu : Us w a n c f) (hu' : Us w a' n' c' g) :
    Calls Tryd.prog 24 #[.agg #[.bool neg, .slice a n c], .agg #[.bool neg', .slice a' n' c']] w fun e w' => ResI w w' (ival neg (val f n) + ival neg' (val g n')) (max n n' + 1) e := by
  by_cases hlt : val f n < val g n'
  · cases neg <;> cases neg'
    · exact add_same_false _ _ _ _ _ _ _ _ _ hn hn' hu hu'
    · exact add_diff_false_lt _ _ _ _ _ _ _ _ _ hn hn' hu hu' hlt
    · exact add_diff_true_lt _ _ _ _ _ _ _ _ _ hn hn' hu hu' hlt
    · exact add_same_true _ _ _ _ _ _ _ _ _ hn hn' hu hu'
  · cases neg <;> cases neg'
    · exact add_same_false _ _ _ _ _ _ _ _ _ hn hn' hu hu'
    · exact add_diff_false_ge _ _ _ _ _ _ _ _ _ hn hn' hu hu' (by omega)
    · exact add_diff_true_ge _ _ _ _ _ _ _ _ _ hn hn' hu hu' (by omega)
    · exact add_same_true _ _ _ _ _ _ _ _ _ hn hn' hu hu'
theorem mul_any (neg neg' : Bool) (a a' : Option Addr) (n c n' c' : Nat) (f g : Nat → Nat) (w : World) (hn : n ≤ 1099511627776) (hn' : n' ≤ 1099511627776) (hu : Us w a n c f) (hu' : Us w a' n' c' g) :
    Calls Tryd.prog 26 #[.agg #[.bool neg, .slice a n c], .agg #[.bool neg', .slice a' n' c']] w fun e w' => ResI w w' (ival neg (val f n) * ival neg' (val g n')) (n + n') e := by
  cases neg <;> cases neg'
  · exact mul_false_false _ _ _ _ _ _ _ _ _ hn hn' hu hu'
  · exact mul_false_true _ _ _ _ _ _ _ _ _ hn hn' hu hu'
  · exact mul_true_false _ _ _ _ _ _ _ _ _ hn hn' hu hu'
  · exact mul_true_true _ _ _ _ _ _ _ _ _ hn hn' hu hu'
end Go.Proofs.YticfggljaagcmaaDoor
