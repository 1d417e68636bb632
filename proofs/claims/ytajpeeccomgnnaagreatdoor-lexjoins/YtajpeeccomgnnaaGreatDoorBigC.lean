/-
  Big integers, the part that the lexer reaches: what stands in the claims of chapter 01, turned to this seat by program.
-/
import Derived.Test.YtajpeeccomgnnaaGreatDoorBigB
namespace Go.Proofs.YtajpeeccomgnnaaGreatDoor
set_option linter.all false
open Go Go.RowKit
/-! DivMod -/
/-- A box of two cells. -/
structure Bx (wx : World) (b : Nat) (x0 x1 : Value) : Prop where
  lt : b < wx.heap.size
  c0 : wx.cell? ⟨b, 0, none⟩ = some x0
  c1 : wx.cell? ⟨b, 1, none⟩ = some x1
  fr : ∀ o, wx.frozen? ⟨b, o, none⟩ = false
theorem Bx.keep {wx wy : World} {b : Nat} {x0 x1 : Value} (k : Bx wx b x0 x1) (hb : Below wx.heap.size wx wy) : Bx wy b x0 x1 :=
  ⟨Nat.lt_of_lt_of_le k.lt hb.size, (hb.cell (p := ⟨b, 0, none⟩) k.lt).trans k.c0, (hb.cell (p := ⟨b, 1, none⟩) k.lt).trans k.c1, fun o => (hb.frozen (p := ⟨b, o, none⟩) k.lt).trans (k.fr o)⟩
theorem Bx.made (w : World) (x0 x1 : Value) (T : TypeId) : Bx (w.alloc (.cells #[x0, x1] T)) w.heap.size x0 x1 :=
  ⟨by simp, by simp [go_sem], by simp [go_sem], fun o => by simp [go_sem]⟩
theorem Bx.alloc {wx : World} {b : Nat} {x0 x1 : Value} (k : Bx wx b x0 x1) (o : Obj) : Bx (wx.alloc o) b x0 x1 := k.keep (below_alloc wx o)
theorem Bx.drew {wx : World} {b : Nat} {x0 x1 : Value} (k : Bx wx b x0 x1) : Bx wx.drew b x0 x1 := ⟨k.lt, k.c0, k.c1, k.fr⟩
theorem Bx.set {wx : World} {b : Nat} {x0 x1 : Value} (k : Bx wx b x0 x1) (y0 y1 : Value) : Bx ((wx.setCell ⟨b, 0, none⟩ y0).setCell ⟨b, 1, none⟩ y1) b y0 y1 :=
  ⟨by simpa using k.lt, by simp [go_sem, k.c0], by simp [go_sem, k.c1], fun o => by simp [k.fr o]⟩
theorem Bx.other {wx : World} {b : Nat} {x0 x1 : Value} (k : Bx wx b x0 x1) {p : Addr} (hp : p.block ≠ b) (y : Value) : Bx (wx.setCell p y) b x0 x1 :=
  ⟨by simpa using k.lt, (World.cell?_setCell_other _ _ _ _ (by intro h; subst h; exact hp rfl)).trans k.c0, (World.cell?_setCell_other _ _ _ _ (by intro h; subst h; exact hp rfl)).trans k.c1, fun o => by simpa using k.fr o⟩
/-- Four boxes, the first blocks that a call makes. -/
structure Bx4 (w wx : World) (x0 x1 y0 y1 z0 z1 u0 u1 : Value) : Prop where
  a : Bx wx w.heap.size x0 x1
  b : Bx wx (w.heap.size + 1) y0 y1
  c : Bx wx (w.heap.size + 1 + 1) z0 z1
  d : Bx wx (w.heap.size + 1 + 1 + 1) u0 u1
theorem Bx4.keep {w wx wy : World} {x0 x1 y0 y1 z0 z1 u0 u1 : Value} (k : Bx4 w wx x0 x1 y0 y1 z0 z1 u0 u1) (hb : Below wx.heap.size wx wy) : Bx4 w wy x0 x1 y0 y1 z0 z1 u0 u1 := ⟨k.a.keep hb, k.b.keep hb, k.c.keep hb, k.d.keep hb⟩
theorem Bx4.drew {w wx : World} {x0 x1 y0 y1 z0 z1 u0 u1 : Value} (k : Bx4 w wx x0 x1 y0 y1 z0 z1 u0 u1) : Bx4 w wx.drew x0 x1 y0 y1 z0 z1 u0 u1 := ⟨k.a.drew, k.b.drew, k.c.drew, k.d.drew⟩
theorem Bx4.made (w : World) (x0 x1 y0 y1 z0 z1 u0 u1 : Value) (T : TypeId) : Bx4 w ((((w.alloc (.cells #[x0, x1] T)).alloc (.cells #[y0, y1] T)).alloc (.cells #[z0, z1] T)).alloc (.cells #[u0, u1] T)) x0 x1 y0 y1 z0 z1 u0 u1 :=
  ⟨(((Bx.made w x0 x1 T).alloc _).alloc _).alloc _, by simpa using ((Bx.made (w.alloc (.cells #[x0, x1] T)) y0 y1 T).alloc _).alloc _, by simpa using (Bx.made ((w.alloc (.cells #[x0, x1] T)).alloc (.cells #[y0, y1] T)) z0 z1 T).alloc _, by simpa using Bx.made (((w.alloc (.cells #[x0, x1] T)).alloc (.cells #[y0, y1] T)).alloc (.cells #[z0, z1] T)) u0 u1 T⟩
theorem Bx4.put {w wx : World} {x0 x1 y0 y1 z0 z1 u0 u1 : Value} (k : Bx4 w wx x0 x1 y0 y1 z0 z1 u0 u1) (p0 p1 q0 q1 : Value) :
    Bx4 w ((((wx.setCell ⟨w.heap.size, 0, none⟩ p0).setCell ⟨w.heap.size, 1, none⟩ p1).setCell ⟨w.heap.size + 1, 0, none⟩ q0).setCell ⟨w.heap.size + 1, 1, none⟩ q1) p0 p1 q0 q1 z0 z1 u0 u1 :=
  ⟨((k.a.set _ _).other (by first | (simp; done) | (simp; omega)) _).other (by first | (simp; done) | (simp; omega)) _, ((k.b.other (by first | (simp; done) | (simp; omega)) _).other (by first | (simp; done) | (simp; omega)) _).set _ _,
   (((k.c.other (by first | (simp; done) | (simp; omega)) _).other (by first | (simp; done) | (simp; omega)) _).other (by first | (simp; done) | (simp; omega)) _).other (by first | (simp; done) | (simp; omega)) _, (((k.d.other (by first | (simp; done) | (simp; omega)) _).other (by first | (simp; done) | (simp; omega)) _).other (by first | (simp; done) | (simp; omega)) _).other (by first | (simp; done) | (simp; omega)) _⟩
theorem New.drew {w : World} {base : Nat} {a : Option Addr} {c : Nat} (k : New w base a c) : New w.drew base a c := k
/-- Two slices lie in two blocks. -/
def Ap (a : Option Addr) (c : Nat) (a' : Option Addr) (c' : Nat) : Prop := ∀ b off b' off', a = some ⟨b, off, none⟩ → a' = some ⟨b', off', none⟩ → 0 < c → 0 < c' → b < b'
/-- Two integers as they should stand, in the first two boxes. -/
def Two (w wx : World) (X Y : Int) (L L' : Nat) : Prop :=
  ∃ sg a n c f sg' a' n' c' f', Bx4 w wx (.bool sg) (.slice a n c) (.bool sg') (.slice a' n' c') (.bool false) (.slice none 0 0) (.bool false) (.slice none 0 0) ∧ Us wx a n c f ∧ Us wx a' n' c' f' ∧ Nm f n ∧ Nm f' n' ∧ Hid (ival sg (val f n) = X) ∧ Hid (ival sg' (val f' n') = Y) ∧ n ≤ L ∧ n' ≤ L' ∧ (Below w.heap.size w wx ∧ New wx (w.heap.size + 1 + 1 + 1 + 1) a c ∧ New wx (w.heap.size + 1 + 1 + 1 + 1) a' c')
/-- The two answers before they are mended, in the last two boxes. -/
def Four (w wx : World) (sg1 : Bool) (a1 : Option Addr) (n1 c1 : Nat) (sg2 : Bool) (a2 : Option Addr) (n2 c2 : Nat) (f2 : Nat → Nat) (x y L L' : Nat) : Prop :=
  ∃ sgq aq nq cq fq sgr ar nr cr fr, Bx4 w wx (.bool sg1) (.slice a1 n1 c1) (.bool sg2) (.slice a2 n2 c2) (.bool sgq) (.slice aq nq cq) (.bool sgr) (.slice ar nr cr) ∧ Us wx a2 n2 c2 f2 ∧ Us wx aq nq cq fq ∧ Us wx ar nr cr fr ∧
    Nm fq nq ∧ Hid (nq = 0 → sgq = false) ∧ Nm fr nr ∧ Hid (nr = 0 → sgr = false) ∧ Hid (ival sgq (val fq nq) = ival (sg1 != sg2) x) ∧ Hid (ival sgr (val fr nr) = ival sg1 y) ∧ nq ≤ L ∧ nr ≤ L' ∧ (Below w.heap.size w wx ∧ New wx (w.heap.size + 1 + 1 + 1 + 1) aq cq ∧ New wx (w.heap.size + 1 + 1 + 1 + 1) ar cr ∧ New wx (w.heap.size + 1 + 1 + 1 + 1) a2 c2 ∧ Ap aq cq ar cr)
/-! RCmp -/
theorem cmpN_step {F G : Nat → Nat} {k : Nat} (hF : Lm F (k + 1)) (hG : Lm G (k + 1)) :
    (F k < G k → cmpN (val F (k + 1)) (val G (k + 1)) = -1) ∧ (G k < F k → cmpN (val F (k + 1)) (val G (k + 1)) = 1) ∧ (F k = G k → cmpN (val F (k + 1)) (val G (k + 1)) = cmpN (val F k) (val G k)) := by
  have h1 := val_lt (hF.mono (Nat.le_succ k))
  have h2 := val_lt (hG.mono (Nat.le_succ k))
  refine ⟨fun h => cmpN_lt ?_, fun h => cmpN_gt ?_, fun h => ?_⟩
  · rw [val_succ, val_succ]
    have : (F k + 1) * pw k ≤ G k * pw k := Nat.mul_le_mul_right _ h
    rw [Nat.succ_mul] at this; omega
  · rw [val_succ, val_succ]
    have : (G k + 1) * pw k ≤ F k * pw k := Nat.mul_le_mul_right _ h
    rw [Nat.succ_mul] at this; omega
  · rw [val_succ, val_succ, h]
    unfold cmpN
    simp
theorem ex_lm {f : Nat → Nat} {n m : Nat} (h : Lm f n) : Lm (ex f n) m := fun i _ => by
  unfold ex
  split
  · exact h i (by assumption)
  · omega
set_option maxHeartbeats 1000000 in
theorem rnatCmp_any (a a' : Option Addr) (n c n' c' : Nat) (f g : Nat → Nat) (w : World) (hn : n ≤ 4398046511104) (hn' : n' ≤ 4398046511104) (hu : Us w a n c f) (hu' : Us w a' n' c' g) :
    Calls Tryz.prog 22 #[.slice a n c, .slice a' n' c'] w fun e w' => e = .returned (.int .i64 (cmpN (val f n) (val g n'))) ∧ w' = w := by
  have e1 := hid (ex_val (g := f) (show n ≤ max n n' by omega))
  have e2 := hid (ex_val (g := g) (show n' ≤ max n n' by omega))
  have lF : ∀ m, Lm (ex f n) m := fun m => ex_lm (hu.lm.mono hu.le)
  have lG : ∀ m, Lm (ex g n') m := fun m => ex_lm (hu'.lm.mono hu'.le)
  generalize hM : max n n' = M at e1 e2
  go_enter Tryz.func22, Tryz.ntmps22
  go_wp2
  go_loop [5, 6] (fun ov iv => ∃ k : Nat, k ≤ M ∧ iv = .int .i64 k ∧ ov = .int .i64 (cmpN (val (ex f n) k) (val (ex g n') k))) (fun _ iv => M - (intOf iv).toNat)
  case atStart => exact ⟨0, Nat.zero_le _, rfl, rfl⟩
  case round =>
    obtain ⟨k, hk, rfl, rfl⟩ := hrel
    by_cases h0 : k < M
    · have hs := cmpN_step (lF (k + 1)) (lG (k + 1))
      rcases Nat.lt_trichotomy (ex f n k) (ex g n' k) with hc | hc | hc
      · have hr := hid (hs.1 hc)
        clear hs
        generalize hx : ex f n k = x at hc
        generalize hy : ex g n' k = y at hc
        have hng : ¬ y < x := by omega
        by_cases hkn : k < n
        all_goals
          go_wp2_with (go_at_call 50; refine (at_any _ _ _ _ _ _ (by omega) (by first | exact hu | exact hu')).mono ?_; rintro e w' ⟨rfl, rfl⟩; try rw [hx]; try rw [hy])
          refine ⟨⟨k + 1, by omega, by congr 1, by rw [hr.out]⟩, by simp [intOf]; omega⟩
      · have hr := hid (hs.2.2 hc)
        clear hs
        generalize hx : ex f n k = x
        have hy := hc.symm.trans hx; clear hc
        by_cases hkn : k < n
        all_goals
          go_wp2_with (go_at_call 50; refine (at_any _ _ _ _ _ _ (by omega) (by first | exact hu | exact hu')).mono ?_; rintro e w' ⟨rfl, rfl⟩; try rw [hx]; try rw [hy])
          refine ⟨⟨k + 1, by omega, by congr 1, by rw [hr.out]⟩, by simp [intOf]; omega⟩
      · have hr := hid (hs.2.1 hc)
        clear hs
        generalize hx : ex f n k = x at hc
        generalize hy : ex g n' k = y at hc
        have hng : ¬ x < y := by omega
        by_cases hkn : k < n
        all_goals
          go_wp2_with (go_at_call 50; refine (at_any _ _ _ _ _ _ (by omega) (by first | exact hu | exact hu')).mono ?_; rintro e w' ⟨rfl, rfl⟩; try rw [hx]; try rw [hy])
          refine ⟨⟨k + 1, by omega, by congr 1, by rw [hr.out]⟩, by simp [intOf]; omega⟩
    · have hkM : k = M := by omega
      subst hkM
      have hn1 : ¬ k < n := by omega
      have hn2 : ¬ k < n' := by omega
      go_wp2
      go_ret
      exact ⟨by rw [e1.out, e2.out]; rfl, rfl⟩
/-! RDiv -/
def Stopped (p : Prop) : Prop := p
theorem stopped {p : Prop} (h : Stopped p) : p := h
/-! RInts1 -/
set_option maxHeartbeats 1000000 in
theorem rnorm_any (neg : Bool) (a : Option Addr) (n c : Nat) (f : Nat → Nat) (w : World) (hn : n ≤ 4398046511104) (hu : Us w a n c f) :
    Calls Tryz.prog 49 #[.agg #[.bool neg, .slice a n c]] w fun e w' => ResI w w' (ival neg (val f n)) n e := by
  cases neg
  all_goals
    go_enter Tryz.func49, Tryz.ntmps49
    go_wp2_with (go_at_call 67; refine (rtrim_any _ _ _ _ _ (by omega) ((hu.alloc _).alloc _)).mono ?_; rintro e w1 ⟨ax, nx, cx, fx, rfl, kx1, kx2, kx3, kx4, kx5, kx6⟩; obtain ⟨hcx, hfx⟩ := bcell kx3; have hzx0 : w.heap.size < w1.heap.size := Nat.lt_of_lt_of_le (by first | (simp; done) | (simp; omega) | omega) kx3.size; have hzx1 : w.heap.size + 1 < w1.heap.size := Nat.lt_of_lt_of_le (by first | (simp; done) | (simp; omega) | omega) kx3.size)
    refine bodyPost_ret (by simp [results, Tryz.results49, go_sem, hcx]; rfl) rfl (ResI.out kx1 kx2 kx3 kx4 ?_ ?_ kx6 (below_alloc2 w _ _) (by simp) (by simp) rfl (Nat.le_refl _) _ _)
  · intro _; rfl
  · rw [kx5.out]
  · intro e; subst e; rfl
  · rw [← kx5.out]
    by_cases e : 0 < nx
    · simp [e]
    · have : nx = 0 := by omega
      subst this
      simp [ival, val]
set_option maxHeartbeats 1000000 in
theorem rneg_any (neg : Bool) (a : Option Addr) (n c : Nat) (f : Nat → Nat) (w : World) (hn : n ≤ 4398046511104) (hu : Us w a n c f) :
    Calls Tryz.prog 62 #[.agg #[.bool neg, .slice a n c]] w fun e w' => ResI w w' (-ival neg (val f n)) n e := by
  go_enter Tryz.func62, Tryz.ntmps62
  go_wp2_with (go_at_call 49; refine (rnorm_any _ _ _ _ _ _ (by omega) ((hu.alloc _).alloc _)).mono ?_; rintro e w1 ⟨sgx, ax, nx, cx, fx, rfl, kx1, kx2, kx3, kx4, kx5, kx6, kx7⟩; obtain ⟨hcx, hfx⟩ := bcell kx3; have hzx0 : w.heap.size < w1.heap.size := Nat.lt_of_lt_of_le (by first | (simp; done) | (simp; omega) | omega) kx3.size; have hzx1 : w.heap.size + 1 < w1.heap.size := Nat.lt_of_lt_of_le (by first | (simp; done) | (simp; omega) | omega) kx3.size; have Kx6 := hid kx6; have Kx5 := hid kx5; clear kx6 kx5)
  exact bodyPost_ret (by simp [results, Tryz.results62, go_sem, hcx]) rfl (ResI.out kx1 kx2 kx3 kx4 Kx5.out Kx6.out kx7 (below_alloc2 w _ _) (by simp) (by simp) (ival_not _ _) (Nat.le_refl _) _ _)
set_option maxHeartbeats 1000000 in
theorem rsign_any (neg : Bool) (a : Option Addr) (n c : Nat) (f : Nat → Nat) (w : World) (hn : n ≤ 4398046511104) (hu : Us w a n c f) :
    Calls Tryz.prog 21 #[.agg #[.bool neg, .slice a n c]] w fun e w' => ResN w w' .i64 (sgn (ival neg (val f n))) e := by
  go_enter Tryz.func21, Tryz.ntmps21
  go_wp2_with fail
  refine (rnorm_any _ _ _ _ _ _ (by omega) (hu.alloc _)).mono ?_
  rintro e w1 ⟨sgx, ax, nx, cx, fx, rfl, kx1, kx2, kx3, kx4, kx5, kx6, kx7⟩
  obtain ⟨r0, r1, r2, r3, r4⟩ := new2 kx3
  have hb : Below w.heap.size w w1 := (below_alloc w _).trans (kx3.mono (by simp))
  have K6 := hid kx6
  have K5 := hid kx5
  clear kx6 kx5
  have hbs := hb.size
  by_cases h0 : nx = 0
  · subst h0
    have := K5.out rfl
    subst this
    go_wp2
    go_ret
    refine ⟨?_, hb.alloc hbs _⟩
    rw [← K6.out]; simp [ival, val, sgn]
  · have hv : 0 < val fx nx := by rcases Nat.eq_zero_or_pos (val fx nx) with h | h
                                  · exact absurd (kx4.zero.1 h) h0
                                  · exact h
    have hne : ¬ (nx : Int) = 0 := by omega
    cases sgx
    all_goals
      go_wp2
      go_ret
      refine ⟨?_, hb.alloc hbs _⟩
      rw [← K6.out]
      unfold sgn ival
      simp only [Bool.false_eq_true, if_false, if_true]
      first
        | (rw [if_neg (by omega), if_pos (by omega)])
        | (rw [if_pos (by omega)])
      try rfl
theorem Nm.of_val {f g : Nat → Nat} {n : Nat} (hf : Lm f n) (hg : Nm g n) (h : val g n = val f n) : Nm f n := by
  cases n with
  | zero => exact .inl rfl
  | succ n =>
    right
    intro e
    simp at e
    have h1 := hg.ge
    rw [h, val_succ, e] at h1
    have h2 := val_lt (hf.mono (Nat.le_succ n))
    omega
theorem ival_abs {s t : Bool} {x y : Nat} (h : ival s x = ival t y) : x = y := by
  cases s <;> cases t <;> simp [ival] at h <;> omega
theorem ival_sg {s t : Bool} {x y : Nat} (h : ival s x = ival t y) (hx : 0 < x) : s = t := by
  cases s <;> cases t <;> simp [ival] at h <;> first | rfl | omega
theorem stB_norm {sg neg : Bool} {fx f : Nat → Nat} {nx n : Nat} (lx : Lm fx nx) (lf : Lm f n) (hm : Nm fx nx) (h0 : nx = 0 → sg = false) (h : ival sg (val fx nx) = ival neg (val f n)) :
    stB neg f n = decide (sg = neg ∧ nx = n) := by
  have e := ival_abs h
  have key : stB neg f n = true ↔ (sg = neg ∧ nx = n) := by
    rw [stB_iff]
    constructor
    · rintro ⟨k1, k2⟩
      have e1 : nx = n := Nat.le_antisymm (hm.few (by rw [e]; exact val_lt lf)) (k1.few (by rw [← e]; exact val_lt lx))
      refine ⟨?_, e1⟩
      by_cases hz : nx = 0
      · rw [h0 hz, k2 (by omega)]
      · exact ival_sg h (by rcases Nat.eq_zero_or_pos (val fx nx) with q | q
                            · exact absurd (hm.zero.1 q) hz
                            · exact q)
    · rintro ⟨rfl, rfl⟩
      exact ⟨Nm.of_val lf hm e, h0⟩
  cases hq : stB neg f n
  · have : ¬ (sg = neg ∧ nx = n) := fun k => by rw [key.2 k] at hq; cases hq
    rw [decide_eq_false this]
  · rw [decide_eq_true (key.1 hq)]
set_option maxHeartbeats 1000000 in
theorem rvalid_any (neg : Bool) (a : Option Addr) (n c : Nat) (f : Nat → Nat) (w : World) (hn : n ≤ 4398046511104) (hu : Us w a n c f) :
    Calls Tryz.prog 46 #[.agg #[.bool neg, .slice a n c]] w fun e w' => e = .returned (.bool (stB neg f n)) ∧ Below w.heap.size w w' := by
  have lf := hu.lm.mono hu.le
  go_enter Tryz.func46, Tryz.ntmps46
  go_wp2_with fail
  refine (rnorm_any _ _ _ _ _ _ (by omega) (hu.alloc _)).mono ?_
  rintro e w1 ⟨sgx, ax, nx, cx, fx, rfl, kx1, kx2, kx3, kx4, kx5, kx6, kx7⟩
  obtain ⟨r0, r1, r2, r3, r4⟩ := new2 kx3
  have hb : Below w.heap.size w w1 := (below_alloc w _).trans (kx3.mono (by simp))
  have HST := hid (stB_norm (kx1.lm.mono kx1.le) lf kx4 kx5 kx6)
  clear kx6 kx5
  have hbs := hb.size
  by_cases hs : sgx = neg
  · by_cases he : nx = n
    · subst hs; subst he
      have HE := hid (HST.out.trans (decide_eq_true ⟨rfl, rfl⟩))
      cases sgx
      all_goals
        go_wp2
        go_ret
        exact ⟨by rw [HE.out]; rfl, hb.alloc hbs _⟩
    · subst hs
      have hq : ¬ (nx : Int) = (n : Int) := by omega
      have HE := hid (HST.out.trans (decide_eq_false (fun k => he k.2)))
      cases sgx
      all_goals
        go_wp2
        go_ret
        exact ⟨by rw [HE.out]; simp [hq]; done, hb.alloc hbs _⟩
  · have HE := hid (HST.out.trans (decide_eq_false (fun k => hs k.1)))
    cases sgx <;> cases neg
    all_goals first
      | exact absurd rfl hs
      | (clear hs
         go_wp2
         go_ret
         exact ⟨by rw [HE.out]; rfl, hb.alloc hbs _⟩)
/-! RInts3 -/
theorem neg_cmpN (x y : Nat) : -cmpN x y = cmpN y x := by
  unfold cmpN
  rcases Nat.lt_trichotomy x y with h | h | h
  · rw [if_pos h, if_neg (by omega), if_pos h]; rfl
  · rw [if_neg (by omega), if_neg (by omega), if_neg (by omega), if_neg (by omega)]; rfl
  · rw [if_neg (by omega), if_pos h, if_pos h]
set_option maxHeartbeats 2000000 in
theorem rcmp_any (neg neg' : Bool) (a a' : Option Addr) (n c n' c' : Nat) (f g : Nat → Nat) (w : World) (hn : n ≤ 1099511627776) (hn' : n' ≤ 1099511627776) (hu : Us w a n c f) (hu' : Us w a' n' c' g) :
    Calls Tryz.prog 13 #[.agg #[.bool neg, .slice a n c], .agg #[.bool neg', .slice a' n' c']] w fun e w' => ResN w w' .i64 (cmpI (ival neg (val f n)) (ival neg' (val g n'))) e := by
    have tok : True := trivial
    go_enter Tryz.func13, Tryz.ntmps13
    go_wp2_with (first | (have _t := tok; go_at_call 21; refine (rsign_any _ _ _ _ _ _ (by omega) (hu.alloc2 _ _)).mono ?_; rintro e w1 ⟨rfl, ky3⟩; obtain ⟨hcy, hfy⟩ := bcell ky3; have hzy0 : w.heap.size < w1.heap.size := Nat.lt_of_lt_of_le (by first | (simp; done) | (simp; omega) | omega) ky3.size; have hzy1 : w.heap.size + 1 < w1.heap.size := Nat.lt_of_lt_of_le (by first | (simp; done) | (simp; omega) | omega) ky3.size; clear tok) | (go_at_call 21; refine (rsign_any _ _ _ _ _ _ (by omega) ((hu'.alloc2 _ _).below ky3 (Nat.le_refl _))).mono ?_; rintro e w2 ⟨rfl, kx3⟩; obtain ⟨hcx, hfx⟩ := bcell kx3; have hzx0 : w.heap.size < w2.heap.size := Nat.lt_of_lt_of_le (by first | (simp; done) | (simp; omega) | omega) kx3.size; have hzx1 : w.heap.size + 1 < w2.heap.size := Nat.lt_of_lt_of_le (by first | (simp; done) | (simp; omega) | omega) kx3.size; refine stopped ?_))
    unfold Stopped
    have k2 : Below w.heap.size w w2 := (((below_alloc w _).trans ((below_alloc _ _).mono (by simp))).trans (ky3.mono (by simp; omega))).trans (kx3.mono (by omega))
    have u1 := ((hu.alloc2 (.cells #[.bool neg, .slice a n c] 35) (.cells #[.bool neg', .slice a' n' c'] 35)).below ky3 (Nat.le_refl _)).below kx3 (Nat.le_refl _)
    have u2 := ((hu'.alloc2 (.cells #[.bool neg, .slice a n c] 35) (.cells #[.bool neg', .slice a' n' c'] 35)).below ky3 (Nat.le_refl _)).below kx3 (Nat.le_refl _)
    rcases Int.lt_trichotomy (ival neg (val f n)) 0 with hX | hX | hX <;> rcases Int.lt_trichotomy (ival neg' (val g n')) 0 with hY | hY | hY
    · have e1 : neg = true := by cases neg; · simp [ival] at hX; omega
                                 · rfl
      have e2 : neg' = true := by cases neg'; · simp [ival] at hY; omega
                                  · rfl
      rw [sgn_neg hX, sgn_neg hY]
      have e3 := hid (And.intro e1 e2)
      clear hX hY e1 e2
      have fin : Hid (∀ z, z = cmpN (val f n) (val g n') → -z = cmpI (ival neg (val f n)) (ival neg' (val g n'))) := by
        obtain ⟨rfl, rfl⟩ := e3.out
        exact hid (fun z hz => by rw [hz, neg_cmpN]; exact cmpN_down rfl)
      clear e3
      rcases Nat.lt_trichotomy (val f n) (val g n') with hc | hc | hc
      · have HC := hid (cmpN_lt hc)
        clear hc
        go_wp2_with (go_at_call 22; refine (rnatCmp_any _ _ _ _ _ _ _ _ _ (by omega) (by omega) u1 u2).mono ?_; rintro e w3 ⟨rfl, hw⟩; obtain rfl := hw.symm; rw [HC.out])
        go_ret
        exact ⟨by rw [← fin.out _ HC.out.symm]; rfl, k2⟩
      · have HC := hid (cmpN_eq hc)
        clear hc
        go_wp2_with (go_at_call 22; refine (rnatCmp_any _ _ _ _ _ _ _ _ _ (by omega) (by omega) u1 u2).mono ?_; rintro e w3 ⟨rfl, hw⟩; obtain rfl := hw.symm; rw [HC.out])
        go_ret
        exact ⟨by rw [← fin.out _ HC.out.symm]; rfl, k2⟩
      · have HC := hid (cmpN_gt hc)
        clear hc
        go_wp2_with (go_at_call 22; refine (rnatCmp_any _ _ _ _ _ _ _ _ _ (by omega) (by omega) u1 u2).mono ?_; rintro e w3 ⟨rfl, hw⟩; obtain rfl := hw.symm; rw [HC.out])
        go_ret
        exact ⟨by rw [← fin.out _ HC.out.symm]; rfl, k2⟩
    · rw [sgn_neg hX, hY, sgn_zero]; have HH := hid (And.intro hX hY); clear hX hY; go_wp2; go_ret; exact ⟨by obtain ⟨hX, hY⟩ := HH.out; rw [cmpI_lt (by omega)]; rfl, k2⟩
    · rw [sgn_neg hX, sgn_pos hY]; have HH := hid (And.intro hX hY); clear hX hY; go_wp2; go_ret; exact ⟨by obtain ⟨hX, hY⟩ := HH.out; rw [cmpI_lt (by omega)]; rfl, k2⟩
    · rw [hX, sgn_neg hY, sgn_zero]; have HH := hid (And.intro hX hY); clear hX hY; go_wp2; go_ret; exact ⟨by obtain ⟨hX, hY⟩ := HH.out; rw [cmpI_gt (by omega)]; rfl, k2⟩
    · have e1 : val f n = 0 := by cases neg <;> simp [ival] at hX <;> omega
      have e2 : val g n' = 0 := by cases neg' <;> simp [ival] at hY <;> omega
      rw [hX, hY, sgn_zero]
      have HC := hid (cmpN_eq (e1.trans e2.symm))
      have e4 := hid (cmpI_eq (hX.trans hY.symm))
      clear hX hY e1 e2
      go_wp2_with (go_at_call 22; refine (rnatCmp_any _ _ _ _ _ _ _ _ _ (by omega) (by omega) u1 u2).mono ?_; rintro e w3 ⟨rfl, hw⟩; obtain rfl := hw.symm; rw [HC.out])
      go_ret
      exact ⟨by rw [e4.out]; rfl, k2⟩
    · rw [hX, sgn_zero, sgn_pos hY]; have HH := hid (And.intro hX hY); clear hX hY; go_wp2; go_ret; exact ⟨by obtain ⟨hX, hY⟩ := HH.out; rw [cmpI_lt (by omega)]; rfl, k2⟩
    · rw [sgn_pos hX, sgn_neg hY]; have HH := hid (And.intro hX hY); clear hX hY; go_wp2; go_ret; exact ⟨by obtain ⟨hX, hY⟩ := HH.out; rw [cmpI_gt (by omega)]; rfl, k2⟩
    · rw [sgn_pos hX, hY, sgn_zero]; have HH := hid (And.intro hX hY); clear hX hY; go_wp2; go_ret; exact ⟨by obtain ⟨hX, hY⟩ := HH.out; rw [cmpI_gt (by omega)]; rfl, k2⟩
    · have e1 : neg = false := by cases neg; · rfl
                                  · simp [ival] at hX; omega
      have e2 : neg' = false := by cases neg'; · rfl
                                   · simp [ival] at hY; omega
      rw [sgn_pos hX, sgn_pos hY]
      have e3 := hid (And.intro e1 e2)
      clear hX hY e1 e2
      have fin : Hid (∀ z, z = cmpN (val f n) (val g n') → z = cmpI (ival neg (val f n)) (ival neg' (val g n'))) := by
        obtain ⟨rfl, rfl⟩ := e3.out
        exact hid (fun z hz => by rw [hz]; exact cmpN_up rfl)
      clear e3
      rcases Nat.lt_trichotomy (val f n) (val g n') with hc | hc | hc
      · have HC := hid (cmpN_lt hc)
        clear hc
        go_wp2_with (go_at_call 22; refine (rnatCmp_any _ _ _ _ _ _ _ _ _ (by omega) (by omega) u1 u2).mono ?_; rintro e w3 ⟨rfl, hw⟩; obtain rfl := hw.symm; rw [HC.out])
        go_ret
        exact ⟨by rw [← fin.out _ HC.out.symm]; rfl, k2⟩
      · have HC := hid (cmpN_eq hc)
        clear hc
        go_wp2_with (go_at_call 22; refine (rnatCmp_any _ _ _ _ _ _ _ _ _ (by omega) (by omega) u1 u2).mono ?_; rintro e w3 ⟨rfl, hw⟩; obtain rfl := hw.symm; rw [HC.out])
        go_ret
        exact ⟨by rw [← fin.out _ HC.out.symm]; rfl, k2⟩
      · have HC := hid (cmpN_gt hc)
        clear hc
        go_wp2_with (go_at_call 22; refine (rnatCmp_any _ _ _ _ _ _ _ _ _ (by omega) (by omega) u1 u2).mono ?_; rintro e w3 ⟨rfl, hw⟩; obtain rfl := hw.symm; rw [HC.out])
        go_ret
        exact ⟨by rw [← fin.out _ HC.out.symm]; rfl, k2⟩
theorem cmpI_zero {x y : Int} : (cmpI x y = 0) ↔ x = y := by
  unfold cmpI
  constructor
  · intro h
    split at h
    · cases h
    · split at h
      · cases h
      · omega
  · intro h
    rw [if_neg (by omega), if_neg (by omega)]
set_option maxHeartbeats 1000000 in
theorem same_any (neg neg' : Bool) (a a' : Option Addr) (n c n' c' : Nat) (f g : Nat → Nat) (w : World) (hn : n ≤ 1099511627776) (hn' : n' ≤ 1099511627776) (hu : Us w a n c f) (hu' : Us w a' n' c' g) :
    Calls Tryz.prog 47 #[.agg #[.bool neg, .slice a n c], .agg #[.bool neg', .slice a' n' c']] w fun e w' => e = .returned (.bool (decide (ival neg (val f n) = ival neg' (val g n')))) ∧ Below w.heap.size w w' := by
  have HZ := hid (cmpI_zero (x := ival neg (val f n)) (y := ival neg' (val g n')))
  generalize hq : cmpI (ival neg (val f n)) (ival neg' (val g n')) = q at HZ
  go_enter Tryz.func47, Tryz.ntmps47
  go_wp2_with (go_at_call 13; refine (rcmp_any _ _ _ _ _ _ _ _ _ _ _ (by omega) (by omega) (hu.alloc2 _ _) (hu'.alloc2 _ _)).mono ?_; rintro e w1 ⟨rfl, ky3⟩; rw [hq])
  go_ret
  refine ⟨?_, (below_alloc2 w _ _).trans (ky3.mono (by simp; omega))⟩
  rw [show decide (ival neg (val f n) = ival neg' (val g n')) = decide (q = 0) from decide_eq_decide.2 HZ.out.symm]
  rfl
set_option maxHeartbeats 1000000 in
theorem is_any (neg neg' : Bool) (a a' : Option Addr) (n c n' c' : Nat) (f g : Nat → Nat) (w : World) (hn : n ≤ 1099511627776) (hn' : n' ≤ 1099511627776) (hu : Us w a n c f) (hu' : Us w a' n' c' g) :
    Calls Tryz.prog 19 #[.agg #[.bool neg, .slice a n c], .agg #[.bool neg', .slice a' n' c']] w fun e w' => e = .returned (.bool (stB neg f n && decide (ival neg (val f n) = ival neg' (val g n')))) ∧ Below w.heap.size w w' := by
  generalize hq : stB neg f n = q
  cases q
  all_goals
    go_enter Tryz.func19, Tryz.ntmps19
    go_wp2_with (first | (go_at_call 46; refine (rvalid_any _ _ _ _ _ _ (by omega) (hu.alloc2 _ _)).mono ?_; rintro e w1 ⟨rfl, ky3⟩; rw [hq]; obtain ⟨hcy, hfy⟩ := bcell ky3; have hzy0 : w.heap.size < w1.heap.size := Nat.lt_of_lt_of_le (by first | (simp; done) | (simp; omega) | omega) ky3.size; have hzy1 : w.heap.size + 1 < w1.heap.size := Nat.lt_of_lt_of_le (by first | (simp; done) | (simp; omega) | omega) ky3.size) | (go_at_call 47; refine (same_any _ _ _ _ _ _ _ _ _ _ _ (by omega) (by omega) ((hu.alloc2 _ _).below ky3 (Nat.le_refl _)) ((hu'.alloc2 _ _).below ky3 (Nat.le_refl _))).mono ?_; rintro e w2 ⟨rfl, kx3⟩))
    go_ret
    exact ⟨rfl, ((below_alloc2 w _ _).trans (ky3.mono (by simp; omega))).trans (kx3.mono (by omega))⟩
/-! RParse -/
set_option maxHeartbeats 4000000 in
theorem rnatParse_good (l : List UInt8) (w : World) (hl : l.length ≤ 274877906944) (hb : isNum l = true) :
    Calls Tryz.prog 81 #[.string ⟨l.toArray⟩] w fun e w' => ∃ a n c h, e = .returned (.tuple #[.slice a n c, .bool true]) ∧ Us w' a n c h ∧ Below w.heap.size w w' ∧ Hid (val h n = rdr 0 l) ∧ n ≤ l.length := by
  rcases l with _ | ⟨c, l⟩
  · cases hb
  obtain ⟨h1, h2, h3⟩ := isNum_parts hb
  clear hb h2
  have HD := hid h3
  have hx : (({ data := (c :: l).toArray } : ByteArray)[0]'(by simp [ByteArray.size])).toNat = c.toNat := rfl
  have hll : l.length + 1 ≤ 274877906944 := hl
  clear h3
  have hg : (¬ (c.toNat : Int) = 48 ∧ ((c.toNat : Int) == 48) = false) ∨ ((c.toNat : Int) = 48 ∧ ((c.toNat : Int) == 48) = true ∧ ¬ (1 < (l.length : Int) + 1)) := by
    by_cases q : (c.toNat : Int) = 48
    · right
      refine ⟨q, by simpa using q, ?_⟩
      rcases h1 with h | h
      · subst h; simp
      · exact absurd (UInt8.toNat_inj.1 (by rw [show (48 : UInt8).toNat = 48 from rfl]; omega)) h
    · exact .inl ⟨q, by simpa using q⟩
  clear h1
  go_enter Tryz.func81, Tryz.ntmps81
  rcases hg with ⟨hg1, hg2⟩ | ⟨hg1, hg2, hg3⟩
  all_goals
    go_wp2
    go_loopw [5] (fun iv wr => wr = w ∧ ∃ i : Nat, i ≤ l.length + 1 ∧ iv = .int .i64 i) (fun iv _ => (l.length + 1) - (intOf iv).toNat)
    case atStart => exact ⟨rfl, 0, Nat.zero_le _, rfl⟩
    case round =>
      obtain ⟨hw, i, hi, rfl⟩ := hrel
      obtain rfl := hw.symm
      by_cases hil : i < l.length + 1
      · have hidx : i < (c :: l).length := hil
        have hm := HD.out _ (List.getElem_mem hidx)
        obtain ⟨y, HY⟩ : ∃ y, Hid (((c :: l)[i]'hidx).toNat = y) := ⟨_, hid rfl⟩
        rw [HY.out] at hm
        obtain ⟨g1, g2⟩ := hm
        have hxi : (({ data := (c :: l).toArray } : ByteArray)[i]'(by simp [ByteArray.size]; omega)).toNat = y := HY.out
        go_wp2
        refine ⟨⟨trivial, i + 1, by omega, rfl⟩, by simp [intOf]; omega⟩
      · obtain rfl : i = l.length + 1 := by omega
        go_wp2
        go_loopw [4, 6] (fun ov iv wx => ∃ (i m d : Nat) (r : Option Addr) (h : Nat → Nat), i ≤ l.length + 1 ∧ iv = .int .i64 i ∧ ov = .slice r m d ∧ Us wx r m d h ∧ Hid (val h m = rdr 0 ((c :: l).take i)) ∧ m ≤ i ∧ Below w.heap.size w wx) (fun _ iv _ => (l.length + 1) - (intOf iv).toNat)
        case atStart => exact ⟨0, 0, 0, none, fun _ => 0, Nat.zero_le _, rfl, rfl, Us.nil _ _, hid rfl, Nat.le_refl _, Below.refl _ _⟩
        case round =>
          obtain ⟨i, m, d, r, h, hi, rfl, rfl, hU, hV, hm, hB⟩ := hrel
          have hbs := hB.size
          by_cases hil : i < l.length + 1
          · have hidx : i < (c :: l).length := hil
            have hm := HD.out _ (List.getElem_mem hidx)
            obtain ⟨y, HY⟩ : ∃ y, Hid (((c :: l)[i]'hidx).toNat = y) := ⟨_, hid rfl⟩
            rw [HY.out] at hm
            obtain ⟨g1, g2⟩ := hm
            have hxi : (({ data := (c :: l).toArray } : ByteArray)[i]'(by simp [ByteArray.size]; omega)).toNat = y := HY.out
            have ey : (y : Int) - 48 = ((y - 48 : Nat) : Int) := by omega
            have EY := hid ey
            have HT : Hid (rdr 0 ((c :: l).take (i + 1)) = 10 * rdr 0 ((c :: l).take i) + (y - 48)) := by
              have := rdr_take (D := c :: l) (j := i) hidx
              rw [List.getElem?_eq_getElem hidx] at this
              refine hid ?_
              rw [this, ← HY.out]; rfl
            clear ey
            go_wp2_with fail
            rw [EY.out]
            refine (times_any _ _ _ 10 (y - 48) _ _ (by omega) (by omega) (by omega) hU).mono ?_
            rintro e w4 ⟨at', nt, ct, ft, rfl, t1, t2, t3, t4, t5, t6⟩
            go_wp2_with fail
            go_roundw
            case rel =>
              go_light
              refine ⟨i + 1, nt, ct, at', ft, by omega, by congr 1, rfl, t1, hid ?_, by omega, hB.trans (t3.mono hbs)⟩
              rw [t5.out, HT.out, hV.out, Nat.mul_comm]
            case measure => simp [intOf]; omega
          · obtain rfl : i = l.length + 1 := by omega
            go_wp2
            go_ret2
            refine ⟨_, _, _, _, rfl, hU, hB, hid ?_, by simpa using hm⟩
            rw [hV.out, List.take_of_length_le (by simp)]
set_option maxHeartbeats 4000000 in
theorem rnatParse_bad (l : List UInt8) (w : World) (hl : l.length ≤ 274877906944) (hb : isNum l = false) :
    Calls Tryz.prog 81 #[.string ⟨l.toArray⟩] w fun e w' => e = .returned (.tuple #[.slice none 0 0, .bool false]) ∧ w' = w := by
  rcases l with _ | ⟨c, l⟩
  · clear hb
    go_enter Tryz.func81, Tryz.ntmps81
    go_wp2
    go_ret2
    exact ⟨rfl, rfl⟩
  · have hx : (({ data := (c :: l).toArray } : ByteArray)[0]'(by simp [ByteArray.size])).toNat = c.toNat := rfl
    have hll : l.length + 1 ≤ 274877906944 := hl
    have ha : Hid (c ≠ 48 ∨ l = [] → ∃ i, ∃ h : i < (c :: l).length, ¬ (48 ≤ ((c :: l)[i]'h).toNat ∧ ((c :: l)[i]'h).toNat ≤ 57)) := by
      refine hid (fun h => ?_)
      unfold isNum at hb
      have hq : ((c :: l).all fun c => decide (48 ≤ c.toNat) && decide (c.toNat ≤ 57)) = false := by
        rcases hq : ((c :: l).all fun c => decide (48 ≤ c.toNat) && decide (c.toNat ≤ 57)) with _ | _
        · rfl
        · rw [hq] at hb
          rcases h with h | h
          · simp [h] at hb
          · subst h; simp at hb
      rw [List.all_eq_false] at hq
      obtain ⟨x, hx, hn⟩ := hq
      obtain ⟨i, hi, rfl⟩ := List.getElem_of_mem hx
      exact ⟨i, hi, by simpa using hn⟩
    clear hb
    by_cases hc : (c.toNat : Int) = 48 ∧ 1 < (l.length : Int) + 1
    · obtain ⟨hc1, hc2⟩ := hc
      clear ha
      go_enter Tryz.func81, Tryz.ntmps81
      go_wp2
      go_ret2
      exact ⟨rfl, rfl⟩
    · have hA := hid (ha.out (by
        by_cases q : c = 48
        · right
          subst q
          rcases l with _ | ⟨d, t⟩
          · rfl
          · exfalso; apply hc; simp; omega
        · exact .inl q))
      have hg : (¬ (c.toNat : Int) = 48 ∧ ((c.toNat : Int) == 48) = false) ∨ ((c.toNat : Int) = 48 ∧ ((c.toNat : Int) == 48) = true ∧ ¬ (1 < (l.length : Int) + 1)) := by
        by_cases q : (c.toNat : Int) = 48
        · exact .inr ⟨q, by simpa using q, fun h => hc ⟨q, h⟩⟩
        · exact .inl ⟨q, by simpa using q⟩
      clear ha hc
      go_enter Tryz.func81, Tryz.ntmps81
      rcases hg with ⟨hg1, hg2⟩ | ⟨hg1, hg2, hg3⟩
      all_goals
        go_wp2
        go_loopw [5] (fun iv wr => wr = w ∧ ∃ i : Nat, i ≤ l.length + 1 ∧ iv = .int .i64 i ∧ Hid (∀ j, ∀ h : j < (c :: l).length, j < i → 48 ≤ ((c :: l)[j]'h).toNat ∧ ((c :: l)[j]'h).toNat ≤ 57)) (fun iv _ => (l.length + 1) - (intOf iv).toNat)
        case atStart => exact ⟨rfl, 0, Nat.zero_le _, rfl, hid (fun j h hj => by omega)⟩
        case round =>
          obtain ⟨hw, i, hi, rfl, HI⟩ := hrel
          obtain rfl := hw.symm
          by_cases hil : i < l.length + 1
          · have hidx : i < (c :: l).length := hil
            obtain ⟨y, HY⟩ : ∃ y, Hid (((c :: l)[i]'hidx).toNat = y) := ⟨_, hid rfl⟩
            have hxi : (({ data := (c :: l).toArray } : ByteArray)[i]'(by simp [ByteArray.size]; omega)).toNat = y := HY.out
            by_cases hy : 48 ≤ (y : Int)
            · by_cases hy2 : 57 < (y : Int)
              · go_wp2
                go_ret2
                exact ⟨rfl, rfl⟩
              · go_wp2
                refine ⟨⟨trivial, i + 1, by omega, rfl, hid (fun j h hj => ?_)⟩, by simp [intOf]; omega⟩
                by_cases e : j = i
                · subst e; rw [HY.out]; omega
                · exact HI.out j h (by omega)
            · go_wp2
              go_ret2
              exact ⟨rfl, rfl⟩
          · exfalso
            obtain ⟨j, hj, hn⟩ := hA.out
            exact hn (HI.out j hj (by simp at hj; omega))
/-! RTexts -/
theorem head_no {c : UInt8} (h : c ≠ 126) : ¬ (c.toNat : Int) = 126 ∧ ((c.toNat : Int) == 126) = false := by
  have : ¬ (c.toNat : Int) = 126 := fun e => h (UInt8.toNat_inj.1 (by rw [show (126 : UInt8).toNat = 126 from rfl]; omega))
  exact ⟨this, by simpa using this⟩
set_option maxHeartbeats 2000000 in
theorem rparse_num (c : UInt8) (l : List UInt8) (w : World) (hl : (c :: l).length ≤ 274877906944) (hc : c ≠ 126) (hd : isNum (c :: l) = true) :
    Calls Tryz.prog 61 #[.string ⟨(c :: l).toArray⟩] w fun e w' => ResP w w' (rdr 0 (c :: l) : Int) (c :: l).length e := by
  obtain ⟨g1, g2⟩ := head_no hc
  have hx : (({ data := (c :: l).toArray } : ByteArray)[0]'(by simp [ByteArray.size])).toNat = c.toNat := rfl
  have hll : l.length + 1 ≤ 274877906944 := hl
  have HL := hid hl
  clear hl hc
  go_enter Tryz.func61, Tryz.ntmps61
  go_wp2_with (first | (go_at_call 81; refine (rnatParse_good _ _ HL.out hd).mono ?_; rintro e w1 ⟨ap, np, cp, hp, rfl, k1, k3, k4, k5⟩; obtain ⟨r0, r1, r2, r3, r4⟩ := new2 k3) | (go_at_call 49; refine (rnorm_any _ _ _ _ _ _ (by have := HL.out; omega) k1).mono ?_; rintro e w2 ⟨sgx, ax, nx, cx, fx, rfl, x1, x2, x3, x4, x5, x6, x7⟩; obtain ⟨hcx, hfx⟩ := bcell x3; have X6 := hid x6; have X5 := hid x5; clear x6 x5))
  have hB : Below w.heap.size w w1 := (below_alloc w _).trans (k3.mono (by simp))
  exact bodyPost_ret (by simp [results, Tryz.results61, go_sem, hcx, r0, r1, r4]) rfl (ResP.out x1 x2 x3 x4 X5.out X6.out x7 hB (Nat.le_refl _) r4 (by rw [k4.out]; rfl) (by omega) _ _)
set_option maxHeartbeats 2000000 in
theorem rparse_neg (d : List UInt8) (w : World) (hl : (126 :: d : List UInt8).length ≤ 274877906944) (hd : isNum d = true) (h0 : rdr 0 d ≠ 0) :
    Calls Tryz.prog 61 #[.string ⟨(126 :: d).toArray⟩] w fun e w' => ResP w w' (-(rdr 0 d : Int)) (126 :: d).length e := by
  have hx : (({ data := (126 :: d).toArray } : ByteArray)[0]'(by simp [ByteArray.size])).toNat = 126 := rfl
  have hll : d.length + 1 ≤ 274877906944 := hl
  have HD := hid (show ((⟨(126 :: d).toArray⟩ : ByteArray).extract 1 (d.length + 1)) = ⟨d.toArray⟩ by rw [extr, List.take_of_length_le (by simp)]; rfl)
  have HL := hid hl
  have H00 := hid h0
  clear hl h0
  go_enter Tryz.func61, Tryz.ntmps61
  go_wp2_with (first | (go_at_call 81; rw [HD.out]; refine (rnatParse_good _ _ (by omega) hd).mono ?_; rintro e w1 ⟨ap, np, cp, hp, rfl, k1, k3, k4, k5⟩; obtain ⟨r0, r1, r2, r3, r4⟩ := new2 k3) | (go_at_call 67; refine (rtrim_any _ _ _ _ _ (by omega) k1).mono ?_; rintro e w2 ⟨at', nt, ct, ft, rfl, t1, t2, t3, t4, t5, t6⟩; have T5 := hid t5; clear t5; obtain ⟨hct, hft⟩ := bcell t3; have hz2 : w.heap.size < w2.heap.size := Nat.lt_of_lt_of_le r4 t3.size; have hne : ¬ (nt : Int) = 0 := (by intro e0; have e1 : nt = 0 := (by omega); have e2 := T5.out; rw [t4.zero.2 e1] at e2; exact H00.out (by rw [← k4.out]; exact e2.symm)); have hne2 : ((nt : Int) == 0) = false := (by simpa using hne)) | (go_at_call 49; refine (rnorm_any _ _ _ _ _ _ (by omega) (k1.below t3 (Nat.le_refl _))).mono ?_; rintro e w3 ⟨sgx, ax, nx, cx, fx, rfl, x1, x2, x3, x4, x5, x6, x7⟩; obtain ⟨hcx, hfx⟩ := bcell x3; have X6 := hid x6; have X5 := hid x5; clear x6 x5))
  have hB : Below w.heap.size w w1 := (below_alloc w _).trans (k3.mono (by simp))
  have hB2 : Below w.heap.size w w2 := hB.trans (t3.mono hB.size)
  exact bodyPost_ret (by simp [results, Tryz.results61, go_sem, hcx, hct, r0, r1, r4, hz2]) rfl (ResP.out x1 x2 x3 x4 X5.out X6.out x7 hB2 (Nat.le_refl _) hz2 (by rw [k4.out]; rfl) (Nat.le_trans k5 (Nat.le_succ _)) _ _)
set_option maxHeartbeats 2000000 in
theorem rparse_nought (d : List UInt8) (w : World) (hl : (126 :: d : List UInt8).length ≤ 274877906944) (hd : isNum d = true) (h0 : rdr 0 d = 0) :
    Calls Tryz.prog 61 #[.string ⟨(126 :: d).toArray⟩] w fun e w' => ResE w w' e := by
  have hx : (({ data := (126 :: d).toArray } : ByteArray)[0]'(by simp [ByteArray.size])).toNat = 126 := rfl
  have hll : d.length + 1 ≤ 274877906944 := hl
  have HD := hid (show ((⟨(126 :: d).toArray⟩ : ByteArray).extract 1 (d.length + 1)) = ⟨d.toArray⟩ by rw [extr, List.take_of_length_le (by simp)]; rfl)
  have H00 := hid h0
  clear hl h0
  go_enter Tryz.func61, Tryz.ntmps61
  go_wp2_with (first | (go_at_call 81; rw [HD.out]; refine (rnatParse_good _ _ (by omega) hd).mono ?_; rintro e w1 ⟨ap, np, cp, hp, rfl, k1, k3, k4, k5⟩; obtain ⟨r0, r1, r2, r3, r4⟩ := new2 k3) | (go_at_call 67; refine (rtrim_any _ _ _ _ _ (by omega) k1).mono ?_; rintro e w2 ⟨at', nt, ct, ft, rfl, t1, t2, t3, t4, t5, t6⟩; have T5 := hid t5; clear t5; obtain ⟨hct, hft⟩ := bcell t3; have hz2 : w.heap.size < w2.heap.size := Nat.lt_of_lt_of_le r4 t3.size; have hne : nt = 0 := (t4.zero.1 (by rw [T5.out, k4.out]; exact H00.out)); subst hne))
  have hB : Below w.heap.size w w1 := (below_alloc w _).trans (k3.mono (by simp))
  have hB2 : Below w.heap.size w w2 := hB.trans (t3.mono hB.size)
  exact bodyPost_ret (by simp [results, Tryz.results61, go_sem, hct, r0, r1, r4, hz2]) rfl ⟨rfl, (hB2.setCell (by simp) _).setCell (by simp) _⟩
set_option maxHeartbeats 2000000 in
theorem rparse_no1 (d : List UInt8) (w : World) (hl : (126 :: d : List UInt8).length ≤ 274877906944) (hd : isNum d = false) :
    Calls Tryz.prog 61 #[.string ⟨(126 :: d).toArray⟩] w fun e w' => ResE w w' e := by
  have hx : (({ data := (126 :: d).toArray } : ByteArray)[0]'(by simp [ByteArray.size])).toNat = 126 := rfl
  have hll : d.length + 1 ≤ 274877906944 := hl
  have HD := hid (show ((⟨(126 :: d).toArray⟩ : ByteArray).extract 1 (d.length + 1)) = ⟨d.toArray⟩ by rw [extr, List.take_of_length_le (by simp)]; rfl)
  clear hl
  go_enter Tryz.func61, Tryz.ntmps61
  go_wp2_with (go_at_call 81; rw [HD.out]; refine (rnatParse_bad _ _ (by omega) hd).mono ?_; rintro e w1 ⟨rfl, hw1⟩; obtain rfl := hw1.symm)
  have hB : Below w.heap.size w _ := below_alloc w (.cells #[.bool false, .slice none 0 0] 35)
  exact bodyPost_ret (by simp [results, Tryz.results61, go_sem]) rfl ⟨rfl, hB⟩
set_option maxHeartbeats 2000000 in
theorem rparse_no2 (c : UInt8) (l : List UInt8) (w : World) (hl : (c :: l).length ≤ 274877906944) (hc : c ≠ 126) (hd : isNum (c :: l) = false) :
    Calls Tryz.prog 61 #[.string ⟨(c :: l).toArray⟩] w fun e w' => ResE w w' e := by
  obtain ⟨g1, g2⟩ := head_no hc
  have hx : (({ data := (c :: l).toArray } : ByteArray)[0]'(by simp [ByteArray.size])).toNat = c.toNat := rfl
  have hll : l.length + 1 ≤ 274877906944 := hl
  have HL := hid hl
  clear hl hc
  go_enter Tryz.func61, Tryz.ntmps61
  go_wp2_with (go_at_call 81; refine (rnatParse_bad _ _ HL.out hd).mono ?_; rintro e w1 ⟨rfl, hw1⟩; obtain rfl := hw1.symm)
  have hB : Below w.heap.size w _ := below_alloc w (.cells #[.bool false, .slice none 0 0] 35)
  exact bodyPost_ret (by simp [results, Tryz.results61, go_sem]) rfl ⟨rfl, hB⟩
set_option maxHeartbeats 2000000 in
theorem rparse_no3 (w : World) :
    Calls Tryz.prog 61 #[.string ⟨([] : List UInt8).toArray⟩] w fun e w' => ResE w w' e := by
  go_enter Tryz.func61, Tryz.ntmps61
  go_wp2_with (go_at_call 81; refine (rnatParse_bad [] _ (by simp) rfl).mono ?_; rintro e w1 ⟨rfl, hw1⟩; obtain rfl := hw1.symm)
  have hB : Below w.heap.size w _ := below_alloc w (.cells #[.bool false, .slice none 0 0] 35)
  exact bodyPost_ret (by simp [results, Tryz.results61, go_sem]) rfl ⟨rfl, hB⟩
theorem rparse_good (l : List UInt8) (w : World) (z : Int) (hl : l.length ≤ 274877906944) (h : prs l = some z) :
    Calls Tryz.prog 61 #[.string ⟨l.toArray⟩] w fun e w' => ResP w w' z l.length e := by
  unfold prs at h
  split at h
  · rename_i hh
    split at h
    · rename_i hq
      rcases l with _ | ⟨c, d⟩
      · cases hh
      · simp only [List.head?_cons, Option.some.injEq] at hh
        subst hh
        simp only [List.tail_cons] at hq h
        simp only [Option.some.injEq] at h
        rw [← h]
        exact rparse_neg d w hl hq.1 hq.2
    · cases h
  · rename_i hh
    split at h
    · rename_i hq
      rcases l with _ | ⟨c, d⟩
      · cases hq
      · simp only [Option.some.injEq] at h
        rw [← h]
        exact rparse_num c d w hl (fun e => hh (by rw [e]; rfl)) hq
    · cases h
theorem rparse_bad (l : List UInt8) (w : World) (hl : l.length ≤ 274877906944) (h : prs l = none) :
    Calls Tryz.prog 61 #[.string ⟨l.toArray⟩] w fun e w' => ResE w w' e := by
  rcases l with _ | ⟨c, d⟩
  · exact rparse_no3 w
  unfold prs at h
  split at h
  · rename_i hh
    simp only [List.head?_cons, Option.some.injEq] at hh
    subst hh
    change (if isNum d = true ∧ rdr 0 d ≠ 0 then some (-(rdr 0 d : Int)) else none) = none at h
    by_cases hq : isNum d = true ∧ rdr 0 d ≠ 0
    · rw [if_pos hq] at h; cases h
    · rcases hn : isNum d with _ | _
      · exact rparse_no1 d w hl hn
      · have h0 : rdr 0 d = 0 := by
          rcases Nat.eq_zero_or_pos (rdr 0 d) with q | q
          · exact q
          · exact absurd ⟨hn, by omega⟩ hq
        exact rparse_nought d w hl hn h0
  · rename_i hh
    split at h
    · cases h
    · rename_i hq
      exact rparse_no2 c d w hl (fun e => hh (by rw [e]; rfl)) (by simpa using hq)
/-! LTexts -/
def ResB (w w' : World) (z er : Int) (L : Nat) (e : Ending) : Prop :=
  ∃ sg a n c f, e = .returned (.tuple #[.agg #[.bool sg, .slice a n c], .int .i64 er]) ∧ Us w' a n c f ∧ New w' w.heap.size a c ∧ Below w.heap.size w w' ∧ Nm f n ∧ (n = 0 → sg = false) ∧ ival sg (val f n) = z ∧ n ≤ L
theorem ResE.both {w w' : World} {e : Ending} (h : ResE w w' e) (L : Nat) : ResB w w' 0 11 L e :=
  ⟨false, none, 0, 0, fun _ => 0, h.1, Us.nil _ _, New.nil _ _ _, h.2, .inl rfl, fun _ => rfl, rfl, Nat.zero_le _⟩
theorem parse_both (l : List UInt8) (w : World) (z er : Int) (hl : l.length ≤ 274877906944) (h : Hid ((prs l).getD 0 = z ∧ (if prs l = none then 11 else 0 : Int) = er)) :
    Calls Tryz.prog 53 #[.string ⟨l.toArray⟩] w fun e w' => ResB w w' z er l.length e := by
  obtain ⟨h1, h2⟩ := h.out
  rcases hp : prs l with _ | y
  · rw [hp] at h1 h2; subst h1; subst h2
    exact (parse_bad l w hl hp).mono fun e w' h => h.both _
  · rw [hp] at h1 h2; subst h1; subst h2
    exact parse_good l w y hl hp
theorem rparse_both (l : List UInt8) (w : World) (z er : Int) (hl : l.length ≤ 274877906944) (h : Hid ((prs l).getD 0 = z ∧ (if prs l = none then 11 else 0 : Int) = er)) :
    Calls Tryz.prog 61 #[.string ⟨l.toArray⟩] w fun e w' => ResB w w' z er l.length e := by
  obtain ⟨h1, h2⟩ := h.out
  rcases hp : prs l with _ | y
  · rw [hp] at h1 h2; subst h1; subst h2
    exact (rparse_bad l w hl hp).mono fun e w' h => h.both _
  · rw [hp] at h1 h2; subst h1; subst h2
    exact rparse_good l w y hl hp
/-! RMod -/
/-- A cell of another kind is none of the slice's. -/
theorem us_kind {w : World} {a : Option Addr} {n c : Nat} {h : Nat → Nat} (k : Us w a n c h) {p : Addr} {v : Value} (hp : w.cell? p = some v) (hv : ∀ x, v ≠ .int .u32 x) (y : Value) : Us (w.setCell p y) a n c h :=
  ⟨k.le, k.mx, k.lm, fun i hi => by
    obtain ⟨b, off, e, hc⟩ := k.cell i hi
    exact ⟨b, off, e, by rw [World.cell?_setCell_other _ _ _ _ (by intro h; subst h; rw [hc] at hp; exact hv _ (Option.some.inj hp).symm)]; exact hc⟩⟩
end Go.Proofs.YtajpeeccomgnnaaGreatDoor
