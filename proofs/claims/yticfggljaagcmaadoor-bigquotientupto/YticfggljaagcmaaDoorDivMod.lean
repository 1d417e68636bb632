/-
  big.DivMod, walked.
-/
import Derived.Test.YticfggljaagcmaaDoorInts5
import Derived.Test.YticfggljaagcmaaDoorRegT
import Derived.Deep.CutBlock
import Derived.Deep.DeepCutAuto
namespace Go.Proofs.YticfggljaagcmaaDoor
set_option linter.all false
open Go.RowKit

/-- A box of two cells. -/
structure Bx (wx : World) (b : Nat) (x0 x1 : Value) : Prop where
  lt : b < wx.heap.size
  c0 : wx.cell? ⟨b, 0, none⟩ = some x0
  c1 : wx.cell? ⟨b, 1, none⟩ = some x1
  fr : ∀ o, wx.frozen? ⟨b, o, none⟩ = false
theorem Bx.keep {wx wy : World} {b : Nat} {x0 x1 : Value} (k : Bx wx b x0 x1) (hb : Below wx.heap.size wx wy) : Bx wy b x0 x1 :=
  ⟨Nat.lt_of_lt_of_le k.lt hb.size, (hb.cell (p := ⟨b, 0, none⟩) k.lt).trans k.c0, (hb.cell (p := ⟨b, 1, none⟩) k.lt).trans k.c1, fun o => (hb.frozen (p := ⟨b, o, none⟩) k.lt).trans (k.fr o)⟩
theorem Bx.made (w : World) (x0 x1 : Value) (T : TypeId) : Bx (w.alloc (.cells #[x0, x1] T)) w.heap.size x0 x1 :=
  ⟨by simp, by simp [go_sem], by simp [go_sem], fun o => by simp [go_sem]⟩
theorem Bx.alloc {wx : World} {b : Nat} {x0 x1 : Value} (k : Bx wx b x0 x1) (o : Obj) : Bx (wx.alloc o) b x0 x1 := k.keep (below_alloc wx o)
theorem Bx.drew {wx : World} {b : Nat} {x0 x1 : Value} (k : Bx wx b x0 x1) : Bx wx.drew b x0 x1 := ⟨k.lt, k.c0, k.c1, k.fr⟩
theorem Bx.undrew {wx : World} {b : Nat} {x0 x1 : Value} (k : Bx wx.drew b x0 x1) : Bx wx b x0 x1 := ⟨k.lt, k.c0, k.c1, k.fr⟩
theorem Bx.set {wx : World} {b : Nat} {x0 x1 : Value} (k : Bx wx b x0 x1) (y0 y1 : Value) : Bx ((wx.setCell ⟨b, 0, none⟩ y0).setCell ⟨b, 1, none⟩ y1) b y0 y1 :=
  ⟨by simpa using k.lt, by simp [go_sem, k.c0], by simp [go_sem, k.c1], fun o => by simp [k.fr o]⟩
theorem Bx.other {wx : World} {b : Nat} {x0 x1 : Value} (k : Bx wx b x0 x1) {p : Addr} (hp : p.block ≠ b) (y : Value) : Bx (wx.setCell p y) b x0 x1 :=
  ⟨by simpa using k.lt, (World.cell?_setCell_other _ _ _ _ (by intro h; subst h; exact hp rfl)).trans k.c0, (World.cell?_setCell_other _ _ _ _ (by intro h; subst h; exact hp rfl)).trans k.c1, fun o => by simpa using k.fr o⟩

/-- Four boxes, the first blocks that a call makes. -/
structure Bx4 (w wx : World) (x0 x1 y0 y1 z0 z1 u0 u1 : Value) : Prop where
  a : Bx wx w.heap.size x0 x1
  b : Bx wx (w.heap.size + 1) y0 y1
  c : Bx wx (w.heap.size + 1 + 1) z0 z1
  d : Bx wx (w.heap.size + 1 + 1 + 1) u0 u1
theorem Bx4.keep {w wx wy : World} {x0 x1 y0 y1 z0 z1 u0 u1 : Value} (k : Bx4 w wx x0 x1 y0 y1 z0 z1 u0 u1) (hb : Below wx.heap.size wx wy) : Bx4 w wy x0 x1 y0 y1 z0 z1 u0 u1 := ⟨k.a.keep hb, k.b.keep hb, k.c.keep hb, k.d.keep hb⟩
theorem Bx4.drew {w wx : World} {x0 x1 y0 y1 z0 z1 u0 u1 : Value} (k : Bx4 w wx x0 x1 y0 y1 z0 z1 u0 u1) : Bx4 w wx.drew x0 x1 y0 y1 z0 z1 u0 u1 := ⟨k.a.drew, k.b.drew, k.c.drew, k.d.drew⟩
theorem Bx4.made (w : World) (x0 x1 y0 y1 z0 z1 u0 u1 : Value) (T : TypeId) : Bx4 w ((((w.alloc (.cells #[x0, x1] T)).alloc (.cells #[y0, y1] T)).alloc (.cells #[z0, z1] T)).alloc (.cells #[u0, u1] T)) x0 x1 y0 y1 z0 z1 u0 u1 :=
  ⟨(((Bx.made w x0 x1 T).alloc _).alloc _).alloc _, by simpa using ((Bx.made (w.alloc (.cells #[x0, x1] T)) y0 y1 T).alloc _).alloc _, by simpa using (Bx.made ((w.alloc (.cells #[x0, x1] T)).alloc (.cells #[y0, y1] T)) z0 z1 T).alloc _, by simpa using Bx.made (((w.alloc (.cells #[x0, x1] T)).alloc (.cells #[y0, y1] T)).alloc (.cells #[z0, z1] T)) u0 u1 T⟩
theorem below_alloc4 (w : World) (o o' o'' o3 : Obj) : Below w.heap.size w ((((w.alloc o).alloc o').alloc o'').alloc o3) := ((((Below.refl _ _).alloc (Nat.le_refl _) _).alloc (by simp) _).alloc (by simp; omega) _).alloc (by simp; omega) _
theorem us_put4 {wx : World} {base : Nat} {a : Option Addr} {n c : Nat} {f : Nat → Nat} (k : Us wx a n c f) (u : New wx base a c) {b b' : Nat} (hb : b < base) (hb' : b' < base) (x y x' y' : Value) :
    Us ((((wx.setCell ⟨b, 0, none⟩ x).setCell ⟨b, 1, none⟩ y).setCell ⟨b', 0, none⟩ x').setCell ⟨b', 1, none⟩ y') a n c f :=
  (((k.apart u hb x).apart (u.set _ _) hb y).apart ((u.set _ _).set _ _) hb' x').apart (((u.set _ _).set _ _).set _ _) hb' y'
theorem Below.put4 {B : Nat} {w wx : World} (k : Below B w wx) {b b' : Nat} (hb : B ≤ b) (hb' : B ≤ b') (x y x' y' : Value) :
    Below B w ((((wx.setCell ⟨b, 0, none⟩ x).setCell ⟨b, 1, none⟩ y).setCell ⟨b', 0, none⟩ x').setCell ⟨b', 1, none⟩ y') :=
  (((k.setCell hb x).setCell hb y).setCell hb' x').setCell hb' y'
theorem Bx4.put {w wx : World} {x0 x1 y0 y1 z0 z1 u0 u1 : Value} (k : Bx4 w wx x0 x1 y0 y1 z0 z1 u0 u1) (p0 p1 q0 q1 : Value) :
    Bx4 w ((((wx.setCell ⟨w.heap.size, 0, none⟩ p0).setCell ⟨w.heap.size, 1, none⟩ p1).setCell ⟨w.heap.size + 1, 0, none⟩ q0).setCell ⟨w.heap.size + 1, 1, none⟩ q1) p0 p1 q0 q1 z0 z1 u0 u1 :=
  ⟨((k.a.set _ _).other (by first | (simp; done) | (simp; omega)) _).other (by first | (simp; done) | (simp; omega)) _, ((k.b.other (by first | (simp; done) | (simp; omega)) _).other (by first | (simp; done) | (simp; omega)) _).set _ _,
   (((k.c.other (by first | (simp; done) | (simp; omega)) _).other (by first | (simp; done) | (simp; omega)) _).other (by first | (simp; done) | (simp; omega)) _).other (by first | (simp; done) | (simp; omega)) _, (((k.d.other (by first | (simp; done) | (simp; omega)) _).other (by first | (simp; done) | (simp; omega)) _).other (by first | (simp; done) | (simp; omega)) _).other (by first | (simp; done) | (simp; omega)) _⟩
theorem Bx4.put' {w wx : World} {x0 x1 y0 y1 z0 z1 u0 u1 : Value} (k : Bx4 w wx x0 x1 y0 y1 z0 z1 u0 u1) (p0 p1 q0 q1 : Value) :
    Bx4 w ((((wx.setCell ⟨w.heap.size + 1 + 1, 0, none⟩ p0).setCell ⟨w.heap.size + 1 + 1, 1, none⟩ p1).setCell ⟨w.heap.size + 1 + 1 + 1, 0, none⟩ q0).setCell ⟨w.heap.size + 1 + 1 + 1, 1, none⟩ q1) x0 x1 y0 y1 p0 p1 q0 q1 :=
  ⟨(((k.a.other (by first | (simp; done) | (simp; omega)) _).other (by first | (simp; done) | (simp; omega)) _).other (by first | (simp; done) | (simp; omega)) _).other (by first | (simp; done) | (simp; omega)) _, (((k.b.other (by first | (simp; done) | (simp; omega)) _).other (by first | (simp; done) | (simp; omega)) _).other (by first | (simp; done) | (simp; omega)) _).other (by first | (simp; done) | (simp; omega)) _,
   ((k.c.set _ _).other (by first | (simp; done) | (simp; omega)) _).other (by first | (simp; done) | (simp; omega)) _, ((k.d.other (by first | (simp; done) | (simp; omega)) _).other (by first | (simp; done) | (simp; omega)) _).set _ _⟩
theorem New.drew {w : World} {base : Nat} {a : Option Addr} {c : Nat} (k : New w base a c) : New w.drew base a c := k
/-- Two slices lie in two blocks. -/
def Ap (a : Option Addr) (c : Nat) (a' : Option Addr) (c' : Nat) : Prop := ∀ b off b' off', a = some ⟨b, off, none⟩ → a' = some ⟨b', off', none⟩ → 0 < c → 0 < c' → b < b'
theorem Ap.of {w w' : World} {a a' : Option Addr} {n c c' : Nat} {f : Nat → Nat} (k : Us w a n c f) (u : New w' w.heap.size a' c') : Ap a c a' c' := by
  intro b off b' off' e e' hc hc'
  have h1 := k.lt e hc
  obtain ⟨d, o, e2, h2, _⟩ := u 0 hc'
  rw [e'] at e2
  simp only [Option.some.injEq, Addr.mk.injEq, and_true] at e2
  omega
/-- Two integers as they should stand, in the first two boxes. -/
def Two (w wx : World) (X Y : Int) (L L' : Nat) : Prop :=
  ∃ sg a n c f sg' a' n' c' f', Bx4 w wx (.bool sg) (.slice a n c) (.bool sg') (.slice a' n' c') (.bool false) (.slice none 0 0) (.bool false) (.slice none 0 0) ∧ Us wx a n c f ∧ Us wx a' n' c' f' ∧ Nm f n ∧ Nm f' n' ∧ Hid (ival sg (val f n) = X) ∧ Hid (ival sg' (val f' n') = Y) ∧ n ≤ L ∧ n' ≤ L' ∧ (Below w.heap.size w wx ∧ New wx (w.heap.size + 1 + 1 + 1 + 1) a c ∧ New wx (w.heap.size + 1 + 1 + 1 + 1) a' c')


set_option maxHeartbeats 2000000 in
theorem divMod_zero (neg neg' : Bool) (a a' : Option Addr) (n c n' c' : Nat) (f g : Nat → Nat) (w : World) (hn : n ≤ 1099511627776) (hn' : n' ≤ 1099511627776) (hu : Us w a n c f) (hu' : Us w a' n' c' g) (h0 : val g n' = 0) :
    Calls Tryd.prog 11 #[.agg #[.bool neg, .slice a n c], .agg #[.bool neg', .slice a' n' c']] w fun e w' => e = .returned (.tuple #[.agg #[.bool false, .slice none 0 0], .agg #[.bool false, .slice none 0 0], .int .i64 10]) ∧ Below w.heap.size w w' := by
  have tok : True := trivial
  have b0 : Below w.heap.size w ((((w.alloc (.cells #[.bool neg, .slice a n c] 24)).alloc (.cells #[.bool neg', .slice a' n' c'] 24)).alloc (.cells #[.bool false, .slice none 0 0] 24)).alloc (.cells #[.bool false, .slice none 0 0] 24)).drew := (below_alloc4 w _ _ _ _).drew
  have u1 : Us ((((w.alloc (.cells #[.bool neg, .slice a n c] 24)).alloc (.cells #[.bool neg', .slice a' n' c'] 24)).alloc (.cells #[.bool false, .slice none 0 0] 24)).alloc (.cells #[.bool false, .slice none 0 0] 24)).drew a n c f := (hu.below (below_alloc4 w _ _ _ _) (Nat.le_refl _)).drew
  have u2 : Us ((((w.alloc (.cells #[.bool neg, .slice a n c] 24)).alloc (.cells #[.bool neg', .slice a' n' c'] 24)).alloc (.cells #[.bool false, .slice none 0 0] 24)).alloc (.cells #[.bool false, .slice none 0 0] 24)).drew a' n' c' g := (hu'.below (below_alloc4 w _ _ _ _) (Nat.le_refl _)).drew
  have B0 : Bx4 w ((((w.alloc (.cells #[.bool neg, .slice a n c] 24)).alloc (.cells #[.bool neg', .slice a' n' c'] 24)).alloc (.cells #[.bool false, .slice none 0 0] 24)).alloc (.cells #[.bool false, .slice none 0 0] 24)).drew _ _ _ _ _ _ _ _ := (Bx4.made w (.bool neg) (.slice a n c) (.bool neg') (.slice a' n' c') (.bool false) (.slice none 0 0) (.bool false) (.slice none 0 0) 24).drew
  have hz0 : w.heap.size < ((((w.alloc (.cells #[.bool neg, .slice a n c] 24)).alloc (.cells #[.bool neg', .slice a' n' c'] 24)).alloc (.cells #[.bool false, .slice none 0 0] 24)).alloc (.cells #[.bool false, .slice none 0 0] 24)).drew.heap.size := B0.a.lt
  have hz1 : w.heap.size + 1 < ((((w.alloc (.cells #[.bool neg, .slice a n c] 24)).alloc (.cells #[.bool neg', .slice a' n' c'] 24)).alloc (.cells #[.bool false, .slice none 0 0] 24)).alloc (.cells #[.bool false, .slice none 0 0] 24)).drew.heap.size := B0.b.lt
  go_enter Tryd.func11, Tryd.ntmps11
  go_wp2_with fail
  go_cut [9, 10, 11, 12] from 9 to 12 (fun _ _ _ _ wx => Two w wx (ival neg (val f n)) (ival neg' (val g n')) n n')
  case first =>
    go_region_with (first | (have _t := tok; go_at_call 21; refine (norm_any _ _ _ _ _ _ (by omega) u1).mono ?_; rintro e w1 ⟨sg1, a1, n1, c1, f1, rfl, k1, k2, k3, k4, k5, k6, k7⟩; have B1 := B0.keep k3; obtain ⟨⟨li0, pi00, pi01, qi0⟩, ⟨li1, pi10, pi11, qi1⟩, ⟨li2, pi20, pi21, qi2⟩, ⟨li3, pi30, pi31, qi3⟩⟩ := id B1; have K6 := hid k6; have K5 := hid k5; clear k6 k5 tok) | (go_at_call 21; refine (norm_any _ _ _ _ _ _ (by omega) (u2.below k3 (Nat.le_refl _))).mono ?_; rintro e w2 ⟨sg2, a2, n2, c2, f2, rfl, j1, j2, j3, j4, j5, j6, j7⟩; have B2 := B1.keep j3; obtain ⟨⟨lj0, pj00, pj01, qj0⟩, ⟨lj1, pj10, pj11, qj1⟩, ⟨lj2, pj20, pj21, qj2⟩, ⟨lj3, pj30, pj31, qj3⟩⟩ := id B2; have J6 := hid j6; have J5 := hid j5; clear j6 j5))
    all_goals
      go_wp2_with fail
      go_meet
      refine ⟨sg1, a1, n1, c1, f1, sg2, a2, n2, c2, f2, ?_, ?_, ?_, k4, j4, K6, J6, k7, j7, ?_⟩
      · exact B2.put _ _ _ _
      · exact us_put4 (k1.below j3 (Nat.le_refl _)) (New.below k2 k1 j3 (Nat.le_refl _)) hz0 hz1 _ _ _ _
      · exact us_put4 j1 (j2.mono k3.size) hz0 hz1 _ _ _ _
      · exact ⟨Below.put4 ((b0.trans (k3.mono b0.size)).trans (j3.mono (Nat.le_trans b0.size k3.size))) (Nat.le_refl _) (by omega) _ _ _ _, ((((((New.below k2 k1 j3 (Nat.le_refl _))).set _ _).set _ _).set _ _).set _ _).mono B0.d.lt, ((((j2.set _ _).set _ _).set _ _).set _ _).mono (Nat.le_trans B0.d.lt k3.size)⟩
  case rest =>
    clear B0 b0 u1 u2 hz0 hz1 tok
    obtain ⟨sg1, a1, n1, c1, f1, sg2, a2, n2, c2, f2, B, k1, k2, k3, k4, k5, k6, k7, k8, k9, kn1, kn2⟩ := hcut
    obtain ⟨⟨li0, pi00, pi01, qi0⟩, ⟨li1, pi10, pi11, qi1⟩, ⟨li2, pi20, pi21, qi2⟩, ⟨li3, pi30, pi31, qi3⟩⟩ := id B
    have hv2 : nrm f2 n2 = 0 := by
      have h6 := k6.out
      rw [h0] at h6
      have : val f2 n2 = 0 := by cases sg2 <;> cases neg' <;> simp [ival] at h6 <;> omega
      rw [Nm.nrm k4]; exact k4.zero.1 this
    go_wp2_with (go_at_call 44; refine (natDiv_zero _ _ _ _ _ _ _ _ _ (by omega) (by omega) k1 k2 hv2).mono ?_; rintro e w' ⟨rfl, rfl⟩)
    go_region
    go_wp2
    refine bodyPost_ret (v := .tuple #[.agg #[.bool false, .slice none 0 0], .agg #[.bool false, .slice none 0 0], .int .i64 10]) (by simp [results, Tryd.results11, go_sem, *]) rfl ⟨rfl, ?_⟩
    exact Below.put4 k9.drew (by omega) (by omega) _ _ _ _

/-- Division cut downwards. -/
def FD (X Y q r : Int) : Prop := X = q * Y + r ∧ (0 < Y → 0 ≤ r ∧ r < Y) ∧ (Y < 0 → Y < r ∧ r ≤ 0)
theorem fd_plain {s1 s2 : Bool} {x y Q R : Nat} (hx : x = Q * y + R) (hR : R < y) (h : R = 0 ∨ s1 = s2) : FD (ival s1 x) (ival s2 y) (ival (s1 != s2) Q) (ival s1 R) := by
  have e : (x : Int) = (Q : Int) * (y : Int) + (R : Int) := by rw [hx]; simp
  unfold FD
  cases s1 <;> cases s2 <;> simp [ival, Int.mul_neg, Int.neg_mul] at h ⊢ <;> omega
theorem fd_mend {s1 s2 : Bool} {x y Q R : Nat} (hx : x = Q * y + R) (hR : R < y) (h0 : R ≠ 0) (h : s1 ≠ s2) : FD (ival s1 x) (ival s2 y) (ival (s1 != s2) Q - 1) (ival s1 R + ival s2 y) := by
  have e : (x : Int) = (Q : Int) * (y : Int) + (R : Int) := by rw [hx]; simp
  unfold FD
  cases s1 <;> cases s2 <;> simp [ival, Int.mul_neg, Int.neg_mul, Int.sub_mul] at h ⊢ <;> omega
/-- Quotient and rest are answered. -/
def ResQ (w w' : World) (X Y : Int) (L L' : Nat) (e : Ending) : Prop :=
  ∃ sg a n c f sg' a' n' c' f', e = .returned (.tuple #[.agg #[.bool sg, .slice a n c], .agg #[.bool sg', .slice a' n' c'], .int .i64 0]) ∧ Us w' a n c f ∧ New w' w.heap.size a c ∧ Us w' a' n' c' f' ∧ New w' w.heap.size a' c' ∧ Below w.heap.size w w' ∧
    Nm f n ∧ (n = 0 → sg = false) ∧ Nm f' n' ∧ (n' = 0 → sg' = false) ∧ FD X Y (ival sg (val f n)) (ival sg' (val f' n')) ∧ n ≤ L ∧ n' ≤ L' ∧ Ap a c a' c'

/-- The two answers before they are mended, in the last two boxes. -/
def Four (w wx : World) (sg1 : Bool) (a1 : Option Addr) (n1 c1 : Nat) (sg2 : Bool) (a2 : Option Addr) (n2 c2 : Nat) (f2 : Nat → Nat) (x y L L' : Nat) : Prop :=
  ∃ sgq aq nq cq fq sgr ar nr cr fr, Bx4 w wx (.bool sg1) (.slice a1 n1 c1) (.bool sg2) (.slice a2 n2 c2) (.bool sgq) (.slice aq nq cq) (.bool sgr) (.slice ar nr cr) ∧ Us wx a2 n2 c2 f2 ∧ Us wx aq nq cq fq ∧ Us wx ar nr cr fr ∧
    Nm fq nq ∧ Hid (nq = 0 → sgq = false) ∧ Nm fr nr ∧ Hid (nr = 0 → sgr = false) ∧ Hid (ival sgq (val fq nq) = ival (sg1 != sg2) x) ∧ Hid (ival sgr (val fr nr) = ival sg1 y) ∧ nq ≤ L ∧ nr ≤ L' ∧ (Below w.heap.size w wx ∧ New wx (w.heap.size + 1 + 1 + 1 + 1) aq cq ∧ New wx (w.heap.size + 1 + 1 + 1 + 1) ar cr ∧ New wx (w.heap.size + 1 + 1 + 1 + 1) a2 c2 ∧ Ap aq cq ar cr)

/-- The two answers, mended. -/
def Fin4 (w wx : World) (X Y : Int) (L L' : Nat) : Prop :=
  ∃ sgq aq nq cq fq sgr ar nr cr fr, (∃ x0 x1 y0 y1, Bx4 w wx x0 x1 y0 y1 (.bool sgq) (.slice aq nq cq) (.bool sgr) (.slice ar nr cr)) ∧ Us wx aq nq cq fq ∧ Us wx ar nr cr fr ∧
    Nm fq nq ∧ Hid (nq = 0 → sgq = false) ∧ Nm fr nr ∧ Hid (nr = 0 → sgr = false) ∧ Hid (FD X Y (ival sgq (val fq nq)) (ival sgr (val fr nr))) ∧ nq ≤ L ∧ nr ≤ L' ∧ (Below w.heap.size w wx ∧ New wx (w.heap.size + 1 + 1 + 1 + 1) aq cq ∧ New wx (w.heap.size + 1 + 1 + 1 + 1) ar cr ∧ Ap aq cq ar cr)

set_option maxHeartbeats 1000000 in
theorem divMod_any (neg neg' : Bool) (a a' : Option Addr) (n c n' c' : Nat) (f g : Nat → Nat) (w : World) (hn : n ≤ 1099511627776) (hn' : n' ≤ 1099511627776) (hu : Us w a n c f) (hu' : Us w a' n' c' g) (h0 : 0 < val g n') :
    Calls Tryd.prog 11 #[.agg #[.bool neg, .slice a n c], .agg #[.bool neg', .slice a' n' c']] w fun e w' => ResQ w w' (ival neg (val f n)) (ival neg' (val g n')) (n + 3) (n' + 2) e := by
  have tok : True := trivial
  have b0 : Below w.heap.size w ((((w.alloc (.cells #[.bool neg, .slice a n c] 24)).alloc (.cells #[.bool neg', .slice a' n' c'] 24)).alloc (.cells #[.bool false, .slice none 0 0] 24)).alloc (.cells #[.bool false, .slice none 0 0] 24)).drew := (below_alloc4 w _ _ _ _).drew
  have u1 : Us ((((w.alloc (.cells #[.bool neg, .slice a n c] 24)).alloc (.cells #[.bool neg', .slice a' n' c'] 24)).alloc (.cells #[.bool false, .slice none 0 0] 24)).alloc (.cells #[.bool false, .slice none 0 0] 24)).drew a n c f := (hu.below (below_alloc4 w _ _ _ _) (Nat.le_refl _)).drew
  have u2 : Us ((((w.alloc (.cells #[.bool neg, .slice a n c] 24)).alloc (.cells #[.bool neg', .slice a' n' c'] 24)).alloc (.cells #[.bool false, .slice none 0 0] 24)).alloc (.cells #[.bool false, .slice none 0 0] 24)).drew a' n' c' g := (hu'.below (below_alloc4 w _ _ _ _) (Nat.le_refl _)).drew
  have B0 : Bx4 w ((((w.alloc (.cells #[.bool neg, .slice a n c] 24)).alloc (.cells #[.bool neg', .slice a' n' c'] 24)).alloc (.cells #[.bool false, .slice none 0 0] 24)).alloc (.cells #[.bool false, .slice none 0 0] 24)).drew _ _ _ _ _ _ _ _ := (Bx4.made w (.bool neg) (.slice a n c) (.bool neg') (.slice a' n' c') (.bool false) (.slice none 0 0) (.bool false) (.slice none 0 0) 24).drew
  have hz0 : w.heap.size < ((((w.alloc (.cells #[.bool neg, .slice a n c] 24)).alloc (.cells #[.bool neg', .slice a' n' c'] 24)).alloc (.cells #[.bool false, .slice none 0 0] 24)).alloc (.cells #[.bool false, .slice none 0 0] 24)).drew.heap.size := B0.a.lt
  have hz1 : w.heap.size + 1 < ((((w.alloc (.cells #[.bool neg, .slice a n c] 24)).alloc (.cells #[.bool neg', .slice a' n' c'] 24)).alloc (.cells #[.bool false, .slice none 0 0] 24)).alloc (.cells #[.bool false, .slice none 0 0] 24)).drew.heap.size := B0.b.lt
  go_enter Tryd.func11, Tryd.ntmps11
  go_wp2_with fail
  go_cut [9, 10, 11, 12] from 9 to 12 (fun _ _ _ _ wx => Two w wx (ival neg (val f n)) (ival neg' (val g n')) n n')
  case first =>
    go_region_with (first | (have _t := tok; go_at_call 21; refine (norm_any _ _ _ _ _ _ (by omega) u1).mono ?_; rintro e w1 ⟨sg1, a1, n1, c1, f1, rfl, k1, k2, k3, k4, k5, k6, k7⟩; have B1 := B0.keep k3; obtain ⟨⟨li0, pi00, pi01, qi0⟩, ⟨li1, pi10, pi11, qi1⟩, ⟨li2, pi20, pi21, qi2⟩, ⟨li3, pi30, pi31, qi3⟩⟩ := id B1; have K6 := hid k6; have K5 := hid k5; clear k6 k5 tok) | (go_at_call 21; refine (norm_any _ _ _ _ _ _ (by omega) (u2.below k3 (Nat.le_refl _))).mono ?_; rintro e w2 ⟨sg2, a2, n2, c2, f2, rfl, j1, j2, j3, j4, j5, j6, j7⟩; have B2 := B1.keep j3; obtain ⟨⟨lj0, pj00, pj01, qj0⟩, ⟨lj1, pj10, pj11, qj1⟩, ⟨lj2, pj20, pj21, qj2⟩, ⟨lj3, pj30, pj31, qj3⟩⟩ := id B2; have J6 := hid j6; have J5 := hid j5; clear j6 j5))
    all_goals
      go_wp2_with fail
      go_meet
      refine ⟨sg1, a1, n1, c1, f1, sg2, a2, n2, c2, f2, ?_, ?_, ?_, k4, j4, K6, J6, k7, j7, ?_⟩
      · exact B2.put _ _ _ _
      · exact us_put4 (k1.below j3 (Nat.le_refl _)) (New.below k2 k1 j3 (Nat.le_refl _)) hz0 hz1 _ _ _ _
      · exact us_put4 j1 (j2.mono k3.size) hz0 hz1 _ _ _ _
      · exact ⟨Below.put4 ((b0.trans (k3.mono b0.size)).trans (j3.mono (Nat.le_trans b0.size k3.size))) (Nat.le_refl _) (by omega) _ _ _ _, ((((((New.below k2 k1 j3 (Nat.le_refl _))).set _ _).set _ _).set _ _).set _ _).mono B0.d.lt, ((((j2.set _ _).set _ _).set _ _).set _ _).mono (Nat.le_trans B0.d.lt k3.size)⟩
  case rest =>
    clear B0 b0 u1 u2 hz0 hz1 tok
    obtain ⟨sg1, a1, n1, c1, f1, sg2, a2, n2, c2, f2, B, k1, k2, k3, k4, k5, k6, k7, k8, k9, kn1, kn2⟩ := hcut
    obtain ⟨⟨li0, pi00, pi01, qi0⟩, ⟨li1, pi10, pi11, qi1⟩, ⟨li2, pi20, pi21, qi2⟩, ⟨li3, pi30, pi31, qi3⟩⟩ := id B
    have hv2 : 0 < val f2 n2 := by
      have h6 := k6.out
      rcases Nat.eq_zero_or_pos (val f2 n2) with h | h
      · rw [h] at h6; cases sg2 <;> cases neg' <;> simp [ival] at h6 <;> omega
      · exact h
    go_wp2_with (go_at_call 44; refine (natDiv_any _ _ _ _ _ _ _ _ _ (by omega) (by omega) k1 k2 hv2).mono ?_; rintro e w3 ⟨r, m, d, h, r2, m2, d2, h2, rfl, d1, dn1, d3, dn3, d5, d6, d7, d8, d9, d10, d11⟩; have B3 := B.keep d5; have pk00 := B3.a.c0; have pk10 := B3.b.c0; have D8 := hid d8; clear d8 li0 pi00 pi01 qi0 li1 pi10 pi11 qi1 li2 pi20 pi21 qi2 li3 pi30 pi31 qi3)
    have tok2 : True := trivial
    go_cut [27, 28, 29, 30, 31, 32, 33, 34, 35, 36, 37] from 27 to 37 (fun _ _ _ _ _ _ _ _ _ _ _ wx => Four w wx sg1 a1 n1 c1 sg2 a2 n2 c2 f2 (val h m) (val h2 m2) m m2)
    case first =>
     go_region_held3 (fun wx => wx.cell? ⟨w.heap.size, 0, none⟩ = some (.bool sg1) ∧ wx.cell? ⟨w.heap.size + 1, 0, none⟩ = some (.bool sg2)) (refine ⟨?_, ?_⟩ <;> with_reducible first | assumption | exact B3.drew.a.c0 | exact B3.drew.b.c0 | exact ((B5.a.other (by simp; omega) _).other (by simp; omega) _).c0 | exact ((B5.b.other (by simp) _).other (by simp) _).c0 | exact ((B5.a.other (by simp; omega) _).other (by simp; omega) _).c0 | exact ((((B5.a.other (by simp; omega) _).other (by simp; omega) _).other (by simp; omega) _).other (by simp; omega) _).c0 | exact ((((B5.b.other (by simp) _).other (by simp) _).other (by simp; omega) _).other (by simp; omega) _).c0) (first | (have _t := tok2; go_at_call 45; refine (made_any _ _ _ _ _ _ (by omega) d1.drew).mono ?_; rintro e w4 ⟨sgq, aq, nq, cq, fq, rfl, e1, e2, e3, e4, e5, e6, e7⟩; have B4 := B3.drew.keep e3; have pm00 := B4.a.c0; have pm10 := B4.b.c0; clear pk00 pk10; have E6 := hid e6; have E5 := hid e5; clear e6 e5 tok2) | (go_at_call 45; refine (made_any _ _ _ _ _ _ (by omega) (d3.drew.below e3 (Nat.le_refl _))).mono ?_; rintro e w5 ⟨sgr, ar, nr, cr, fr, rfl, g1, g2, g3, g4, g5, g6, g7⟩; have B5 := B4.keep g3; obtain ⟨⟨ln0, pn00, pn01, qn0⟩, ⟨ln1, pn10, pn11, qn1⟩, ⟨ln2, pn20, pn21, qn2⟩, ⟨ln3, pn30, pn31, qn3⟩⟩ := id B5; clear pm00 pm10; have G6 := hid g6; have G5 := hid g5; clear g6 g5))
     all_goals
      go_wp2_with fail
      go_meet
      have hb3 : w.heap.size + 1 + 1 < w3.drew.heap.size := B3.drew.c.lt
      have hb4 : w.heap.size + 1 + 1 + 1 < w3.drew.heap.size := B3.drew.d.lt
      have a2' := ((k2.below d5 (Nat.le_refl _)).drew.below e3 (Nat.le_refl _)).below g3 (Nat.le_refl _)
      have an2 : New w5 (w.heap.size + 1 + 1 + 1 + 1) a2 c2 := New.below (New.below (show New w3.drew _ a2 c2 from New.below kn2 k2 d5.drew (Nat.le_refl _)) (k2.below d5 (Nat.le_refl _)).drew e3 (Nat.le_refl _)) ((k2.below d5 (Nat.le_refl _)).drew.below e3 (Nat.le_refl _)) g3 (Nat.le_refl _)
      have q5 := e1.below g3 (Nat.le_refl _)
      have qn5 : New w5 w3.drew.heap.size aq cq := New.below e2 e1 g3 (Nat.le_refl _)
      have rn5 : New w5 w3.drew.heap.size ar cr := g2.mono e3.size
      have bl3 : Below w.heap.size w w3.drew := (k9.trans (d5.mono k9.size)).drew
      have bl4 : Below w.heap.size w w4 := bl3.trans (e3.mono bl3.size)
      have bl5 : Below w.heap.size w w5 := bl4.trans (g3.mono bl4.size)
      refine ⟨sgq, aq, nq, cq, fq, sgr, ar, nr, cr, fr, B5.put' _ _ _ _, us_put4 a2' an2 (by omega) (by omega) _ _ _ _, us_put4 q5 qn5 hb3 hb4 _ _ _ _, us_put4 g1 rn5 hb3 hb4 _ _ _ _, e4, E5, g4, G5, E6, G6, e7, g7, Below.put4 bl5 (by omega) (by omega) _ _ _ _, ((((qn5.set _ _).set _ _).set _ _).set _ _).mono hb4, ((((rn5.set _ _).set _ _).set _ _).set _ _).mono hb4, (((an2.set _ _).set _ _).set _ _).set _ _, Ap.of e1 g2⟩
    case rest =>
     clear B3 d1 d3 dn1 dn3 d5 B k1 k2 kn1 kn2 hv2 d6 d7 tok2 pk00 pk10
     obtain ⟨sgq, aq, nq, cq, fq, sgr, ar, nr, cr, fr, B, u2, uq, ur, mq, Eq, mr, Er, Vq, Vr, lq, lr, bl, nq', nr', n2', ap⟩ := hcut
     obtain ⟨⟨li0, pi00, pi01, qi0⟩, ⟨li1, pi10, pi11, qi1⟩, ⟨li2, pi20, pi21, qi2⟩, ⟨li3, pi30, pi31, qi3⟩⟩ := id B
     have X1 := k5.out
     have Y1 := k6.out
     have VQ := Vq.out
     have VR := Vr.out
     have EQ0 := Eq.out
     have ER0 := Er.out
     have D8' := D8.out
     by_cases hr0 : nr = 0
     · have fd : FD (ival neg (val f n)) (ival neg' (val g n')) (ival sgq (val fq nq)) (ival sgr (val fr nr)) := by
         have hR : val h2 m2 = 0 := by
           rw [hr0] at VR
           cases sgr <;> cases sg1 <;> simp [ival, val] at VR <;> omega
         rw [← X1, ← Y1, VQ, VR]
         exact fd_plain D8' d9 (.inl hR)
       have FD' := hid fd
       have E5 := hid EQ0
       have E6 := hid ER0
       clear fd X1 Y1 VQ VR EQ0 ER0 D8'
       subst hr0
       go_wp2
       go_region
       go_wp2
       refine bodyPost_ret (v := .tuple #[.agg #[.bool sgq, .slice aq nq cq], .agg #[.bool sgr, .slice ar 0 cr], .int .i64 0]) (by simp [results, Tryd.results11, go_sem, pi20, pi21, pi30, pi31]) rfl ?_
       refine ⟨sgq, aq, nq, cq, fq, sgr, ar, 0, cr, fr, rfl, (us_put4 uq nq' (by omega) (by omega) _ _ _ _).drew, (((((nq'.set _ _).set _ _).set _ _).set _ _).mono (by omega)).drew, (us_put4 ur nr' (by omega) (by omega) _ _ _ _).drew, (((((nr'.set _ _).set _ _).set _ _).set _ _).mono (by omega)).drew, (Below.put4 bl (by omega) (by omega) _ _ _ _).drew, mq, E5.out, mr, fun _ => E6.out trivial, FD'.out, by omega, by omega, ap⟩
     · have hv : 0 < val fr nr := by
         rcases Nat.eq_zero_or_pos (val fr nr) with h | h
         · exact absurd (mr.zero.1 h) hr0
         · exact h
       have hsr : sgr = sg1 := by
         cases sgr <;> cases sg1 <;> simp [ival] at VR <;> first | rfl | omega
       have hR : val h2 m2 ≠ 0 := by
         intro h
         rw [h] at VR
         cases sgr <;> cases sg1 <;> simp [ival] at VR <;> omega
       by_cases hs : sg1 = sg2
       · have fd : FD (ival neg (val f n)) (ival neg' (val g n')) (ival sgq (val fq nq)) (ival sgr (val fr nr)) := by
           rw [← X1, ← Y1, VQ, VR]
           exact fd_plain D8' d9 (.inr hs)
         have FD' := hid fd
         have E5 := hid EQ0
         clear fd X1 Y1 VQ VR EQ0 ER0 D8' hR hv
         subst hsr
         subst hs
         have hpos : 0 < nr := by omega
         cases sgr
         all_goals
           go_wp2
           go_region
           go_wp2
           refine bodyPost_ret (v := .tuple #[.agg #[.bool sgq, .slice aq nq cq], .agg #[.bool _, .slice ar nr cr], .int .i64 0]) (by simp [results, Tryd.results11, go_sem, pi20, pi21, pi30, pi31]; rfl) rfl ?_
           refine ⟨sgq, aq, nq, cq, fq, _, ar, nr, cr, fr, rfl, (us_put4 uq nq' (by omega) (by omega) _ _ _ _).drew, (((((nq'.set _ _).set _ _).set _ _).set _ _).mono (by omega)).drew, (us_put4 ur nr' (by omega) (by omega) _ _ _ _).drew, (((((nr'.set _ _).set _ _).set _ _).set _ _).mono (by omega)).drew, (Below.put4 bl (by omega) (by omega) _ _ _ _).drew, mq, E5.out, mr, fun h => absurd h hr0, FD'.out, by omega, by omega, ap⟩
       · have fd : FD (ival neg (val f n)) (ival neg' (val g n')) (ival sgq (val fq nq) - 1) (ival sgr (val fr nr) + ival sg2 (val f2 n2)) := by
           rw [← X1, ← Y1, VQ, VR]
           exact fd_mend D8' d9 hR hs
         have FD' := hid fd
         clear fd X1 Y1 VQ VR EQ0 ER0 D8' hR hv D8 Vq Vr Eq Er
         subst hsr
         have hpos : 0 < nr := by omega
         rcases sgr with _ | _ <;> rcases sg2 with _ | _
         · exact absurd rfl hs
         · clear hs
           go_wp2_with fail
           go_cut [49, 50, 51, 52, 53, 54] from 49 to 54 (fun _ _ _ _ _ _ wx => Fin4 w wx (ival neg (val f n)) (ival neg' (val g n')) (n + 3) (n' + 2))
           case first =>
            refine region_T (S := fun wx => (wx.cell? ⟨w.heap.size + 1, 0, none⟩ = some (.bool true) ∧ wx.cell? ⟨w.heap.size + 1, 1, none⟩ = some (.slice a2 n2 c2)) ∧ (wx.cell? ⟨w.heap.size + 1 + 1, 0, none⟩ = some (.bool sgq) ∧ wx.cell? ⟨w.heap.size + 1 + 1, 1, none⟩ = some (.slice aq nq cq)) ∧ (wx.cell? ⟨w.heap.size + 1 + 1 + 1, 0, none⟩ = some (.bool false) ∧ wx.cell? ⟨w.heap.size + 1 + 1 + 1, 1, none⟩ = some (.slice ar nr cr))) (T := fun j => j == 6 || j == 7) (by kernel_rfl) ?_
            have hS0 := And.intro (And.intro B.drew.b.c0 B.drew.b.c1) (And.intro (And.intro B.drew.c.c0 B.drew.c.c1) (And.intro B.drew.d.c0 B.drew.d.c1))
            refine anyT_take (i := 0) (v := ?_) rfl (by kernel_rfl) (by kernel_rfl) (by kernel_rfl) (by kernel_rfl) (by kernel_rfl) (fun _ _ _ h => h) (Or.inl ⟨by rfl, ?_⟩) hS0 ?_
            rotate_left 1
            · intro wz hz; obtain ⟨⟨_, _⟩, ⟨_, _⟩, ⟨_, _⟩⟩ := hz; go_simp; try with_reducible rfl
            try simp only [Act.put, List.setIfInBounds_toArray, List.set_cons_zero, List.set_cons_succ]
            refine anyT_take (i := 3) (v := ?_) rfl (by kernel_rfl) (by kernel_rfl) (by kernel_rfl) (by kernel_rfl) (by kernel_rfl) (fun _ _ _ h => h) (Or.inl ⟨by rfl, ?_⟩) hS0 ?_
            rotate_left 1
            · intro wz hz; obtain ⟨⟨_, _⟩, ⟨_, _⟩, ⟨_, _⟩⟩ := hz; go_simp; try with_reducible rfl
            try simp only [Act.put, List.setIfInBounds_toArray, List.set_cons_zero, List.set_cons_succ]
            refine anyT_take (i := 4) (v := ?_) rfl (by kernel_rfl) (by kernel_rfl) (by kernel_rfl) (by kernel_rfl) (by kernel_rfl) (fun _ _ _ h => h) (Or.inl ⟨by rfl, ?_⟩) hS0 ?_
            rotate_left 1
            · intro wz hz; obtain ⟨⟨_, _⟩, ⟨_, _⟩, ⟨_, _⟩⟩ := hz; go_simp; try with_reducible rfl
            try simp only [Act.put, List.setIfInBounds_toArray, List.set_cons_zero, List.set_cons_succ]
            refine anyT_one (i := 1) (by kernel_rfl) rfl (fun K hK => ?_)
            go_simp
            (refine (of_any _ _ (by omega) (by omega)).mono ?_; rintro e w6 ⟨sgo, ao, no, co, fo, rfl, o1, o2, o3, o4, o5, o6, o7⟩; have B6 := B.drew.keep o3; obtain ⟨⟨l6a, p6a0, p6a1, q6a⟩, ⟨l6b, p6b0, p6b1, q6b⟩, ⟨l6c, p6c0, p6c1, q6c⟩, ⟨l6d, p6d0, p6d1, q6d⟩⟩ := id B6; have O6 := hid o6; have O5 := hid o5; clear o5 o6)
            refine hK.out _ _ (fun _ => And.intro (And.intro B6.b.c0 B6.b.c1) (And.intro (And.intro B6.c.c0 B6.c.c1) (And.intro B6.d.c0 B6.d.c1))) ?_
            clear hK K
            try simp only [Act.put, List.setIfInBounds_toArray, List.set_cons_zero, List.set_cons_succ]
            refine anyT_one (i := 2) (by kernel_rfl) rfl (fun K hK => ?_)
            go_simp
            (refine (sub_any _ _ _ _ _ _ _ _ _ _ _ (by omega) (by omega) (uq.drew.below o3 (Nat.le_refl _)) o1).mono ?_; rintro e w7 ⟨sgs, as', ns, cs, fs, rfl, s1, s2, s3, s4, s5, s6, s7⟩; have B7 := B6.keep s3; obtain ⟨⟨l7a, p7a0, p7a1, q7a⟩, ⟨l7b, p7b0, p7b1, q7b⟩, ⟨l7c, p7c0, p7c1, q7c⟩, ⟨l7d, p7d0, p7d1, q7d⟩⟩ := id B7; have S6 := hid s6; have S5 := hid s5; clear s5 s6)
            refine hK.out _ _ (fun _ => And.intro (And.intro B7.b.c0 B7.b.c1) (And.intro (And.intro B7.c.c0 B7.c.c1) (And.intro B7.d.c0 B7.d.c1))) ?_
            clear hK K
            try simp only [Act.put, List.setIfInBounds_toArray, List.set_cons_zero, List.set_cons_succ]
            refine anyT_one (i := 5) (by kernel_rfl) rfl (fun K hK => ?_)
            go_simp
            (refine (add_any _ _ _ _ _ _ _ _ _ _ _ (by omega) (by omega) ((ur.drew.below o3 (Nat.le_refl _)).below s3 (Nat.le_refl _)) ((u2.drew.below o3 (Nat.le_refl _)).below s3 (Nat.le_refl _))).mono ?_; rintro e w8 ⟨sgt, at', nt, ct, ft, rfl, t1, t2, t3, t4, t5, t6, t7⟩; have B8 := B7.keep t3; obtain ⟨⟨l8a, p8a0, p8a1, q8a⟩, ⟨l8b, p8b0, p8b1, q8b⟩, ⟨l8c, p8c0, p8c1, q8c⟩, ⟨l8d, p8d0, p8d1, q8d⟩⟩ := id B8; have T6 := hid t6; have T5 := hid t5; clear t5 t6)
            refine hK.out _ _ (fun _ => And.intro (And.intro B8.b.c0 B8.b.c1) (And.intro (And.intro B8.c.c0 B8.c.c1) (And.intro B8.d.c0 B8.d.c1))) ?_
            clear hK K
            try simp only [Act.put, List.setIfInBounds_toArray, List.set_cons_zero, List.set_cons_succ]
            refine anyT_one (i := 6) (by kernel_rfl) rfl (fun K hK => ?_)
            go_simp
            refine hK.out _ _ (fun h => by cases h) ?_
            clear hK K
            try simp only [Act.put, List.setIfInBounds_toArray, List.set_cons_zero, List.set_cons_succ]
            refine anyT_one (i := 7) (by kernel_rfl) rfl (fun K hK => ?_)
            go_simp
            refine hK.out _ _ (fun h => by cases h) ?_
            clear hK K
            try simp only [Act.put, List.setIfInBounds_toArray, List.set_cons_zero, List.set_cons_succ]
            refine anyT_done (by kernel_rfl) ?_ _
            all_goals
             go_wp2_with fail
             go_meet
             refine ⟨sgs, as', ns, cs, fs, sgt, at', nt, ct, ft, ⟨_, _, _, _, B8.put' _ _ _ _⟩, us_put4 (s1.below t3 (Nat.le_refl _)) (New.below s2 s1 t3 (Nat.le_refl _)) B6.c.lt B6.d.lt _ _ _ _, us_put4 t1 (t2.mono s3.size) B6.c.lt B6.d.lt _ _ _ _, s4, S5, t4, T5, hid (by rw [S6.out, O6.out, T6.out]; exact FD'.out), by omega, by omega, ?_, ((((((New.below s2 s1 t3 (Nat.le_refl _))).set _ _).set _ _).set _ _).set _ _).mono B6.d.lt, (((((t2.mono s3.size).set _ _).set _ _).set _ _).set _ _).mono B6.d.lt, Ap.of s1 t2⟩
             have blc := bl.drew
             have bl6 := blc.trans (o3.mono blc.size)
             have bl7 := bl6.trans (s3.mono bl6.size)
             exact Below.put4 (bl7.trans (t3.mono bl7.size)) (by omega) (by omega) _ _ _ _
           case rest =>
            obtain ⟨sgs, as', ns, cs, fs, sgt, at', nt, ct, ft, ⟨x0, x1, y0, y1, Bf⟩, us, ut, ms, Es, mt, Et, FF, ls, lt, bf, ns', nt', ap⟩ := hcut
            obtain ⟨⟨_, _, _, _⟩, ⟨_, _, _, _⟩, ⟨z2, pz20, pz21, zq2⟩, ⟨z3, pz30, pz31, zq3⟩⟩ := id Bf
            go_wp2_with fail
            go_region
            go_wp2
            refine bodyPost_ret (v := .tuple #[.agg #[.bool sgs, .slice as' ns cs], .agg #[.bool sgt, .slice at' nt ct], .int .i64 0]) (by first | (simp [results, Tryd.results11, go_sem, pz20, pz21, pz30, pz31]; done) | (simp [results, Tryd.results11, go_sem, pz20, pz21, pz30, pz31]; rfl)) rfl ?_
            refine ⟨sgs, as', ns, cs, fs, sgt, at', nt, ct, ft, rfl, (us_put4 us ns' (by omega) (by omega) _ _ _ _).drew, (((((ns'.set _ _).set _ _).set _ _).set _ _).mono (by omega)).drew, (us_put4 ut nt' (by omega) (by omega) _ _ _ _).drew, (((((nt'.set _ _).set _ _).set _ _).set _ _).mono (by omega)).drew, (Below.put4 bf (by omega) (by omega) _ _ _ _).drew, ms, Es.out, mt, Et.out, FF.out, by omega, by omega, ap⟩
         · clear hs
           go_wp2_with fail
           go_cut [49, 50, 51, 52, 53, 54] from 49 to 54 (fun _ _ _ _ _ _ wx => Fin4 w wx (ival neg (val f n)) (ival neg' (val g n')) (n + 3) (n' + 2))
           case first =>
            refine region_T (S := fun wx => (wx.cell? ⟨w.heap.size + 1, 0, none⟩ = some (.bool false) ∧ wx.cell? ⟨w.heap.size + 1, 1, none⟩ = some (.slice a2 n2 c2)) ∧ (wx.cell? ⟨w.heap.size + 1 + 1, 0, none⟩ = some (.bool sgq) ∧ wx.cell? ⟨w.heap.size + 1 + 1, 1, none⟩ = some (.slice aq nq cq)) ∧ (wx.cell? ⟨w.heap.size + 1 + 1 + 1, 0, none⟩ = some (.bool true) ∧ wx.cell? ⟨w.heap.size + 1 + 1 + 1, 1, none⟩ = some (.slice ar nr cr))) (T := fun j => j == 6 || j == 7) (by kernel_rfl) ?_
            have hS0 := And.intro (And.intro B.drew.b.c0 B.drew.b.c1) (And.intro (And.intro B.drew.c.c0 B.drew.c.c1) (And.intro B.drew.d.c0 B.drew.d.c1))
            refine anyT_take (i := 0) (v := ?_) rfl (by kernel_rfl) (by kernel_rfl) (by kernel_rfl) (by kernel_rfl) (by kernel_rfl) (fun _ _ _ h => h) (Or.inl ⟨by rfl, ?_⟩) hS0 ?_
            rotate_left 1
            · intro wz hz; obtain ⟨⟨_, _⟩, ⟨_, _⟩, ⟨_, _⟩⟩ := hz; go_simp; try with_reducible rfl
            try simp only [Act.put, List.setIfInBounds_toArray, List.set_cons_zero, List.set_cons_succ]
            refine anyT_take (i := 3) (v := ?_) rfl (by kernel_rfl) (by kernel_rfl) (by kernel_rfl) (by kernel_rfl) (by kernel_rfl) (fun _ _ _ h => h) (Or.inl ⟨by rfl, ?_⟩) hS0 ?_
            rotate_left 1
            · intro wz hz; obtain ⟨⟨_, _⟩, ⟨_, _⟩, ⟨_, _⟩⟩ := hz; go_simp; try with_reducible rfl
            try simp only [Act.put, List.setIfInBounds_toArray, List.set_cons_zero, List.set_cons_succ]
            refine anyT_take (i := 4) (v := ?_) rfl (by kernel_rfl) (by kernel_rfl) (by kernel_rfl) (by kernel_rfl) (by kernel_rfl) (fun _ _ _ h => h) (Or.inl ⟨by rfl, ?_⟩) hS0 ?_
            rotate_left 1
            · intro wz hz; obtain ⟨⟨_, _⟩, ⟨_, _⟩, ⟨_, _⟩⟩ := hz; go_simp; try with_reducible rfl
            try simp only [Act.put, List.setIfInBounds_toArray, List.set_cons_zero, List.set_cons_succ]
            refine anyT_one (i := 1) (by kernel_rfl) rfl (fun K hK => ?_)
            go_simp
            (refine (of_any _ _ (by omega) (by omega)).mono ?_; rintro e w6 ⟨sgo, ao, no, co, fo, rfl, o1, o2, o3, o4, o5, o6, o7⟩; have B6 := B.drew.keep o3; obtain ⟨⟨l6a, p6a0, p6a1, q6a⟩, ⟨l6b, p6b0, p6b1, q6b⟩, ⟨l6c, p6c0, p6c1, q6c⟩, ⟨l6d, p6d0, p6d1, q6d⟩⟩ := id B6; have O6 := hid o6; have O5 := hid o5; clear o5 o6)
            refine hK.out _ _ (fun _ => And.intro (And.intro B6.b.c0 B6.b.c1) (And.intro (And.intro B6.c.c0 B6.c.c1) (And.intro B6.d.c0 B6.d.c1))) ?_
            clear hK K
            try simp only [Act.put, List.setIfInBounds_toArray, List.set_cons_zero, List.set_cons_succ]
            refine anyT_one (i := 2) (by kernel_rfl) rfl (fun K hK => ?_)
            go_simp
            (refine (sub_any _ _ _ _ _ _ _ _ _ _ _ (by omega) (by omega) (uq.drew.below o3 (Nat.le_refl _)) o1).mono ?_; rintro e w7 ⟨sgs, as', ns, cs, fs, rfl, s1, s2, s3, s4, s5, s6, s7⟩; have B7 := B6.keep s3; obtain ⟨⟨l7a, p7a0, p7a1, q7a⟩, ⟨l7b, p7b0, p7b1, q7b⟩, ⟨l7c, p7c0, p7c1, q7c⟩, ⟨l7d, p7d0, p7d1, q7d⟩⟩ := id B7; have S6 := hid s6; have S5 := hid s5; clear s5 s6)
            refine hK.out _ _ (fun _ => And.intro (And.intro B7.b.c0 B7.b.c1) (And.intro (And.intro B7.c.c0 B7.c.c1) (And.intro B7.d.c0 B7.d.c1))) ?_
            clear hK K
            try simp only [Act.put, List.setIfInBounds_toArray, List.set_cons_zero, List.set_cons_succ]
            refine anyT_one (i := 5) (by kernel_rfl) rfl (fun K hK => ?_)
            go_simp
            (refine (add_any _ _ _ _ _ _ _ _ _ _ _ (by omega) (by omega) ((ur.drew.below o3 (Nat.le_refl _)).below s3 (Nat.le_refl _)) ((u2.drew.below o3 (Nat.le_refl _)).below s3 (Nat.le_refl _))).mono ?_; rintro e w8 ⟨sgt, at', nt, ct, ft, rfl, t1, t2, t3, t4, t5, t6, t7⟩; have B8 := B7.keep t3; obtain ⟨⟨l8a, p8a0, p8a1, q8a⟩, ⟨l8b, p8b0, p8b1, q8b⟩, ⟨l8c, p8c0, p8c1, q8c⟩, ⟨l8d, p8d0, p8d1, q8d⟩⟩ := id B8; have T6 := hid t6; have T5 := hid t5; clear t5 t6)
            refine hK.out _ _ (fun _ => And.intro (And.intro B8.b.c0 B8.b.c1) (And.intro (And.intro B8.c.c0 B8.c.c1) (And.intro B8.d.c0 B8.d.c1))) ?_
            clear hK K
            try simp only [Act.put, List.setIfInBounds_toArray, List.set_cons_zero, List.set_cons_succ]
            refine anyT_one (i := 6) (by kernel_rfl) rfl (fun K hK => ?_)
            go_simp
            refine hK.out _ _ (fun h => by cases h) ?_
            clear hK K
            try simp only [Act.put, List.setIfInBounds_toArray, List.set_cons_zero, List.set_cons_succ]
            refine anyT_one (i := 7) (by kernel_rfl) rfl (fun K hK => ?_)
            go_simp
            refine hK.out _ _ (fun h => by cases h) ?_
            clear hK K
            try simp only [Act.put, List.setIfInBounds_toArray, List.set_cons_zero, List.set_cons_succ]
            refine anyT_done (by kernel_rfl) ?_ _
            all_goals
             go_wp2_with fail
             go_meet
             refine ⟨sgs, as', ns, cs, fs, sgt, at', nt, ct, ft, ⟨_, _, _, _, B8.put' _ _ _ _⟩, us_put4 (s1.below t3 (Nat.le_refl _)) (New.below s2 s1 t3 (Nat.le_refl _)) B6.c.lt B6.d.lt _ _ _ _, us_put4 t1 (t2.mono s3.size) B6.c.lt B6.d.lt _ _ _ _, s4, S5, t4, T5, hid (by rw [S6.out, O6.out, T6.out]; exact FD'.out), by omega, by omega, ?_, ((((((New.below s2 s1 t3 (Nat.le_refl _))).set _ _).set _ _).set _ _).set _ _).mono B6.d.lt, (((((t2.mono s3.size).set _ _).set _ _).set _ _).set _ _).mono B6.d.lt, Ap.of s1 t2⟩
             have blc := bl.drew
             have bl6 := blc.trans (o3.mono blc.size)
             have bl7 := bl6.trans (s3.mono bl6.size)
             exact Below.put4 (bl7.trans (t3.mono bl7.size)) (by omega) (by omega) _ _ _ _
           case rest =>
            obtain ⟨sgs, as', ns, cs, fs, sgt, at', nt, ct, ft, ⟨x0, x1, y0, y1, Bf⟩, us, ut, ms, Es, mt, Et, FF, ls, lt, bf, ns', nt', ap⟩ := hcut
            obtain ⟨⟨_, _, _, _⟩, ⟨_, _, _, _⟩, ⟨z2, pz20, pz21, zq2⟩, ⟨z3, pz30, pz31, zq3⟩⟩ := id Bf
            go_wp2_with fail
            go_region
            go_wp2
            refine bodyPost_ret (v := .tuple #[.agg #[.bool sgs, .slice as' ns cs], .agg #[.bool sgt, .slice at' nt ct], .int .i64 0]) (by first | (simp [results, Tryd.results11, go_sem, pz20, pz21, pz30, pz31]; done) | (simp [results, Tryd.results11, go_sem, pz20, pz21, pz30, pz31]; rfl)) rfl ?_
            refine ⟨sgs, as', ns, cs, fs, sgt, at', nt, ct, ft, rfl, (us_put4 us ns' (by omega) (by omega) _ _ _ _).drew, (((((ns'.set _ _).set _ _).set _ _).set _ _).mono (by omega)).drew, (us_put4 ut nt' (by omega) (by omega) _ _ _ _).drew, (((((nt'.set _ _).set _ _).set _ _).set _ _).mono (by omega)).drew, (Below.put4 bf (by omega) (by omega) _ _ _ _).drew, ms, Es.out, mt, Et.out, FF.out, by omega, by omega, ap⟩
         · exact absurd rfl hs
end Go.Proofs.YticfggljaagcmaaDoor
