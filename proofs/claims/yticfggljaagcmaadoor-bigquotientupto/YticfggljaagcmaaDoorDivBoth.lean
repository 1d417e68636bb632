/-
  Division by whatever there is: both answers, in one contract.
-/
import Derived.Test.YticfggljaagcmaaDoorAwake
import Derived.Test.YticfggljaagcmaaDoorRInts2
import Derived.Test.YticfggljaagcmaaDoorDivMod
import Derived.Test.YticfggljaagcmaaDoorRDivMod
namespace Go.Proofs.YticfggljaagcmaaDoor
set_option linter.all false
open Go.RowKit

/-- What a division answers: quotient, rest and error. -/
def DD (X Y q r er : Int) : Prop := (Y = 0 ∧ q = 0 ∧ r = 0 ∧ er = 10) ∨ (Y ≠ 0 ∧ FD X Y q r ∧ er = 0)
theorem lt_rest {Y q q' r r' : Int} (h : q * Y + r = q' * Y + r') (h1 : 0 ≤ r') (h2 : r < Y) (h3 : 0 < Y) : ¬ q < q' := by
  intro hq
  have : (q + 1) * Y ≤ q' * Y := Int.mul_le_mul_of_nonneg_right (by omega) (by omega)
  rw [Int.add_mul, Int.one_mul] at this
  omega
theorem lt_rest' {Y q q' r r' : Int} (h : q * Y + r = q' * Y + r') (h1 : r' ≤ 0) (h2 : Y < r) (h3 : Y < 0) : ¬ q < q' := by
  intro hq
  have : q' * Y ≤ (q + 1) * Y := Int.mul_le_mul_of_nonpos_right (by omega) (by omega)
  rw [Int.add_mul, Int.one_mul] at this
  omega
theorem fd_one {X Y q r q' r' : Int} (h : FD X Y q r) (h' : FD X Y q' r') (hY : Y ≠ 0) : q = q' ∧ r = r' := by
  obtain ⟨a1, a2, a3⟩ := h
  obtain ⟨b1, b2, b3⟩ := h'
  have e : q * Y + r = q' * Y + r' := by omega
  have hq : q = q' := by
    rcases Int.lt_trichotomy Y 0 with hy | hy | hy
    · have a := a3 hy
      have b := b3 hy
      have h1 := lt_rest' e b.2 a.1 hy
      have h2 := lt_rest' e.symm a.2 b.1 hy
      omega
    · exact absurd hy hY
    · have a := a2 hy
      have b := b2 hy
      have h1 := lt_rest e b.1 a.2 hy
      have h2 := lt_rest e.symm a.1 b.2 hy
      omega
  subst hq
  exact ⟨rfl, by omega⟩
theorem dd_one {X Y q r er q' r' er' : Int} (h : DD X Y q r er) (h' : DD X Y q' r' er') : q = q' ∧ r = r' ∧ er = er' := by
  rcases h with ⟨a, b, c, d⟩ | ⟨a, b, c⟩ <;> rcases h' with ⟨a', b', c', d'⟩ | ⟨a', b', c'⟩
  · exact ⟨b.trans b'.symm, c.trans c'.symm, d.trans d'.symm⟩
  · exact absurd a a'
  · exact absurd a' a
  · exact ⟨(fd_one b b' a).1, (fd_one b b' a).2, c.trans c'.symm⟩
theorem ival_nought {s : Bool} {v : Nat} : ival s v = 0 ↔ v = 0 := by cases s <;> simp [ival]
theorem divMod_both (neg neg' : Bool) (a a' : Option Addr) (n c n' c' : Nat) (f g : Nat → Nat) (w : World) (hn : n ≤ 1099511627776) (hn' : n' ≤ 1099511627776) (hu : Us w a n c f) (hu' : Us w a' n' c' g) :
    Calls Tryd.prog 11 #[.agg #[.bool neg, .slice a n c], .agg #[.bool neg', .slice a' n' c']] w fun e w' => ∃ sgq aq nq cq fq sgr ar nr cr fr, ∃ er : Int, e = .returned (.tuple #[.agg #[.bool sgq, .slice aq nq cq], .agg #[.bool sgr, .slice ar nr cr], .int .i64 er]) ∧ Us w' aq nq cq fq ∧ Us w' ar nr cr fr ∧ Below w.heap.size w w' ∧ Hid (DD (ival neg (val f n)) (ival neg' (val g n')) (ival sgq (val fq nq)) (ival sgr (val fr nr)) er) ∧ nq ≤ n + 3 ∧ nr ≤ n' + 2 ∧ Nm fq nq ∧ Hid (nq = 0 → sgq = false) ∧ Nm fr nr ∧ Hid (nr = 0 → sgr = false) ∧ Hid (New w' w.heap.size aq cq ∧ New w' w.heap.size ar cr ∧ Ap aq cq ar cr) := by
  rcases Nat.eq_zero_or_pos (val g n') with h0 | h0
  · refine (divMod_zero neg neg' a a' n c n' c' f g w hn hn' hu hu' h0).mono ?_
    rintro e w' ⟨rfl, hb⟩
    exact ⟨false, none, 0, 0, fun _ => 0, false, none, 0, 0, fun _ => 0, 10, rfl, Us.nil _ _, Us.nil _ _, hb, hid (.inl ⟨ival_nought.2 h0, rfl, rfl, rfl⟩), by omega, by omega, .inl rfl, hid fun _ => rfl, .inl rfl, hid fun _ => rfl, hid ⟨New.nil _ _ _, New.nil _ _ _, fun _ _ _ _ e => by cases e⟩⟩
  · refine (divMod_any neg neg' a a' n c n' c' f g w hn hn' hu hu' h0).mono ?_
    rintro e w' ⟨sgq, aq, nq, cq, fq, sgr, ar, nr, cr, fr, rfl, k1, k2, k3, k4, k5, k6, k7, k8, k9, k10, k11, k12, k13⟩
    exact ⟨sgq, aq, nq, cq, fq, sgr, ar, nr, cr, fr, 0, rfl, k1, k3, k5, hid (.inr ⟨fun h => by have := ival_nought.1 h; omega, k10, rfl⟩), k11, k12, k6, hid k7, k8, hid k9, hid ⟨k2, k4, k13⟩⟩
theorem rdivMod_both (neg neg' : Bool) (a a' : Option Addr) (n c n' c' : Nat) (f g : Nat → Nat) (w : World) (hn : n ≤ 68719476736) (hn' : n' ≤ 68719476736) (hu : Us w a n c f) (hu' : Us w a' n' c' g) :
    Calls Tryd.prog 12 #[.agg #[.bool neg, .slice a n c], .agg #[.bool neg', .slice a' n' c']] w fun e w' => ∃ sgq aq nq cq fq sgr ar nr cr fr, ∃ er : Int, e = .returned (.tuple #[.agg #[.bool sgq, .slice aq nq cq], .agg #[.bool sgr, .slice ar nr cr], .int .i64 er]) ∧ Us w' aq nq cq fq ∧ Us w' ar nr cr fr ∧ Below w.heap.size w w' ∧ Hid (DD (ival neg (val f n)) (ival neg' (val g n')) (ival sgq (val fq nq)) (ival sgr (val fr nr)) er) ∧ nq ≤ n + 3 ∧ nr ≤ 8 * (n + n') + 60 ∧ True := by
  rcases Nat.eq_zero_or_pos (val g n') with h0 | h0
  · refine (rdivMod_zero neg a n c f neg' a' n' c' g w hn hu hn' hu' h0).mono ?_
    rintro e w' ⟨rfl, hb⟩
    exact ⟨false, none, 0, 0, fun _ => 0, false, none, 0, 0, fun _ => 0, 10, rfl, Us.nil _ _, Us.nil _ _, hb, hid (.inl ⟨ival_nought.2 h0, rfl, rfl, rfl⟩), by omega, by omega, trivial⟩
  · refine (rdivMod_any neg a n c f neg' a' n' c' g w hn hu hn' hu' h0).mono ?_
    rintro e w' ⟨sgq, aq, nq, cq, fq, sgr, ar, nr, cr, fr, rfl, k1, k3, k5, k10, k11, k12⟩
    exact ⟨sgq, aq, nq, cq, fq, sgr, ar, nr, cr, fr, 0, rfl, k1, k3, k5, hid (.inr ⟨fun h => by have := ival_nought.1 h; omega, k10.out, rfl⟩), k11, k12, trivial⟩
end Go.Proofs.YticfggljaagcmaaDoor
