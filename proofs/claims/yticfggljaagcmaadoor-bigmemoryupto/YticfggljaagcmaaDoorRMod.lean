/-
  The reference's Mod, walked.
-/
import Derived.Test.YticfggljaagcmaaDoorDivBoth
namespace Go.Proofs.YticfggljaagcmaaDoor
set_option linter.all false
open Go.RowKit

/-- A cell of another kind is none of the slice's. -/
theorem us_kind {w : World} {a : Option Addr} {n c : Nat} {h : Nat → Nat} (k : Us w a n c h) {p : Addr} {v : Value} (hp : w.cell? p = some v) (hv : ∀ x, v ≠ .int .u32 x) (y : Value) : Us (w.setCell p y) a n c h :=
  ⟨k.le, k.mx, k.lm, fun i hi => by
    obtain ⟨b, off, e, hc⟩ := k.cell i hi
    exact ⟨b, off, e, by rw [World.cell?_setCell_other _ _ _ _ (by intro h; subst h; rw [hc] at hp; exact hv _ (Option.some.inj hp).symm)]; exact hc⟩⟩

set_option maxHeartbeats 4000000 in
theorem rmod_any (neg neg' : Bool) (a a' : Option Addr) (n c n' c' : Nat) (f g : Nat → Nat) (w : World) (hn : n ≤ 68719476736) (hn' : n' ≤ 68719476736) (hu : Us w a n c f) (hu' : Us w a' n' c' g) :
    Calls Tryd.prog 27 #[.agg #[.bool neg, .slice a n c], .agg #[.bool neg', .slice a' n' c']] w fun e w' => ∃ sgr ar nr cr fr, ∃ q er : Int, e = .returned (.agg #[.bool sgr, .slice ar nr cr]) ∧ Us w' ar nr cr fr ∧ Below w.heap.size w w' ∧ Hid (DD (ival neg (val f n)) (ival neg' (val g n')) q (ival sgr (val fr nr)) er) ∧ nr ≤ 8 * (n + n') + 60 := by
  have hW : (((w.alloc (.cells #[.bool neg, .slice a n c] 24)).alloc (.cells #[.bool neg', .slice a' n' c'] 24)).alloc (.cells #[.bool false, .slice none 0 0] 24)).heap.size = w.heap.size + 1 + 1 + 1 := by simp
  have b0 := below_alloc3 w (.cells #[.bool neg, .slice a n c] 24) (.cells #[.bool neg', .slice a' n' c'] 24) (.cells #[.bool false, .slice none 0 0] 24)
  have hBy : Bx (((w.alloc (.cells #[.bool neg, .slice a n c] 24)).alloc (.cells #[.bool neg', .slice a' n' c'] 24)).alloc (.cells #[.bool false, .slice none 0 0] 24)) (w.heap.size + 1 + 1) (.bool false) (.slice none 0 0) := by simpa using Bx.made ((w.alloc (.cells #[.bool neg, .slice a n c] 24)).alloc (.cells #[.bool neg', .slice a' n' c'] 24)) (.bool false) (.slice none 0 0) 24
  have u1 := hu.alloc3 (.cells #[.bool neg, .slice a n c] 24) (.cells #[.bool neg', .slice a' n' c'] 24) (.cells #[.bool false, .slice none 0 0] 24)
  have u2 := hu'.alloc3 (.cells #[.bool neg, .slice a n c] 24) (.cells #[.bool neg', .slice a' n' c'] 24) (.cells #[.bool false, .slice none 0 0] 24)
  go_enter Tryd.func27, Tryd.ntmps27
  go_upto_region 2 with (go_at_call 12; refine (rdivMod_both _ _ _ _ _ _ _ _ _ _ _ (by omega) (by omega) u1 u2).mono ?_; rintro e w1 ⟨sgq, aq, nq, cq, fq, sgr, ar, nr, cr, fr, er, rfl, k1, k2, k3, k4, k5, k6, _⟩; have By := hBy.keep k3; have Hw1 := b0.trans (k3.mono b0.size))
  have Br := Bx.made2 w1 (.bool sgq) (.slice aq nq cq) (.bool sgr) (.slice ar nr cr) 24
  have By2 := (By.alloc (.cells #[.bool sgq, .slice aq nq cq] 24)).alloc (.cells #[.bool sgr, .slice ar nr cr] 24)
  have Hw2 := Hw1.trans ((below_alloc2 w1 (.cells #[.bool sgq, .slice aq nq cq] 24) (.cells #[.bool sgr, .slice ar nr cr] 24)).mono Hw1.size)
  have Ur := (k2.alloc (.cells #[.bool sgq, .slice aq nq cq] 24)).alloc (.cells #[.bool sgr, .slice ar nr cr] 24)
  generalize (w1.alloc (.cells #[.bool sgq, .slice aq nq cq] 24)).alloc (.cells #[.bool sgr, .slice ar nr cr] 24) = w2 at Br By2 Hw2 Ur ⊢
  have r0 := Br.c0
  have r1 := Br.c1
  have y0 := By2.c0
  have y1 := By2.c1
  have fy := By2.fr
  have ny : w.heap.size + 1 + 1 ≠ w1.heap.size + 1 := by have := By.lt; omega
  clear hu hu' u1 u2 hBy By
  go_wp2
  have V1 := us_kind Ur y0 (fun _ h => by cases h) (.bool sgr)
  have V2 := us_kind V1 (p := ⟨w.heap.size + 1 + 1, 1, none⟩) (v := .slice none 0 0) (by simp [go_sem, y1]) (fun _ h => by cases h) (.slice ar nr cr)
  refine bodyPost_ret (v := .agg #[.bool sgr, .slice ar nr cr]) (by simp [results, Tryd.results27, go_sem, y0, y1]) rfl ⟨sgr, ar, nr, cr, fr, _, er, rfl, V2, (Hw2.setCell (by simp; omega) _).setCell (by simp; omega) _, k4, k6⟩
end Go.Proofs.YticfggljaagcmaaDoor
