/-
  big.trim, big.made and what is built on them, walked: integers by their worth.
-/
import Derived.Test.YticfggljaagcmaaDoorDiv1
namespace Go.Proofs.YticfggljaagcmaaDoor
set_option linter.all false
open Go.RowKit

/-- A slice's length, for a measure. -/
def lenV : Value → Nat | .slice _ n _ => n | _ => 0
/-- What a sign and a magnitude are worth. -/
def ival (neg : Bool) (x : Nat) : Int := if neg then -(x : Int) else x
/-- An integer is answered: in new memory, as it should stand, worth z, of at most L limbs. -/
def ResI (w w' : World) (z : Int) (L : Nat) (e : Ending) : Prop :=
  ∃ sg a n c f, e = .returned (.agg #[.bool sg, .slice a n c]) ∧ Us w' a n c f ∧ New w' w.heap.size a c ∧ Below w.heap.size w w' ∧ Nm f n ∧ (n = 0 → sg = false) ∧ ival sg (val f n) = z ∧ n ≤ L
theorem Us.none {w : World} {n c : Nat} {f : Nat → Nat} (k : Us w none n c f) : n = 0 ∧ c = 0 := by
  have h : c = 0 := by
    rcases Nat.eq_zero_or_pos c with h | h
    · exact h
    · obtain ⟨b, o, e, _⟩ := k.cell 0 h; cases e
  have := k.le
  exact ⟨by omega, h⟩

set_option maxHeartbeats 1000000 in
theorem trim_any (a : Option Addr) (n c : Nat) (f : Nat → Nat) (w : World) (hn : n ≤ 4398046511104) (hu : Us w a n c f) :
    Calls Tryd.prog 51 #[.slice a n c] w fun e w' => ∃ a' n' c' h, e = .returned (.slice a' n' c') ∧ Us w' a' n' c' h ∧ New w' w.heap.size a' c' ∧ Below w.heap.size w w' ∧ Nm h n' ∧ val h n' = val f n ∧ n' ≤ n := by
  have hle := hu.le
  go_enter Tryd.func51, Tryd.ntmps51
  go_wp2
  go_loop [0] (fun v => ∃ k : Nat, k ≤ n ∧ nrm f k = nrm f n ∧ v = .slice a k c) (fun v => lenV v)
  case atStart => exact ⟨n, Nat.le_refl _, rfl, rfl⟩
  case round =>
    obtain ⟨k, hk, hkn, rfl⟩ := hrel
    have HK := hid hkn
    clear hkn
    have HU := hu.mono hk
    have hz : ∀ a0, a = a0 → a0 = none → k = 0 ∧ c = 0 := by rintro _ rfl rfl; exact HU.none
    by_cases h0 : 0 < k ∧ f (k - 1) = 0
    · obtain ⟨hk0, hf0⟩ := h0
      obtain ⟨j, rfl⟩ : ∃ j, k = j + 1 := ⟨k - 1, by omega⟩
      simp at hf0
      obtain ⟨b, off, rfl, hcell⟩ := hu.cell j (by omega)
      rw [hf0] at hcell
      have hjc : j + 1 ≤ c := by omega
      have hc0 : ¬ c = 0 := by omega
      have HF := hid hf0
      clear hf0 hz
      go_wp2
      refine ⟨⟨j, by omega, ?_, rfl⟩, by simp [lenV]⟩
      rw [← HK.out]
      conv => rhs; unfold nrm
      rw [if_pos HF.out]
    · have hnm : nrm f n = k := by
        rw [← HK.out]
        cases k with
        | zero => rfl
        | succ j => unfold nrm; rw [if_neg (by simpa using h0)]
      have HN := hid hnm
      clear hnm
      rcases hk1 : k with _ | j
      · subst hk1
        clear h0
        go_wp2_with (go_at_call 74; refine (clone_any _ _ _ _ _ (by omega) HU (by intro h; exact hz _ rfl h)).mono ?_; rintro e w' ⟨a', c', h, rfl, h1, h2, h3, h4⟩)
        go_ret
        refine ⟨_, _, _, _, rfl, h1, h2, h3, .inl rfl, ?_, by omega⟩
        rw [← val_nrm f n, HN.out]; rfl
      · subst hk1
        have hfj : ¬ f j = 0 := by simpa using h0
        have hfi : ¬ (f j : Int) = 0 := by omega
        obtain ⟨b, off, rfl, hcell⟩ := hu.cell j (by omega)
        clear h0
        go_wp2_with (go_at_call 74; refine (clone_any _ _ _ _ _ (by omega) HU (by intro h; cases h)).mono ?_; rintro e w' ⟨a', c', h, rfl, h1, h2, h3, h4⟩)
        go_ret
        refine ⟨_, _, _, _, rfl, h1, h2, h3, Nm.congr (f := f) (.inr (by simpa using hfj)) h4, ?_, by omega⟩
        rw [val_congr h4, ← HN.out, val_nrm]

theorem Us.apart {w : World} {a : Option Addr} {n c base : Nat} {h : Nat → Nat} (k : Us w a n c h) (u : New w base a c) {p : Addr} (hp : p.block < base) (x : Value) : Us (w.setCell p x) a n c h :=
  ⟨k.le, k.mx, k.lm, fun i hi => by
    obtain ⟨b, off, e, h1, _⟩ := u i hi
    subst e
    exact ⟨b, off, rfl, by rw [World.cell?_setCell_other _ _ _ _ (by intro h; subst h; simp at hp; omega)]; exact k.cs i hi⟩⟩
theorem new2 {w w1 : World} {v0 v1 : Value} {T : TypeId} (hb : Below (w.alloc (.cells #[v0, v1] T)).heap.size (w.alloc (.cells #[v0, v1] T)) w1) :
    w1.cell? ⟨w.heap.size, 0, none⟩ = some v0 ∧ w1.cell? ⟨w.heap.size, 1, none⟩ = some v1 ∧ w1.frozen? ⟨w.heap.size, 0, none⟩ = false ∧ w1.frozen? ⟨w.heap.size, 1, none⟩ = false ∧ w.heap.size < w1.heap.size := by
  have hlt : w.heap.size < (w.alloc (.cells #[v0, v1] T)).heap.size := by simp
  refine ⟨?_, ?_, ?_, ?_, Nat.lt_of_lt_of_le hlt hb.size⟩
  · rw [hb.cell (p := ⟨w.heap.size, 0, none⟩) hlt, World.cell?_alloc_new]; rfl
  · rw [hb.cell (p := ⟨w.heap.size, 1, none⟩) hlt, World.cell?_alloc_new]; rfl
  · rw [hb.frozen (p := ⟨w.heap.size, 0, none⟩) hlt, World.frozen?_alloc_new]
  · rw [hb.frozen (p := ⟨w.heap.size, 1, none⟩) hlt, World.frozen?_alloc_new]

set_option maxHeartbeats 1000000 in
theorem made_any (neg : Bool) (a : Option Addr) (n c : Nat) (f : Nat → Nat) (w : World) (hn : n ≤ 4398046511104) (hu : Us w a n c f) :
    Calls Tryd.prog 45 #[.bool neg, .slice a n c] w fun e w' => ResI w w' (ival neg (val f n)) n e := by
  cases neg
  all_goals
    go_enter Tryd.func45, Tryd.ntmps45
    go_wp2_with (go_at_call 51; refine (trim_any _ _ _ _ _ (by omega) (hu.alloc _)).mono ?_; rintro e w1 ⟨a', n', c', h, rfl, k1, k2, k3, k4, k5, k6⟩; obtain ⟨r0, r1, r2, r3, r4⟩ := new2 k3; have K5 := hid k5; clear k5)
    have k2' : New w1 (w.heap.size + 1) a' c' := k2.mono (by simp)
    have k3' : Below w.heap.size w w1 := (below_alloc w _).trans (k3.mono (by simp))
    refine bodyPost_ret (by simp [results, Tryd.results45, go_sem, r0, r1]; rfl) rfl ⟨_, a', n', c', h, rfl, (k1.apart k2' (by simp) _).apart (k2'.set _ _) (by simp) _, ((k2'.set _ _).set _ _).mono (by omega), (k3'.setCell (by simp) _).setCell (by simp) _, k4, ?_, ?_, k6⟩
  · intro _; rfl
  · rw [K5.out]
  · intro e; subst e; rfl
  · rw [← K5.out]
    by_cases e : 0 < n'
    · simp [e]
    · have : n' = 0 := by omega
      subst this
      simp [ival, val]
end Go.Proofs.YticfggljaagcmaaDoor
