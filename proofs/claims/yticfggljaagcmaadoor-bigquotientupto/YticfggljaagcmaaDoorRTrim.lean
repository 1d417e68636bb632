/-
  The reference's trim and at, walked: magnitudes by their worth.
-/
import Derived.Test.YticfggljaagcmaaDoorShort
import Derived.Test.YticfggljaagcmaaDoorCopy
namespace Go.Proofs.YticfggljaagcmaaDoor
set_option linter.all false
open Go.RowKit

/-- A magnitude is answered: in new memory, without noughts at its end, worth v. -/
def ResM (w w' : World) (v : Nat) (L : Nat) (e : Ending) : Prop :=
  ∃ a n c f, e = .returned (.slice a n c) ∧ Us w' a n c f ∧ New w' w.heap.size a c ∧ Below w.heap.size w w' ∧ Nm f n ∧ Hid (val f n = v) ∧ n ≤ L

theorem rtrim_fin {w w' : World} {a : Option Addr} {n c k : Nat} {f h : Nat → Nat} (hu : Us w a n c f) (hn : n ≤ 4398046511104) (hk : k ≤ n) (hN : nrm f n = k) (hC : Cs w' w.heap.size 0 k (fun i => if i < n then f i else h i)) (hF : Fr w' w.heap.size 0 k) (hB : Below w.heap.size w w') :
    ResM w w' (val f n) n (.returned (.slice (some ⟨w.heap.size, 0, none⟩) k k)) := by
  have hle := hu.le
  have C2 : Cs w' w.heap.size 0 k f := fun i hi => by
    have := hC i hi
    simp only [show i < n by omega, if_true] at this
    exact this
  have hnm2 := nrm_nm f n
  rw [hN] at hnm2
  exact ⟨_, k, k, f, rfl, C2.us (Nat.le_refl _) (by unfold maxLen; omega) (hu.lm.mono (by omega)), hF.new (Nat.le_refl _), hB, hnm2, hid (by rw [← hN, val_nrm]), hk⟩

set_option maxHeartbeats 1000000 in
theorem rtrim_any (a : Option Addr) (n c : Nat) (f : Nat → Nat) (w : World) (hn : n ≤ 4398046511104) (hu : Us w a n c f) :
    Calls Tryd.prog 47 #[.slice a n c] w fun e w' => ResM w w' (val f n) n e := by
  have hle := hu.le
  go_enter Tryd.func47, Tryd.ntmps47
  go_wp2
  go_loop [3] (fun v => ∃ k : Nat, k ≤ n ∧ nrm f k = nrm f n ∧ v = .int .i64 k) (fun v => (intOf v).toNat)
  case atStart => exact ⟨n, Nat.le_refl _, rfl, rfl⟩
  case round =>
    obtain ⟨k, hk, hkn, rfl⟩ := hrel
    have HK := hid hkn
    clear hkn
    by_cases h0 : 0 < k ∧ f (k - 1) = 0
    · obtain ⟨hk0, hf0⟩ := h0
      obtain ⟨j, rfl⟩ : ∃ j, k = j + 1 := ⟨k - 1, by omega⟩
      simp at hf0
      obtain ⟨b, off, rfl, hcell⟩ := hu.cell j (by omega)
      rw [hf0] at hcell
      have HF := hid hf0
      clear hf0
      go_wp2
      refine ⟨⟨j, by omega, ?_, by congr 1⟩, by simp [intOf]⟩
      rw [← HK.out]
      conv => rhs; unfold nrm
      rw [if_pos HF.out]
    · have hnm : nrm f n = k := by
        rw [← HK.out]
        cases k with
        | zero => rfl
        | succ j => unfold nrm; rw [if_neg (by simpa using h0)]
      have HN := hid hnm
      clear hnm
      rcases hk1 : k with _ | j
      · subst hk1
        clear h0
        go_wp2_with (at_make; refine wpList_make_arr _ rfl _ _ 22 rfl 58 (.int .u32 0) 4 Tryd.underlying22 Tryd.info58 rfl _ _ _ _ 0 rfl rfl (by omega) (by omega) (by omega) (by omega) ?_)
        intro w1 hf1 hb1 hs1
        have hc1 : ∀ i, i < 0 → w1.cell? ⟨w.heap.size, i, none⟩ = some (.int .u32 0) := fun i hi => by omega
        have C1 := Cs.made hc1
        have F1 : Fr w1 w.heap.size 0 0 := (fun i _ => hf1 _)
        clear hc1 hf1 hs1
        go_wp2_with ((with_reducible show wpList _ _ _ (Oper.mk (some 23) _ _ _ _ _ :: _) _ _); refine wpList_copy_u32 _ rfl _ _ 22 22 rfl 58 Tryd.underlying22 Tryd.info58 _ _ _ _ _ _ _ _ _ rfl rfl C1 F1 (hu.below hb1 (Nat.le_refl _)) w.heap.size (Nat.le_refl _) ?_)
        intro w2 C2 F2 b2 s2
        clear s2
        go_wp2
        go_ret
        exact rtrim_fin hu (by omega) hk HN.out C2 F2 (hb1.trans b2)
      · subst hk1
        have hfj : ¬ f j = 0 := by simpa using h0
        have hfi : ¬ (f j : Int) = 0 := by omega
        obtain ⟨b, off, rfl, hcell⟩ := hu.cell j (by omega)
        clear h0
        go_wp2_with (at_make; refine wpList_make_arr _ rfl _ _ 22 rfl 58 (.int .u32 0) 4 Tryd.underlying22 Tryd.info58 rfl _ _ _ _ (j + 1) rfl rfl (by omega) (by omega) (by omega) (by omega) ?_)
        intro w1 hc1 hf1 hb1 hs1
        have C1 := Cs.made hc1
        have F1 : Fr w1 w.heap.size 0 (j + 1) := (fun i _ => hf1 _)
        clear hc1 hf1 hs1
        go_wp2_with ((with_reducible show wpList _ _ _ (Oper.mk (some 23) _ _ _ _ _ :: _) _ _); refine wpList_copy_u32 _ rfl _ _ 22 22 rfl 58 Tryd.underlying22 Tryd.info58 _ _ _ _ _ _ _ _ _ rfl rfl C1 F1 (hu.below hb1 (Nat.le_refl _)) w.heap.size (Nat.le_refl _) ?_)
        intro w2 C2 F2 b2 s2
        clear s2
        go_wp2
        go_ret
        exact rtrim_fin hu (by omega) hk HN.out C2 F2 (hb1.trans b2)

set_option maxHeartbeats 400000 in
/-- The limb at a place; 0 behind the end. -/
theorem at_any (a : Option Addr) (n c i : Nat) (f : Nat → Nat) (w : World) (hn : n ≤ 4398046511104) (hu : Us w a n c f) :
    Calls Tryd.prog 80 #[.slice a n c, .int .i64 i] w fun e w' => e = .returned (.int .u64 (ex f n i : Nat)) ∧ w' = w := by
  have hle := hu.le
  by_cases hi : i < n
  · have e1 : ex f n i = f i := by simp [ex, hi]
    have lk := hu.lm i (by omega)
    rw [e1]
    obtain ⟨b, off, rfl, hcell⟩ := hu.cell i (by omega)
    clear e1
    go_enter Tryd.func80, Tryd.ntmps80
    go_wp2
    go_ret
    exact ⟨rfl, rfl⟩
  · have e1 : ex f n i = 0 := by simp [ex, hi]
    rw [e1]
    clear e1
    go_enter Tryd.func80, Tryd.ntmps80
    go_wp2
    go_ret
    exact ⟨rfl, rfl⟩
end Go.Proofs.YticfggljaagcmaaDoor
