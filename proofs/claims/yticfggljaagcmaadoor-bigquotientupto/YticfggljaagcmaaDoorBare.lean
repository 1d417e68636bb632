/-
  big.bare, walked: the same memory without the noughts at its end.
-/
import Derived.Test.YticfggljaagcmaaDoorRows
import Derived.Test.YticfggljaagcmaaDoorBase
namespace Go.Proofs.YticfggljaagcmaaDoor
set_option linter.all false
open Go.RowKit

set_option maxHeartbeats 400000 in
theorem bare_cap (a : Option Addr) (n c : Nat) (h : Nat → Nat) (w : World) (hn : n ≤ 4398046511104) (hle : n ≤ c) (hu : Us w a n n h) :
    Calls Tryd.prog 64 #[.slice a n c] w fun e w' => e = .returned (.slice a (nrm h n) (nrm h n)) ∧ w = w' := by
  have hf := hu.cell
  clear hu
  go_enter Tryd.func64, Tryd.ntmps64
  go_wp2
  go_step3
  go_wp2
  go_step3
  go_wp2
  go_loop [3] (fun v => ∃ k : Nat, k ≤ n ∧ nrm h k = nrm h n ∧ v = .int .i64 k) (fun v => (intOf v).toNat)
  case atStart => exact ⟨n, Nat.le_refl _, rfl, rfl⟩
  case round =>
    obtain ⟨k, hk, hkn, rfl⟩ := hrel
    cases k with
    | zero =>
      have e0 : nrm h n = 0 := hkn.symm
      have E := hid e0
      clear e0 hkn hf
      go_wp2
      rw [E.out]
      go_ret
      exact ⟨rfl, rfl⟩
    | succ k =>
      obtain ⟨b, off, rfl, hcell⟩ := hf k (by omega)
      clear hf
      by_cases h0 : h k = 0
      · have hx : ((h k : Nat) : Int) = 0 := by omega
        rw [hx] at hcell
        have E : nrm h (k + 1) = nrm h k := by unfold nrm; rw [if_pos h0]; cases k <;> rfl
        rw [E] at hkn
        have E := hid hkn
        clear hx h0 hkn
        go_wp2
        exact ⟨⟨k, by omega, E.out, rfl⟩, by simp [intOf]⟩
      · have E : nrm h (k + 1) = k + 1 := by unfold nrm; rw [if_neg h0]
        rw [E] at hkn
        have E := hid hkn
        clear hkn
        go_wp2
        rw [← E.out]
        go_ret
        exact ⟨rfl, rfl⟩
theorem bare_any (a : Option Addr) (n c : Nat) (h : Nat → Nat) (w : World) (hn : n ≤ 4398046511104) (hu : Us w a n c h) :
    Calls Tryd.prog 64 #[.slice a n c] w fun e w' => e = .returned (.slice a (nrm h n) (nrm h n)) ∧ w = w' :=
  bare_cap a n c h w hn hu.le (hu.cut (Nat.le_refl n) hu.le)
end Go.Proofs.YticfggljaagcmaaDoor
