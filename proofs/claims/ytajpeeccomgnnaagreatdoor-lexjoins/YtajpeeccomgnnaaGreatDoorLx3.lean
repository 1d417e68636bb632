/-
  The lexer's while.
-/
import Derived.Test.YtajpeeccomgnnaaGreatDoorLx2
import Derived.BigQuiet
namespace Go.Proofs.YtajpeeccomgnnaaGreatDoor
set_option linter.all false
open Go Go.RowKit

/-- Where a row of bytes of a kind ends: so many looked at. -/
def runN (p : Nat → Bool) (s : ByteArray) : Nat → Nat → Nat
  | 0, i => i
  | k + 1, i => if i < s.size ∧ p (bt s i) = true then runN p s k (i + 1) else i
/-- Where a row of bytes of a kind ends. -/
def runE (p : Nat → Bool) (s : ByteArray) (i : Nat) : Nat := runN p s (s.size - i) i
theorem runE_step {p : Nat → Bool} {s : ByteArray} {i : Nat} (h : i < s.size) (hp : p (bt s i) = true) : runE p s i = runE p s (i + 1) := by
  unfold runE
  rw [show s.size - i = (s.size - (i + 1)) + 1 by omega, runN, if_pos ⟨h, hp⟩]
theorem runE_stop {p : Nat → Bool} {s : ByteArray} {i : Nat} (h : ¬ (i < s.size ∧ p (bt s i) = true)) : runE p s i = i := by
  unfold runE
  cases s.size - i with
  | zero => rfl
  | succ k => rw [runN, if_neg h]

set_option maxHeartbeats 4000000 in
theorem while_digit (b : Nat) (s : ByteArray) (p n : Nat) (la : Option Addr) (ln lc : Nat) (code mat : Int) (w : World) (hs : s.size ≤ 1099511627776) (hp : p + n ≤ s.size) (h : Sc w b s p la ln lc code mat) :
    Calls Tryz.prog 31 #[.pointer (some ⟨b, 0, none⟩), .int .i64 (n : Nat), .func (.func 27) #[] #[]] w fun e w' => e = .returned (.string (s.extract (p + n) (runE isDig s (p + n)))) ∧ ∃ q, w' = w.drewN q := by
  obtain ⟨_, c0, c1, _, _, _, _⟩ := h
  go_enter Tryz.func31, Tryz.ntmps31
  go_wp2
  go_loopw [7] (fun kv wr => (∃ q, wr = w.drewN q) ∧ ∃ k : Nat, n ≤ k ∧ p + k ≤ s.size ∧ kv = .int .i64 (k : Nat) ∧ Hid (runE isDig s (p + n) = runE isDig s (p + k))) (fun kv _ => s.size - (intOf kv).toNat)
  case atStart => exact ⟨⟨0, rfl⟩, n, Nat.le_refl _, hp, rfl, hid rfl⟩
  case round =>
    obtain ⟨⟨q, rfl⟩, k, hk, hkp, rfl, HR⟩ := hrel
    by_cases hc : p + k < s.size
    · have hci : (p : Int) + (k : Int) < (s.size : Int) := by omega
      have hwr : IntKind.i64.wrap ((p : Int) + (k : Int)) = (p : Int) + (k : Int) := IntWalk.i64_in _ (by omega)
      have hix : ∀ w, (Instr.index 9 (.string s) (.int .i64 ((p : Int) + (k : Int)))).run Tryz.prog w = .ok (.int .u8 (bt s (p + k) : Nat)) w := fun w => run_bt Tryz.underlying9 hc rfl
      rcases hp2 : isDig (bt s (p + k)) with _ | _
      · go_wp2
        go_quiet ((refine (digit_any _ _ (bt_lt _ _)).mono ?_; rintro e w' ⟨rfl, rfl⟩; exact ⟨congrArg (fun x => Ending.returned (Value.bool x)) hp2, _, rfl⟩))
        go_wp2
        have hwn : IntKind.i64.wrap ((p : Int) + (n : Int)) = (p : Int) + (n : Int) := IntWalk.i64_in _ (by omega)
        have hp2' := hid hp2
        clear hix hp2
        go_quiet (fail)
        go_wp2
        go_ret
        refine ⟨?_, _, by rw [World.drewN_drewN, World.drewN_drewN]⟩
        have e : runE isDig s (p + n) = p + k := by rw [HR.out, runE_stop (by rw [hp2'.out]; simp)]
        rw [e]
        rfl
      · go_wp2
        go_quiet ((refine (digit_any _ _ (bt_lt _ _)).mono ?_; rintro e w' ⟨rfl, rfl⟩; exact ⟨congrArg (fun x => Ending.returned (Value.bool x)) hp2, _, rfl⟩))
        go_wp2
        exact ⟨⟨⟨_, rfl⟩, k + 1, by omega, by omega, rfl, hid (by rw [HR.out, runE_step hc hp2]; rfl)⟩, by simp [intOf]; omega⟩
    · have hci : (s.size : Int) ≤ (p : Int) + (k : Int) := by omega
      have hd : decide ((p : Int) + (k : Int) < (s.size : Int)) = false := by rw [decide_eq_false_iff_not]; omega
      have hwr : IntKind.i64.wrap ((p : Int) + (k : Int)) = (p : Int) + (k : Int) := IntWalk.i64_in _ (by omega)
      go_wp2
      go_quiet (fail)
      go_wp2
      have hwn : IntKind.i64.wrap ((p : Int) + (n : Int)) = (p : Int) + (n : Int) := IntWalk.i64_in _ (by omega)
      clear hd
      go_quiet (fail)
      go_wp2
      go_ret
      refine ⟨?_, _, by rw [World.drewN_drewN, World.drewN_drewN]⟩
      have e : runE isDig s (p + n) = p + k := by rw [HR.out, runE_stop (fun h => hc h.1)]
      rw [e]
      rfl
set_option maxHeartbeats 4000000 in
theorem while_name (b : Nat) (s : ByteArray) (p n : Nat) (la : Option Addr) (ln lc : Nat) (code mat : Int) (w : World) (hs : s.size ≤ 1099511627776) (hp : p + n ≤ s.size) (h : Sc w b s p la ln lc code mat) :
    Calls Tryz.prog 31 #[.pointer (some ⟨b, 0, none⟩), .int .i64 (n : Nat), .func (.func 32) #[] #[]] w fun e w' => e = .returned (.string (s.extract (p + n) (runE isNam s (p + n)))) ∧ ∃ q, w' = w.drewN q := by
  obtain ⟨_, c0, c1, _, _, _, _⟩ := h
  go_enter Tryz.func31, Tryz.ntmps31
  go_wp2
  go_loopw [7] (fun kv wr => (∃ q, wr = w.drewN q) ∧ ∃ k : Nat, n ≤ k ∧ p + k ≤ s.size ∧ kv = .int .i64 (k : Nat) ∧ Hid (runE isNam s (p + n) = runE isNam s (p + k))) (fun kv _ => s.size - (intOf kv).toNat)
  case atStart => exact ⟨⟨0, rfl⟩, n, Nat.le_refl _, hp, rfl, hid rfl⟩
  case round =>
    obtain ⟨⟨q, rfl⟩, k, hk, hkp, rfl, HR⟩ := hrel
    by_cases hc : p + k < s.size
    · have hci : (p : Int) + (k : Int) < (s.size : Int) := by omega
      have hwr : IntKind.i64.wrap ((p : Int) + (k : Int)) = (p : Int) + (k : Int) := IntWalk.i64_in _ (by omega)
      have hix : ∀ w, (Instr.index 9 (.string s) (.int .i64 ((p : Int) + (k : Int)))).run Tryz.prog w = .ok (.int .u8 (bt s (p + k) : Nat)) w := fun w => run_bt Tryz.underlying9 hc rfl
      rcases hp2 : isNam (bt s (p + k)) with _ | _
      · go_wp2
        go_quiet ((refine (inName_any _ _ (bt_lt _ _)).mono ?_; rintro e w' ⟨rfl, rfl⟩; exact ⟨congrArg (fun x => Ending.returned (Value.bool x)) hp2, _, rfl⟩))
        go_wp2
        have hwn : IntKind.i64.wrap ((p : Int) + (n : Int)) = (p : Int) + (n : Int) := IntWalk.i64_in _ (by omega)
        have hp2' := hid hp2
        clear hix hp2
        go_quiet (fail)
        go_wp2
        go_ret
        refine ⟨?_, _, by rw [World.drewN_drewN, World.drewN_drewN]⟩
        have e : runE isNam s (p + n) = p + k := by rw [HR.out, runE_stop (by rw [hp2'.out]; simp)]
        rw [e]
        rfl
      · go_wp2
        go_quiet ((refine (inName_any _ _ (bt_lt _ _)).mono ?_; rintro e w' ⟨rfl, rfl⟩; exact ⟨congrArg (fun x => Ending.returned (Value.bool x)) hp2, _, rfl⟩))
        go_wp2
        exact ⟨⟨⟨_, rfl⟩, k + 1, by omega, by omega, rfl, hid (by rw [HR.out, runE_step hc hp2]; rfl)⟩, by simp [intOf]; omega⟩
    · have hci : (s.size : Int) ≤ (p : Int) + (k : Int) := by omega
      have hd : decide ((p : Int) + (k : Int) < (s.size : Int)) = false := by rw [decide_eq_false_iff_not]; omega
      have hwr : IntKind.i64.wrap ((p : Int) + (k : Int)) = (p : Int) + (k : Int) := IntWalk.i64_in _ (by omega)
      go_wp2
      go_quiet (fail)
      go_wp2
      have hwn : IntKind.i64.wrap ((p : Int) + (n : Int)) = (p : Int) + (n : Int) := IntWalk.i64_in _ (by omega)
      clear hd
      go_quiet (fail)
      go_wp2
      go_ret
      refine ⟨?_, _, by rw [World.drewN_drewN, World.drewN_drewN]⟩
      have e : runE isNam s (p + n) = p + k := by rw [HR.out, runE_stop (fun h => hc h.1)]
      rw [e]
      rfl
set_option maxHeartbeats 4000000 in
theorem while_sym (b : Nat) (s : ByteArray) (p n : Nat) (la : Option Addr) (ln lc : Nat) (code mat : Int) (w : World) (hs : s.size ≤ 1099511627776) (hp : p + n ≤ s.size) (h : Sc w b s p la ln lc code mat) :
    Calls Tryz.prog 31 #[.pointer (some ⟨b, 0, none⟩), .int .i64 (n : Nat), .func (.func 35) #[] #[]] w fun e w' => e = .returned (.string (s.extract (p + n) (runE isSym s (p + n)))) ∧ ∃ q, w' = w.drewN q := by
  obtain ⟨_, c0, c1, _, _, _, _⟩ := h
  go_enter Tryz.func31, Tryz.ntmps31
  go_wp2
  go_loopw [7] (fun kv wr => (∃ q, wr = w.drewN q) ∧ ∃ k : Nat, n ≤ k ∧ p + k ≤ s.size ∧ kv = .int .i64 (k : Nat) ∧ Hid (runE isSym s (p + n) = runE isSym s (p + k))) (fun kv _ => s.size - (intOf kv).toNat)
  case atStart => exact ⟨⟨0, rfl⟩, n, Nat.le_refl _, hp, rfl, hid rfl⟩
  case round =>
    obtain ⟨⟨q, rfl⟩, k, hk, hkp, rfl, HR⟩ := hrel
    by_cases hc : p + k < s.size
    · have hci : (p : Int) + (k : Int) < (s.size : Int) := by omega
      have hwr : IntKind.i64.wrap ((p : Int) + (k : Int)) = (p : Int) + (k : Int) := IntWalk.i64_in _ (by omega)
      have hix : ∀ w, (Instr.index 9 (.string s) (.int .i64 ((p : Int) + (k : Int)))).run Tryz.prog w = .ok (.int .u8 (bt s (p + k) : Nat)) w := fun w => run_bt Tryz.underlying9 hc rfl
      rcases hp2 : isSym (bt s (p + k)) with _ | _
      · go_wp2
        go_quiet ((refine (symbol_any _ _ (bt_lt _ _)).mono ?_; rintro e w' ⟨rfl, rfl⟩; exact ⟨congrArg (fun x => Ending.returned (Value.bool x)) hp2, _, rfl⟩))
        go_wp2
        have hwn : IntKind.i64.wrap ((p : Int) + (n : Int)) = (p : Int) + (n : Int) := IntWalk.i64_in _ (by omega)
        have hp2' := hid hp2
        clear hix hp2
        go_quiet (fail)
        go_wp2
        go_ret
        refine ⟨?_, _, by rw [World.drewN_drewN, World.drewN_drewN]⟩
        have e : runE isSym s (p + n) = p + k := by rw [HR.out, runE_stop (by rw [hp2'.out]; simp)]
        rw [e]
        rfl
      · go_wp2
        go_quiet ((refine (symbol_any _ _ (bt_lt _ _)).mono ?_; rintro e w' ⟨rfl, rfl⟩; exact ⟨congrArg (fun x => Ending.returned (Value.bool x)) hp2, _, rfl⟩))
        go_wp2
        exact ⟨⟨⟨_, rfl⟩, k + 1, by omega, by omega, rfl, hid (by rw [HR.out, runE_step hc hp2]; rfl)⟩, by simp [intOf]; omega⟩
    · have hci : (s.size : Int) ≤ (p : Int) + (k : Int) := by omega
      have hd : decide ((p : Int) + (k : Int) < (s.size : Int)) = false := by rw [decide_eq_false_iff_not]; omega
      have hwr : IntKind.i64.wrap ((p : Int) + (k : Int)) = (p : Int) + (k : Int) := IntWalk.i64_in _ (by omega)
      go_wp2
      go_quiet (fail)
      go_wp2
      have hwn : IntKind.i64.wrap ((p : Int) + (n : Int)) = (p : Int) + (n : Int) := IntWalk.i64_in _ (by omega)
      clear hd
      go_quiet (fail)
      go_wp2
      go_ret
      refine ⟨?_, _, by rw [World.drewN_drewN, World.drewN_drewN]⟩
      have e : runE isSym s (p + n) = p + k := by rw [HR.out, runE_stop (fun h => hc h.1)]
      rw [e]
      rfl
end Go.Proofs.YtajpeeccomgnnaaGreatDoor
