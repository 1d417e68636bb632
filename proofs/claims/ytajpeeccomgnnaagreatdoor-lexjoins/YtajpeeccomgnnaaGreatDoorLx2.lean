/-
  The lexer's kinds of bytes.
-/
import Derived.Test.YtajpeeccomgnnaaGreatDoorLx1
namespace Go.Proofs.YtajpeeccomgnnaaGreatDoor
set_option linter.all false
open Go Go.RowKit

def isLet (c : Nat) : Bool := decide (97 ≤ c ∧ c ≤ 122 ∨ 65 ≤ c ∧ c ≤ 90)
def isDig (c : Nat) : Bool := decide (48 ≤ c ∧ c ≤ 57)
def isNam (c : Nat) : Bool := isLet c || isDig c || decide (c = 95) || decide (c = 39)
def symL : List UInt8 := [33, 37, 38, 36, 35, 43, 45, 47, 58, 60, 61, 62, 63, 64, 92, 126, 96, 94, 124, 42]
def oneL : List UInt8 := [40, 41, 91, 93, 123, 125, 44, 59, 95]
def isSym (c : Nat) : Bool := decide (0 ≤ Lib.indexByte symL c.toUInt8)
def isOne (c : Nat) : Bool := decide (0 ≤ Lib.indexByte oneL c.toUInt8)
theorem let_bits : ∀ c : Nat, c < 256 → (isLet c = (decide (97 ≤ bits .or .u8 (c : Int) 32) && decide (bits .or .u8 (c : Int) 32 ≤ 122))) := by decide +kernel

set_option maxHeartbeats 1000000 in
theorem letter_any (c : Nat) (w : World) (hc : c < 256) :
    Calls Tryz.prog 25 #[.int .u8 (c : Nat)] w fun e w' => e = .returned (.bool (isLet c)) ∧ w' = w := by
  have hb := hid (let_bits c hc)
  go_enter Tryz.func25, Tryz.ntmps25
  go_wp2
  · have h : 97 ≤ bits .or .u8 (c : Int) 32 := by assumption
    go_ret
    refine ⟨?_, rfl⟩
    rw [hb.out, decide_eq_true h, Bool.true_and]; rfl
  · have h : bits .or .u8 (c : Int) 32 < 97 := by assumption
    go_ret
    refine ⟨?_, rfl⟩
    rw [hb.out, decide_eq_false (by omega), Bool.false_and]; rfl
set_option maxHeartbeats 1000000 in
theorem digit_any (c : Nat) (w : World) (hc : c < 256) :
    Calls Tryz.prog 27 #[.int .u8 (c : Nat)] w fun e w' => e = .returned (.bool (isDig c)) ∧ w' = w := by
  go_enter Tryz.func27, Tryz.ntmps27
  go_wp2
  · have h : (48 : Int) ≤ c := by assumption
    go_ret
    refine ⟨?_, rfl⟩
    have e : isDig c = decide ((c : Int) ≤ 57) := by unfold isDig; rw [decide_eq_decide]; omega
    rw [e]; rfl
  · have h : (c : Int) < 48 := by assumption
    go_ret
    refine ⟨?_, rfl⟩
    have e : isDig c = false := by unfold isDig; rw [decide_eq_false_iff_not]; omega
    rw [e]; rfl
set_option maxHeartbeats 1000000 in
theorem inName_any (c : Nat) (w : World) (hc : c < 256) :
    Calls Tryz.prog 32 #[.int .u8 (c : Nat)] w fun e w' => e = .returned (.bool (isNam c)) ∧ w' = w := by
  rcases hl : isLet c with _ | _
  · rcases hd : isDig c with _ | _
    · go_enter Tryz.func32, Tryz.ntmps32
      go_wp2_with (first | (go_at_call 25; refine (letter_any _ _ hc).mono ?_; rintro e w' ⟨rfl, rfl⟩; rw [hl]) | (go_at_call 27; refine (digit_any _ _ hc).mono ?_; rintro e w' ⟨rfl, rfl⟩; rw [hd]))
      · have h : (c : Int) = 95 := by assumption
        go_ret
        have h2 : c = 95 := by omega
        subst h2
        exact ⟨rfl, rfl⟩
      · have h : ¬ (c : Int) = 95 := by assumption
        go_ret
        refine ⟨?_, rfl⟩
        have e : isNam c = ((c : Int) == 95 || (c : Int) == 39) := by
          unfold isNam; rw [hl, hd]
          by_cases h3 : c = 39
          · subst h3; rfl
          · have h4 : ¬ c = 95 := by omega
            simp [h3, h4]; omega
        rw [e]; rfl
    · go_enter Tryz.func32, Tryz.ntmps32
      go_wp2_with (first | (go_at_call 25; refine (letter_any _ _ hc).mono ?_; rintro e w' ⟨rfl, rfl⟩; rw [hl]) | (go_at_call 27; refine (digit_any _ _ hc).mono ?_; rintro e w' ⟨rfl, rfl⟩; rw [hd]))
      go_ret
      exact ⟨by unfold isNam; rw [hl, hd]; rfl, rfl⟩
  · go_enter Tryz.func32, Tryz.ntmps32
    go_wp2_with (go_at_call 25; refine (letter_any _ _ hc).mono ?_; rintro e w' ⟨rfl, rfl⟩; rw [hl])
    go_ret
    exact ⟨by unfold isNam; rw [hl]; rfl, rfl⟩
set_option maxHeartbeats 1000000 in
theorem symbol_any (c : Nat) (w : World) (hc : c < 256) :
    Calls Tryz.prog 35 #[.int .u8 (c : Nat)] w fun e w' => e = .returned (.bool (isSym c)) ∧ w' = w := by
  go_enter Tryz.func35, Tryz.ntmps35
  go_wp2_with (go_at_call 33; refine (Tryz.strings_IndexByte _ _ _).mono ?_; rintro e w' ⟨rfl, rfl⟩)
  go_ret
  exact ⟨rfl, rfl⟩
end Go.Proofs.YtajpeeccomgnnaaGreatDoor
