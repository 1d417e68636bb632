/-
  math/bits.Sub32, Add32, walked.
-/
import Derived.Test.YticfggljaagcmaaDoorOwn
namespace Go.Proofs.YticfggljaagcmaaDoor
set_option linter.all false
open Go.RowKit

set_option maxHeartbeats 400000 in
theorem add32_any (x y c : Nat) (w : World) (hx : x ≤ 4294967295) (hy : y ≤ 4294967295) (hc : c ≤ 1) :
    Calls Tryd.prog 83 #[.int .u32 x, .int .u32 y, .int .u32 c] w fun e w' => e = .returned (.tuple #[.int .u32 ((x + y + c : Nat) % 4294967296 : Nat), .int .u32 ((x + y + c : Nat) / 4294967296 : Nat)]) ∧ w = w' := by
  go_enter Tryd.func83, Tryd.ntmps83
  go_wp2
  go_ret2
  exact ⟨by go_num, rfl⟩

/-- Is a limb borrowed? -/
def bor (x y c : Nat) : Nat := if x < y + c then 1 else 0
theorem bor_le (x y c : Nat) : bor x y c ≤ 1 := by unfold bor; split <;> omega
/-- What is left of x - y - c in 32 bits. -/
def dif (x y c : Nat) : Nat := (x + 8589934592 - y - c) % 4294967296
theorem dif_le (x y c : Nat) : dif x y c ≤ 4294967295 := by unfold dif; omega
theorem dif_eq {x y c : Nat} (hx : x ≤ 4294967295) (hy : y ≤ 4294967295) (hc : c ≤ 1) : dif x y c + y + c = x + 4294967296 * bor x y c := by
  unfold dif bor; split <;> omega
theorem bit_or (a b : Nat) : (a ||| b) / 2147483648 = a / 2147483648 ||| b / 2147483648 := by
  have := Nat.shiftRight_or_distrib (a := a) (b := b) (i := 31); simpa [Nat.shiftRight_eq_div_pow] using this
theorem bit_and (a b : Nat) : (a &&& b) / 2147483648 = a / 2147483648 &&& b / 2147483648 := by
  have := Nat.shiftRight_and_distrib (a := a) (b := b) (i := 31); simpa [Nat.shiftRight_eq_div_pow] using this
theorem bit_xor (a b : Nat) : (a ^^^ b) / 2147483648 = a / 2147483648 ^^^ b / 2147483648 := by
  have := Nat.shiftRight_xor_distrib (a := a) (b := b) (i := 31); simpa [Nat.shiftRight_eq_div_pow] using this
theorem bor_bits (x y c : Nat) (hx : x ≤ 4294967295) (hy : y ≤ 4294967295) (hc : c ≤ 1) :
    (((4294967295 ^^^ x) &&& y) ||| ((4294967295 ^^^ (x ^^^ y)) &&& dif x y c)) / 2147483648 = bor x y c := by
  rw [bit_or, bit_and, bit_and, bit_xor, bit_xor, bit_xor]
  have e1 : 4294967295 / 2147483648 = 1 := rfl
  rw [e1]
  have hX : x / 2147483648 = 0 ∨ x / 2147483648 = 1 := by omega
  have hY : y / 2147483648 = 0 ∨ y / 2147483648 = 1 := by omega
  have hD : dif x y c / 2147483648 = 0 ∨ dif x y c / 2147483648 = 1 := by have := dif_le x y c; omega
  have hE := dif_eq hx hy hc
  have hl := dif_le x y c
  have hb := bor_le x y c
  have hb2 : bor x y c = if x < y + c then 1 else 0 := rfl
  rcases hX with h1 | h1 <;> rcases hY with h2 | h2 <;> rcases hD with h3 | h3 <;> rw [h1, h2, h3, hb2] <;> split <;> simp <;> (exfalso; simp [bor, *] at hE; omega)

set_option maxHeartbeats 400000 in
theorem sub32_any (x y c : Nat) (w : World) (hx : x ≤ 4294967295) (hy : y ≤ 4294967295) (hc : c ≤ 1) :
    Calls Tryd.prog 82 #[.int .u32 x, .int .u32 y, .int .u32 c] w fun e w' => e = .returned (.tuple #[.int .u32 (dif x y c : Nat), .int .u32 (bor x y c : Nat)]) ∧ w = w' := by
  go_enter Tryd.func82, Tryd.ntmps82
  go_wp2
  go_ret2
  refine ⟨?_, rfl⟩
  have e1 : ((x : Int) - y - c) % 4294967296 = ((dif x y c : Nat) : Int) := by unfold dif; omega
  have e2 : IntKind.u32.max = ((4294967295 : Nat) : Int) := rfl
  show Ending.returned (.tuple #[.int .u32 _, .int .u32 _]) = _
  rw [e1, e2, u32_xor_nat _ _ (by omega) (by omega)]
  rw [u32_xor_nat x y (by omega) (by omega)]
  rw [u32_and_nat _ y (Nat.xor_lt_two_pow (n := 32) (by omega) (by omega)) (by omega)]
  rw [u32_xor_nat _ _ (by omega) (Nat.xor_lt_two_pow (n := 32) (by omega) (by omega))]
  rw [u32_and_nat _ _ (Nat.xor_lt_two_pow (n := 32) (by omega) (Nat.xor_lt_two_pow (n := 32) (by omega) (by omega))) (by have := dif_le x y c; omega)]
  rw [u32_or_nat _ _ (Nat.and_lt_two_pow (n := 32) _ (by omega)) (Nat.and_lt_two_pow (n := 32) _ (by have := dif_le x y c; omega))]
  have := bor_bits x y c hx hy hc
  rw [← this]
  rfl
end Go.Proofs.YticfggljaagcmaaDoor
