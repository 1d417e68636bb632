/-
  Decimal digits: plain laws, no program in sight.
-/
import Derived.Lib.ItoaNum
import Derived.Lib.SlTrimSet
namespace Go.Proofs.YticfggljaagcmaaDoor
set_option linter.all false
open Go

/-- The last j decimal digits of n. -/
def dig : Nat → Nat → List UInt8
  | 0, _ => []
  | j + 1, n => UInt8.ofNat (48 + n / 10 ^ j % 10) :: dig j n
theorem dig_length (j n : Nat) : (dig j n).length = j := by
  induction j with
  | zero => rfl
  | succ j ih => simp [dig, ih]
theorem dig_add (a b n : Nat) : dig (a + b) n = dig a (n / 10 ^ b) ++ dig b n := by
  induction a with
  | zero => simp [dig]
  | succ a ih =>
    rw [show a + 1 + b = (a + b) + 1 by omega]
    simp only [dig, ih, List.cons_append]
    rw [Nat.div_div_eq_div_mul, ← Nat.pow_add, Nat.add_comm b a]
theorem dig_mod (j k n : Nat) (h : j ≤ k) : dig j (n % 10 ^ k) = dig j n := by
  induction j with
  | zero => rfl
  | succ j ih =>
    simp only [dig, ih (by omega)]
    have e : 10 ^ k = 10 ^ j * (10 * 10 ^ (k - j - 1)) := by
      rw [← Nat.mul_assoc, ← Nat.pow_succ, ← Nat.pow_add]; congr 1; omega
    rw [e, Nat.mod_mul_right_div_self, Nat.mod_mod_of_dvd _ (Nat.dvd_mul_right 10 _)]
theorem dig_snoc (k n : Nat) : dig (k + 1) n = dig k (n / 10) ++ [UInt8.ofNat (48 + n % 10)] := by
  rw [dig_add k 1 n]; simp [dig]
theorem dig_zero (k : Nat) : dig k 0 = List.replicate k 48 := by
  induction k with
  | zero => rfl
  | succ k ih => simp [dig, ih, List.replicate_succ]
theorem byte_ne {d : Nat} (h : d < 10) (h0 : d ≠ 0) : (UInt8.ofNat (48 + d) == (48 : UInt8)) = false := by
  have : ∀ d, d < 10 → d ≠ 0 → (UInt8.ofNat (48 + d) == (48 : UInt8)) = false := by decide
  exact this d h h0
theorem drop_append {l r : List UInt8} {p : UInt8 → Bool} (h : l.dropWhile p ≠ []) : (l ++ r).dropWhile p = l.dropWhile p ++ r := by
  induction l with
  | nil => exact absurd rfl h
  | cons x l ih =>
    simp only [List.cons_append, List.dropWhile_cons] at h ⊢
    split
    · rename_i hp; rw [if_pos hp] at h; exact ih h
    · rfl
theorem drop_zeros (k : Nat) (r : List UInt8) : (List.replicate k (48 : UInt8) ++ r).dropWhile (· == 48) = r.dropWhile (· == 48) := by
  induction k with
  | zero => rfl
  | succ k ih => simp only [List.replicate_succ, List.cons_append, List.dropWhile_cons, beq_self_eq_true, if_true]; exact ih
theorem dec_ne (v : Nat) : Lib.decDigits v ≠ [] := by
  rw [Lib.decDigits]; split <;> simp
/-- The noughts ahead are taken off. -/
theorem trim_dig : ∀ (k v : Nat), 0 < v → v < 10 ^ k → Lib.trimLeftB (dig k v) 48 = Lib.decDigits v
  | 0, v, h1, h2 => by simp at h2; omega
  | k + 1, v, h1, h2 => by
    rw [dig_snoc]
    unfold Lib.trimLeftB
    by_cases h : v < 10
    · rw [Nat.div_eq_of_lt h, dig_zero, drop_zeros, Lib.decDigits, dif_pos h, Nat.mod_eq_of_lt h]
      simp only [List.dropWhile_cons, byte_ne h (show v ≠ 0 by omega)]
      rfl
    · have ih := trim_dig k (v / 10) (by omega) (by rw [Nat.pow_succ] at h2; omega)
      unfold Lib.trimLeftB at ih
      rw [drop_append (by rw [ih]; exact dec_ne _), ih]
      conv => rhs; rw [Lib.decDigits, dif_neg h]

/-! ### Reading -/
/-- A digit more. -/
def rd1 (d : Nat) (c : UInt8) : Nat := 10 * d + (c.toNat - 48)
/-- What digits are worth, behind d. -/
def rdr (d : Nat) (l : List UInt8) : Nat := l.foldl rd1 d
theorem rdr_append (l r : List UInt8) (d : Nat) : rdr d (l ++ r) = rdr (rdr d l) r := List.foldl_append
theorem rdr_nil (d : Nat) : rdr d [] = d := by unfold rdr; rw [List.foldl_nil]
theorem rdr_cons (d : Nat) (c : UInt8) (l : List UInt8) : rdr d (c :: l) = rdr (rd1 d c) l := by unfold rdr; rw [List.foldl_cons]
theorem pow_step1 (d t p r : Nat) : (10 * d + t) * p + r = d * (p * 10) + (t * p + r) := by
  have h1 : (10 * d + t) * p = 10 * d * p + t * p := Nat.add_mul _ _ _
  have h2 : d * (p * 10) = 10 * d * p := by rw [Nat.mul_comm p 10, ← Nat.mul_assoc, Nat.mul_comm d 10]
  rw [h1, h2, Nat.add_assoc]
theorem rd1_eq (d : Nat) (c : UInt8) : rd1 d c = 10 * d + rd1 0 c := by unfold rd1; omega
theorem rdr_pow : ∀ (l : List UInt8) (d : Nat), rdr d l = d * 10 ^ l.length + rdr 0 l
  | [], d => by rw [rdr_nil, rdr_nil, List.length_nil, Nat.pow_zero, Nat.mul_one, Nat.add_zero]
  | c :: l, d => by
    have h1 := rdr_pow l (rd1 d c)
    have h2 := rdr_pow l (rd1 0 c)
    have h3 := pow_step1 d (rd1 0 c) (10 ^ l.length) (rdr 0 l)
    rw [rdr_cons, rdr_cons, List.length_cons, Nat.pow_succ, h1, h2, rd1_eq d c]
    exact h3
theorem rdr_lt : ∀ (l : List UInt8), (∀ c ∈ l, c.toNat ≤ 57) → rdr 0 l < 10 ^ l.length
  | [], _ => by rw [rdr_nil]; decide
  | c :: l, h => by
    rw [rdr_cons, rdr_pow, List.length_cons]
    have h1 := rdr_lt l (fun x hx => h x (by simp [hx]))
    have h2 := h c (by simp)
    have h3 : rd1 0 c * 10 ^ l.length ≤ 9 * 10 ^ l.length := Nat.mul_le_mul_right _ (by unfold rd1; omega)
    rw [Nat.pow_succ]; omega
/-- Is it a text of a number? -/
def isNum (l : List UInt8) : Bool := !l.isEmpty && !(decide (1 < l.length) && l.head? == some 48) && l.all fun c => decide (48 ≤ c.toNat) && decide (c.toNat ≤ 57)
theorem byte_dig {d : Nat} (h : d < 10) : (UInt8.ofNat (48 + d)).toNat = 48 + d := by
  have : ∀ d, d < 10 → (UInt8.ofNat (48 + d)).toNat = 48 + d := by decide
  exact this d h
theorem rdr_dec (v : Nat) : rdr 0 (Lib.decDigits v) = v := by
  induction v using Nat.strongRecOn with
  | _ v ih =>
    rw [Lib.decDigits]
    split
    · rename_i h; rw [rdr_cons, rdr_nil]; unfold rd1; rw [byte_dig h]; omega
    · rename_i h
      rw [rdr_append, ih _ (by omega)]
      rw [rdr_cons, rdr_nil]; unfold rd1; rw [byte_dig (show v % 10 < 10 by omega)]; omega
theorem dec_all (v : Nat) : ∀ c ∈ Lib.decDigits v, 48 ≤ c.toNat ∧ c.toNat ≤ 57 := by
  induction v using Nat.strongRecOn with
  | _ v ih =>
    rw [Lib.decDigits]
    split
    · rename_i h
      intro c hc
      rw [List.mem_singleton] at hc
      rw [hc, byte_dig h]; omega
    · intro c hc
      rcases List.mem_append.1 hc with h1 | h1
      · exact ih _ (by omega) c h1
      · rw [List.mem_singleton] at h1
        rw [h1, byte_dig (show v % 10 < 10 by omega)]; omega
theorem dec_head {v : Nat} (h : v ≠ 0) : (Lib.decDigits v).head? ≠ some 48 := by
  induction v using Nat.strongRecOn with
  | _ v ih =>
    rw [Lib.decDigits]
    split
    · rename_i h1
      simp only [List.head?_cons]
      intro e
      have := byte_ne h1 h
      simp only [Option.some.injEq] at e
      rw [e] at this
      cases this
    · rename_i h1
      rw [List.head?_append]
      have := ih (v / 10) (by omega) (by omega)
      rcases hq : Lib.decDigits (v / 10) with _ | ⟨x, t⟩
      · exact absurd hq (dec_ne _)
      · rw [hq] at this; simpa using this
theorem dec_isNum (v : Nat) : isNum (Lib.decDigits v) = true := by
  unfold isNum
  rw [Bool.and_eq_true, Bool.and_eq_true]
  refine ⟨⟨?_, ?_⟩, ?_⟩
  · have := dec_ne v
    cases h : Lib.decDigits v with
    | nil => exact absurd h this
    | cons x t => rfl
  · by_cases hv : v = 0
    · subst hv; rw [Lib.decDigits_one (by omega)]; rfl
    · have := dec_head hv
      rw [Bool.not_eq_true', Bool.and_eq_false_iff]
      right
      simpa using this
  · rw [List.all_eq_true]
    intro c hc
    have := dec_all v c hc
    simp [this.1, this.2]
/-- Bytes of a short text ahead of another. -/
theorem cat_byte (x : UInt8) (l : List UInt8) : (⟨#[x]⟩ : ByteArray) ++ ⟨l.toArray⟩ = ⟨(x :: l).toArray⟩ := by
  apply ByteArray.ext
  simp
end Go.Proofs.YticfggljaagcmaaDoor
