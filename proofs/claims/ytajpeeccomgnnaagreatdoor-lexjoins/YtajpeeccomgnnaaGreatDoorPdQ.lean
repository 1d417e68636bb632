/-
  Decimal digits: what a shift to the left or to the right leaves. Plain.
-/
import Derived.Test.YtajpeeccomgnnaaGreatDoorPdP
namespace Go.Proofs.YtajpeeccomgnnaaGreatDoor
set_option linter.all false
open Go

theorem upd_at (E : Nat → Nat) (p v : Nat) : upd E p v p = v := by unfold upd; rw [if_pos rfl]
theorem upd_ne {E : Nat → Nat} {p v i : Nat} (h : i ≠ p) : upd E p v i = E i := by unfold upd; rw [if_neg h]
/-- How many digits are left where the noughts at the end are dropped. -/
def trimN (E : Nat → Nat) : Nat → Nat
  | 0 => 0
  | n + 1 => if E n = 48 then trimN E n else n + 1
theorem trimN_le (E : Nat → Nat) : ∀ n, trimN E n ≤ n
  | 0 => Nat.le_refl _
  | n + 1 => by
    have := trimN_le E n
    unfold trimN; split <;> omega
theorem trimN_pos {E : Nat → Nat} (h : E 0 ≠ 48) : ∀ n, 0 < n → 0 < trimN E n
  | 0, h0 => absurd h0 (by omega)
  | 1, _ => by unfold trimN; rw [if_neg h]; omega
  | n + 2, _ => by
    have := trimN_pos h (n + 1) (by omega)
    unfold trimN; split <;> omega
theorem least {p : Nat → Prop} [DecidablePred p] (m : Nat) (h : p m) : ∃ R, R ≤ m ∧ p R ∧ ∀ j, j < R → ¬ p j := by
  have aux : ∀ m, (∃ R, R ≤ m ∧ p R ∧ ∀ j, j < R → ¬ p j) ∨ ∀ j, j ≤ m → ¬ p j := by
    intro m
    induction m with
    | zero =>
      by_cases h : p 0
      · exact .inl ⟨0, Nat.le_refl _, h, fun j hj => by omega⟩
      · exact .inr fun j hj => by rw [show j = 0 by omega]; exact h
    | succ m ih =>
      rcases ih with ⟨R, h1, h2, h3⟩ | ih
      · exact .inl ⟨R, by omega, h2, h3⟩
      · by_cases h : p (m + 1)
        · exact .inl ⟨m + 1, Nat.le_refl _, h, fun j hj => ih j (by omega)⟩
        · refine .inr fun j hj => ?_
          rcases Nat.lt_or_ge j (m + 1) with k | k
          · exact ih j (by omega)
          · rw [show j = m + 1 by omega]; exact h
  rcases aux m with h1 | h1
  · exact h1
  · exact absurd h (h1 m (Nat.le_refl _))
/-- Digits, with noughts behind the last. -/
def ext (D : Nat → Nat) (nd : Nat) : Nat → Nat := fun i => if i < nd then D i else 48
theorem ext_in {D : Nat → Nat} {nd i : Nat} (h : i < nd) : ext D nd i = D i := by unfold ext; rw [if_pos h]
theorem ext_out {D : Nat → Nat} {nd i : Nat} (h : nd ≤ i) : ext D nd i = 48 := by unfold ext; rw [if_neg (by omega)]
theorem ext_digs {D : Nat → Nat} {nd : Nat} (hD : Digs D nd) (m : Nat) : Digs (ext D nd) m := fun i _ => by
  rcases Nat.lt_or_ge i nd with k | k
  · rw [ext_in k]; exact hD i k
  · rw [ext_out k]; omega
/-- How many digits a right shift reads before the first is put down. -/
theorem first_ex {D : Nat → Nat} {nd : Nat} (k : Nat) (hD : Digs D nd) (hn : 0 < nd) (h0 : D 0 ≠ 48) :
    ∃ R, 0 < R ∧ R ≤ k + 1 ∧ 2 ^ k ≤ dval (ext D nd) R ∧ dval (ext D nd) R < 10 * 2 ^ k ∧ ∀ j, j < R → dval (ext D nd) j < 2 ^ k := by
  have g := (dval_grow (D := ext D nd) (a := 1) (j := k) (ext_digs hD _)).1
  have h1 : 1 ≤ dval (ext D nd) 1 := by
    have := hD 0 hn
    simp [dval, ext_in hn]; omega
  have h2 : (2 : Nat) ^ k ≤ 10 ^ k := Nat.pow_le_pow_left (by omega) k
  have h3 : 2 ^ k ≤ dval (ext D nd) (k + 1) := by
    rw [Nat.add_comm k 1]
    have := Nat.mul_le_mul_right (10 ^ k) h1
    omega
  obtain ⟨R, r1, r2, r3⟩ := least (p := fun m => 2 ^ k ≤ dval (ext D nd) m) (k + 1) h3
  have hp : 0 < (2 : Nat) ^ k := Nat.pow_pos (by omega)
  rcases R with _ | R
  · simp [dval] at r2
  · refine ⟨R + 1, by omega, r1, r2, ?_, fun j hj => by have := r3 j hj; omega⟩
    have h4 := r3 R (by omega)
    have h5 := ext_digs hD (R + 1) R (by omega)
    rw [dval]
    omega
/-- What a right shift carries, j digits put down. -/
def rn (X : Nat → Nat) (k R : Nat) : Nat → Nat
  | 0 => dval X R
  | j + 1 => (rn X k R j % 2 ^ k) * 10 + (X (R + j) - 48)
theorem rn_lt {X : Nat → Nat} {k R : Nat} (hX : ∀ m, Digs X m) (h : dval X R < 10 * 2 ^ k) : ∀ j, rn X k R j < 10 * 2 ^ k
  | 0 => h
  | j + 1 => by
    have h1 := hX (R + j + 1) (R + j) (by omega)
    have h2 : rn X k R j % 2 ^ k < 2 ^ k := Nat.mod_lt _ (Nat.pow_pos (by omega))
    rw [rn]; omega
theorem rn_two {X : Nat → Nat} {k R J0 : Nat} (h : ∀ i, R + J0 ≤ i → X i = 48) : ∀ i, i ≤ k → 2 ^ i ∣ rn X k R (J0 + i)
  | 0, _ => ⟨_, (Nat.one_mul _).symm⟩
  | i + 1, hi => by
    have h1 := rn_two (k := k) (R := R) h i (by omega)
    rw [show J0 + (i + 1) = (J0 + i) + 1 by omega, rn, h (R + (J0 + i)) (by omega)]
    have h2 : 2 ^ i ∣ rn X k R (J0 + i) % 2 ^ k := (Nat.dvd_mod_iff (Nat.pow_dvd_pow 2 (show i ≤ k by omega))).2 h1
    obtain ⟨c, hc⟩ := h2
    exact ⟨c * 5, by rw [hc, Nat.pow_succ]; simp only [Nat.sub_self, Nat.add_zero]; rw [Nat.mul_assoc, Nat.mul_assoc]; congr 1; omega⟩
theorem rn_end {X : Nat → Nat} {k R J0 : Nat} (h : ∀ i, R + J0 ≤ i → X i = 48) : rn X k R (J0 + k + 1) = 0 := by
  have h1 := rn_two (k := k) h k (Nat.le_refl _)
  rw [rn, h (R + (J0 + k)) (by omega), Nat.mod_eq_zero_of_dvd h1]
theorem end_ex {X : Nat → Nat} {k R J0 : Nat} (h : ∀ i, R + J0 ≤ i → X i = 48) : ∃ J, J0 ≤ J ∧ J ≤ J0 + k + 1 ∧ rn X k R J = 0 ∧ ∀ j, J0 ≤ j → j < J → rn X k R j ≠ 0 := by
  obtain ⟨i, h1, h2, h3⟩ := least (p := fun i => rn X k R (J0 + i) = 0) (k + 1) (rn_end h)
  refine ⟨J0 + i, by omega, by omega, h2, fun j hj hl => ?_⟩
  have := h3 (j - J0) (by omega)
  rwa [show J0 + (j - J0) = j by omega] at this
/-- The digits behind j steps of a right shift. -/
def rE (D X : Nat → Nat) (k R : Nat) : Nat → Nat → Nat
  | 0 => D
  | j + 1 => if j < 800 then upd (rE D X k R j) j (rn X k R j / 2 ^ k + 48) else rE D X k R j
def rT (X : Nat → Nat) (k R : Nat) (tr : Bool) : Nat → Bool
  | 0 => tr
  | j + 1 => if j < 800 then rT X k R tr j else if 0 < rn X k R j / 2 ^ k then true else rT X k R tr j
theorem rE_far {D X : Nat → Nat} {k R : Nat} : ∀ {j i : Nat}, j ≤ i → rE D X k R j i = D i
  | 0, _, _ => rfl
  | j + 1, i, h => by
    unfold rE
    split
    · rw [upd_ne (by omega), rE_far (by omega)]
    · exact rE_far (by omega)
theorem rE_near {D X : Nat → Nat} {k R : Nat} (hX : ∀ m, Digs X m) (h : dval X R < 10 * 2 ^ k) : ∀ {j i : Nat}, i < j → i < 800 → rE D X k R j i = rn X k R i / 2 ^ k + 48
  | 0, _, h, _ => absurd h (by omega)
  | j + 1, i, hi, h8 => by
    unfold rE
    split
    · by_cases e : i = j
      · subst e; rw [upd_at]
      · rw [upd_ne e]; exact rE_near hX h (by omega) h8
    · exact rE_near hX h (by omega) h8
theorem rn_dig {X : Nat → Nat} {k R : Nat} (hX : ∀ m, Digs X m) (h : dval X R < 10 * 2 ^ k) (j : Nat) : rn X k R j / 2 ^ k ≤ 9 := by
  have h1 := rn_lt hX h j
  have : rn X k R j / 2 ^ k < 10 := Nat.div_lt_of_lt_mul (by omega)
  omega
/-- What a left shift puts down at its step j. -/
def lx (D : Nat → Nat) (nd k j : Nat) : Nat := (D (nd - 1 - j) - 48) * 2 ^ k + car D nd k j
def lE (D : Nat → Nat) (nd k dl : Nat) : Nat → Nat → Nat
  | 0 => D
  | j + 1 => if nd + dl - 1 - j < 800 then upd (lE D nd k dl j) (nd + dl - 1 - j) (lx D nd k j % 10 + 48) else lE D nd k dl j
def lT (D : Nat → Nat) (nd k dl : Nat) (tr : Bool) : Nat → Bool
  | 0 => tr
  | j + 1 => if nd + dl - 1 - j < 800 then lT D nd k dl tr j else if lx D nd k j % 10 ≠ 0 then true else lT D nd k dl tr j
def mE (E : Nat → Nat) (n dl : Nat) : Nat → Nat → Nat
  | 0 => E
  | j + 1 => upd (mE E n dl j) (dl - 1 - j) (n / 10 ^ j % 10 + 48)
theorem lE_far {D : Nat → Nat} {nd k dl : Nat} : ∀ {j i : Nat}, j ≤ nd → i + j < nd + dl → lE D nd k dl j i = D i
  | 0, _, _, _ => rfl
  | j + 1, i, h, h2 => by
    unfold lE
    split
    · rw [upd_ne (by omega), lE_far (by omega) (by omega)]
    · exact lE_far (by omega) (by omega)
theorem lE_near {D : Nat → Nat} {nd k dl : Nat} : ∀ {j i : Nat}, j ≤ nd → nd + dl ≤ i + j → i < nd + dl → i < 800 → 48 ≤ lE D nd k dl j i ∧ lE D nd k dl j i ≤ 57
  | 0, _, _, _, _, _ => by omega
  | j + 1, i, h, h2, h3, h4 => by
    unfold lE
    split
    · by_cases e : i = nd + dl - 1 - j
      · subst e; rw [upd_at]; have := Nat.mod_lt (lx D nd k j) (show 0 < 10 by omega); omega
      · rw [upd_ne e]; exact lE_near (by omega) (by omega) h3 h4
    · exact lE_near (by omega) (by omega) h3 h4
theorem mE_far {E : Nat → Nat} {n dl : Nat} : ∀ {j i : Nat}, j ≤ dl → (i + j < dl ∨ dl ≤ i) → mE E n dl j i = E i
  | 0, _, _, _ => rfl
  | j + 1, i, h, h2 => by
    unfold mE
    rw [upd_ne (by omega), mE_far (by omega) (by omega)]
theorem mE_near {E : Nat → Nat} {n dl : Nat} : ∀ {j i : Nat}, j ≤ dl → dl ≤ i + j → i < dl → mE E n dl j i = n / 10 ^ (dl - 1 - i) % 10 + 48
  | 0, _, _, _, _ => by omega
  | j + 1, i, h, h2, h3 => by
    unfold mE
    by_cases e : i = dl - 1 - j
    · subst e; rw [upd_at, show dl - 1 - (dl - 1 - j) = j by omega]
    · rw [upd_ne e]; exact mE_near (by omega) (by omega) h3
/-- What a left shift leaves. -/
def lD (D : Nat → Nat) (nd k dl : Nat) : Nat → Nat := mE (lE D nd k dl nd) (car D nd k nd) dl dl
structure Exact (D : Nat → Nat) (nd k dl : Nat) : Prop where
  lt : car D nd k nd < 10 ^ dl
  ge : 0 < dl → 10 ^ (dl - 1) ≤ car D nd k nd
theorem Exact.of {D C : Nat → Nat} {nd k dl L : Nat} (hD : Digs D nd) (hn : 0 < nd) (hd : D 0 ≠ 48) (h : Cheat k dl L C) : Exact D nd k (if lessP D nd C L 0 = true then dl - 1 else dl) := by
  obtain ⟨h1, h2⟩ := carry_out hD hn hd h
  by_cases c : lessP D nd C L 0 = true
  · rw [if_pos c]
    exact ⟨(h1 c).1, fun q => by have := (h1 c).2 (by omega); rwa [show dl - 1 - 1 = dl - 2 by omega]⟩
  · rw [if_neg c]
    have := h2 (by simpa using c)
    exact ⟨this.1, fun _ => this.2⟩
theorem Exact.more {D : Nat → Nat} {nd k dl : Nat} (h : Exact D nd k dl) {j : Nat} (hj : j < dl) : 0 < car D nd k nd / 10 ^ j := by
  have h1 := h.ge (by omega)
  have h2 : 10 ^ j ≤ 10 ^ (dl - 1) := Nat.pow_le_pow_right (by omega) (by omega)
  exact Nat.div_pos (by omega) (Nat.pow_pos (by omega))
theorem Exact.out {D : Nat → Nat} {nd k dl : Nat} (h : Exact D nd k dl) : car D nd k nd / 10 ^ dl = 0 := Nat.div_eq_of_lt h.lt
theorem lD_digs {D : Nat → Nat} {nd k dl : Nat} {m : Nat} (hm : m ≤ nd + dl) (h8 : m ≤ 800) : Digs (lD D nd k dl) m := fun i hi => by
  unfold lD
  rcases Nat.lt_or_ge i dl with c | c
  · rw [mE_near (Nat.le_refl _) (by omega) c]
    have := Nat.mod_lt (car D nd k nd / 10 ^ (dl - 1 - i)) (show 0 < 10 by omega)
    omega
  · rw [mE_far (Nat.le_refl _) (.inr c)]
    exact lE_near (Nat.le_refl _) (by omega) (by omega) (by omega)
theorem lD_top {D : Nat → Nat} {nd k dl : Nat} (hD : Digs D nd) (hn : 0 < nd) (hd : D 0 ≠ 48) (hk : 0 < k) (h : Exact D nd k dl) : lD D nd k dl 0 ≠ 48 ∧ (dl = 0 → D 0 < lD D nd k dl 0) := by
  have h0 := hD 0 hn
  rcases dl with _ | dl
  · have key : D 0 < lD D nd k 0 0 := by
      unfold lD mE
      obtain ⟨m, rfl⟩ : ∃ m, nd = m + 1 := ⟨nd - 1, by omega⟩
      unfold lE
      rw [show m + 1 + 0 - 1 - m = 0 by omega, if_pos (by omega), upd_at]
      have h1 := h.lt
      rw [car] at h1
      have h2 : lx D (m + 1) k m < 10 := by
        unfold lx
        rw [show m + 1 - 1 - m = 0 by omega] at h1 ⊢
        simp at h1; omega
      rw [Nat.mod_eq_of_lt h2]
      unfold lx
      rw [show m + 1 - 1 - m = 0 by omega]
      have h3 : 2 ^ 1 ≤ 2 ^ k := Nat.pow_le_pow_right (by omega) hk
      have h4 := Nat.mul_le_mul_left (D 0 - 48) h3
      omega
    exact ⟨by omega, fun _ => key⟩
  · refine ⟨?_, fun e => by omega⟩
    unfold lD
    rw [mE_near (Nat.le_refl _) (by omega) (by omega)]
    have h1 := h.more (j := dl) (by omega)
    have h2 : car D nd k nd / 10 ^ dl < 10 := Nat.div_lt_of_lt_mul (by have := h.lt; rwa [Nat.pow_succ] at this)
    rw [show dl + 1 - 1 - 0 = dl by omega, Nat.mod_eq_of_lt h2]
    omega
/-- What a right shift leaves. -/
theorem rE_digs {D X : Nat → Nat} {k R J m : Nat} (hX : ∀ m, Digs X m) (h : dval X R < 10 * 2 ^ k) (hm : m ≤ J) (h8 : m ≤ 800) : Digs (rE D X k R J) m := fun i hi => by
  rw [rE_near hX h (by omega) (by omega)]
  have := rn_dig hX h i
  generalize rn X k R i / 2 ^ k = q at *
  omega
theorem rE_top {D X : Nat → Nat} {k R J : Nat} (hX : ∀ m, Digs X m) (h : dval X R < 10 * 2 ^ k) (hJ : 0 < J) : rE D X k R J 0 = dval X R / 2 ^ k + 48 := rE_near hX h hJ (by omega)
end Go.Proofs.YtajpeeccomgnnaaGreatDoor
