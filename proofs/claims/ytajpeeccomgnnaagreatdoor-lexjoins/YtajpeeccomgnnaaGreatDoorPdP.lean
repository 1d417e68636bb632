/-
  Decimal digits, shifted left: plain facts.
-/
import Derived.Test.YtajpeeccomgnnaaGreatDoorLx1
namespace Go.Proofs.YtajpeeccomgnnaaGreatDoor
set_option linter.all false
open Go

/-- What the first m digits are worth. -/
def dval (D : Nat → Nat) : Nat → Nat
  | 0 => 0
  | m + 1 => 10 * dval D m + (D m - 48)
/-- Are the first n digits digits? -/
def Digs (D : Nat → Nat) (n : Nat) : Prop := ∀ i, i < n → 48 ≤ D i ∧ D i ≤ 57
theorem dval_lt {D : Nat → Nat} : ∀ {m : Nat}, Digs D m → dval D m < 10 ^ m
  | 0, _ => by simp [dval]
  | m + 1, h => by
    have h1 := dval_lt (m := m) (fun i hi => h i (by omega))
    have h2 := h m (by omega)
    rw [dval, Nat.pow_succ]
    omega
theorem dval_grow {D : Nat → Nat} {a : Nat} : ∀ {j : Nat}, Digs D (a + j) → dval D a * 10 ^ j ≤ dval D (a + j) ∧ dval D (a + j) < (dval D a + 1) * 10 ^ j
  | 0, _ => by simp
  | j + 1, h => by
    obtain ⟨h1, h2⟩ := dval_grow (j := j) (a := a) (fun i hi => h i (by omega))
    have h3 := h (a + j) (by omega)
    rw [show a + (j + 1) = (a + j) + 1 by omega, dval, Nat.pow_succ]
    generalize dval D (a + j) = x at *
    generalize hp : 10 ^ j = p at *
    have e1 : dval D a * (p * 10) = 10 * (dval D a * p) := by rw [← Nat.mul_assoc, Nat.mul_comm]
    have e2 : (dval D a + 1) * (p * 10) = 10 * ((dval D a + 1) * p) := by rw [← Nat.mul_assoc, Nat.mul_comm]
    rw [e1, e2]
    omega
theorem dval_same {D E : Nat → Nat} : ∀ {m : Nat}, (∀ i, i < m → D i = E i) → dval D m = dval E m
  | 0, _ => rfl
  | m + 1, h => by rw [dval, dval, dval_same (fun i hi => h i (by omega)), h m (by omega)]
theorem cross {x y X Y p q r : Nat} (hq : 0 < q) (hr : 0 < r) (a : X < (x + 1) * p) (b : y * q ≤ Y) (c : x + 1 ≤ y) : X * (r * q) < Y * (r * p) := by
  have s1 : X * q < (x + 1) * p * q := Nat.mul_lt_mul_of_pos_right a hq
  have s2 : (x + 1) * p * q ≤ y * q * p := by
    rw [Nat.mul_assoc, Nat.mul_comm p q, ← Nat.mul_assoc]
    exact Nat.mul_le_mul_right _ (Nat.mul_le_mul_right _ c)
  have s3 : y * q * p ≤ Y * p := Nat.mul_le_mul_right _ b
  have s4 : X * q < Y * p := by omega
  calc X * (r * q) = r * (X * q) := by rw [Nat.mul_left_comm]
    _ < r * (Y * p) := Nat.mul_lt_mul_of_pos_left s4 hr
    _ = Y * (r * p) := by rw [Nat.mul_left_comm]
/-- Is 0.D less than 0.C? -/
def lessP (D : Nat → Nat) (nd : Nat) (C : Nat → Nat) : Nat → Nat → Bool
  | 0, _ => false
  | m + 1, i => if nd ≤ i then true else if D i ≠ C i then decide (D i < C i) else lessP D nd C m (i + 1)
theorem lessP_both {D C : Nat → Nat} {nd L : Nat} (hD : Digs D nd) (hC : Digs C L) (h0 : 0 < L → C (L - 1) ≠ 48) : ∀ (m i : Nat), m + i = L → i ≤ nd → (∀ j, j < i → D j = C j) →
    (lessP D nd C m i = true → dval D nd * 10 ^ L < dval C L * 10 ^ nd) ∧ (lessP D nd C m i = false → dval C L * 10 ^ nd ≤ dval D nd * 10 ^ L)
  | 0, i, hm, hi, hs => by
    refine ⟨fun h => by simp [lessP] at h, fun _ => ?_⟩
    have hi' : i = L := by omega
    subst hi'
    obtain ⟨j, rfl⟩ : ∃ j, nd = i + j := ⟨nd - i, by omega⟩
    have h1 := (dval_grow (a := i) (j := j) hD).1
    rw [dval_same hs] at h1
    rw [Nat.pow_add]
    calc dval C i * (10 ^ i * 10 ^ j) = (dval C i * 10 ^ j) * 10 ^ i := by rw [Nat.mul_comm (10 ^ i), Nat.mul_assoc]
      _ ≤ _ := Nat.mul_le_mul_right _ h1
  | m + 1, i, hm, hi, hs => by
    rw [lessP]
    obtain ⟨l, hl⟩ : ∃ l, L = i + 1 + l := ⟨m, by omega⟩
    by_cases c : nd ≤ i
    · rw [if_pos c]
      refine ⟨fun _ => ?_, fun h => by cases h⟩
      have hn : nd = i := by omega
      subst hn
      have e1 := dval_same hs
      have hLm : L = nd + (l + 1) := by omega
      have h2 := (dval_grow (a := nd) (j := l + 1) (hLm ▸ hC)).1
      rw [← hLm] at h2
      -- strict: the last digit is not nought
      have h3 : dval C nd * 10 ^ (l + 1) ≠ dval C L := by
        intro e
        have hlast := h0 (by omega)
        have hr := hC (L - 1) (by omega)
        have : dval C L = 10 * dval C (L - 1) + (C (L - 1) - 48) := by
          conv => lhs; rw [show L = (L - 1) + 1 by omega]
          rw [dval]
        rw [this, Nat.pow_succ, ← Nat.mul_assoc] at e
        omega
      have h4 : dval C nd * 10 ^ (l + 1) < dval C L := by omega
      rw [e1, hLm, Nat.pow_add, ← hLm, Nat.mul_comm (10 ^ nd), ← Nat.mul_assoc]
      exact Nat.mul_lt_mul_of_pos_right h4 (Nat.pow_pos (by omega))
    · rw [if_neg c]
      by_cases c2 : D i ≠ C i
      · rw [if_pos c2]
        obtain ⟨j, hj⟩ : ∃ j, nd = i + 1 + j := ⟨nd - i - 1, by omega⟩
        have hd1 := dval_grow (a := i + 1) (j := j) (hj ▸ hD)
        have hc1 := dval_grow (a := i + 1) (j := l) (hl ▸ hC)
        rw [← hj] at hd1
        rw [← hl] at hc1
        have e1 := dval_same hs
        have hdi := hD i (by omega)
        have hci := hC i (by omega)
        have e2 : dval D (i + 1) = 10 * dval C i + (D i - 48) := by rw [dval, e1]
        have e3 : dval C (i + 1) = 10 * dval C i + (C i - 48) := rfl
        have q1 : 10 ^ L = 10 ^ (i + 1) * 10 ^ l := by rw [hl, Nat.pow_add]
        have q2 : 10 ^ nd = 10 ^ (i + 1) * 10 ^ j := by rw [hj, Nat.pow_add]
        rw [q1, q2]
        rcases Nat.lt_or_ge (D i) (C i) with k | k
        · refine ⟨fun _ => ?_, fun h => by simp at h; omega⟩
          exact cross (Nat.pow_pos (by omega)) (Nat.pow_pos (by omega)) hd1.2 hc1.1 (by omega)
        · refine ⟨fun h => by simp at h; omega, fun _ => ?_⟩
          exact Nat.le_of_lt (cross (Nat.pow_pos (by omega)) (Nat.pow_pos (by omega)) hc1.2 hd1.1 (by omega))
      · rw [if_neg c2]
        refine lessP_both hD hC h0 m (i + 1) (by omega) (by omega) (fun j hj => ?_)
        rcases Nat.lt_or_ge j i with k | k
        · exact hs j k
        · have : j = i := by omega
          subst this; simpa using c2
/-- The carry of a left shift by k, the last j digits read. -/
def car (D : Nat → Nat) (nd k : Nat) : Nat → Nat
  | 0 => 0
  | j + 1 => ((D (nd - 1 - j) - 48) * 2 ^ k + car D nd k j) / 10
theorem car_spec {D : Nat → Nat} {nd k : Nat} (hD : Digs D nd) : ∀ {j : Nat}, j ≤ nd → ∃ W, dval D nd = dval D (nd - j) * 10 ^ j + W ∧ W < 10 ^ j ∧ car D nd k j = W * 2 ^ k / 10 ^ j
  | 0, _ => ⟨0, by simp, by simp, by simp [car]⟩
  | j + 1, h => by
    obtain ⟨W, h1, h2, h3⟩ := car_spec hD (k := k) (j := j) (by omega)
    have hd := hD (nd - 1 - j) (by omega)
    have e : nd - j = (nd - 1 - j) + 1 := by omega
    refine ⟨(D (nd - 1 - j) - 48) * 10 ^ j + W, ?_, ?_, ?_⟩
    · rw [h1, e, dval, show nd - (j + 1) = nd - 1 - j by omega, Nat.pow_succ, Nat.add_mul]
      generalize dval D (nd - 1 - j) = x
      generalize 10 ^ j = p
      rw [show x * (p * 10) = 10 * x * p by rw [Nat.mul_comm p, ← Nat.mul_assoc, Nat.mul_comm x]]
      omega
    · rw [Nat.pow_succ]
      generalize 10 ^ j = p at *
      have : (D (nd - 1 - j) - 48) * p ≤ 9 * p := Nat.mul_le_mul_right _ (by omega)
      omega
    · rw [car, h3, Nat.pow_succ, ← Nat.div_div_eq_div_mul]
      congr 1
      rw [Nat.add_mul, Nat.mul_right_comm, Nat.add_comm (_ * 2 ^ k * 10 ^ j), Nat.add_mul_div_right _ _ (Nat.pow_pos (by omega)), Nat.add_comm]
theorem car_lt {D : Nat → Nat} {nd k j : Nat} (hD : Digs D nd) (h : j ≤ nd) : car D nd k j < 2 ^ k := by
  obtain ⟨W, _, h2, h3⟩ := car_spec hD (k := k) h
  rw [h3]
  exact Nat.div_lt_of_lt_mul (Nat.mul_lt_mul_of_pos_right h2 (Nat.pow_pos (by omega)))
/-- A row of the table: the cutoff is 5^k, of L digits. -/
structure Cheat (k dl L : Nat) (C : Nat → Nat) : Prop where
  digs : Digs C L
  val : dval C L = 5 ^ k
  last : 0 < L → C (L - 1) ≠ 48
  len : dl + L = k + 1
  pos : 0 < L
  lo : 10 ^ (L - 1) < 5 ^ k
  hi : 5 ^ k < 10 ^ L
theorem Cheat.dl_pos {k dl L : Nat} {C : Nat → Nat} (h : Cheat k dl L C) : 0 < dl := by
  rcases Nat.eq_zero_or_pos dl with e | e
  · have := h.len
    have hl := h.lo
    rw [show L - 1 = k by omega] at hl
    have : 5 ^ k ≤ 10 ^ k := Nat.pow_le_pow_left (by omega) k
    omega
  · exact e
theorem Cheat.two {k dl L : Nat} {C : Nat → Nat} (h : Cheat k dl L C) : 2 ^ k < 10 ^ dl ∧ 10 ^ (dl - 1) < 2 ^ k := by
  have hp := h.dl_pos
  have h10 : (10 : Nat) ^ k = 2 ^ k * 5 ^ k := by rw [← Nat.mul_pow]
  have hl := h.len
  constructor
  · have e : (10 : Nat) ^ k = 10 ^ dl * 10 ^ (L - 1) := by rw [← Nat.pow_add]; congr 1; have := h.pos; omega
    have hlo := h.lo
    rcases Nat.lt_or_ge (2 ^ k) (10 ^ dl) with c | c
    · exact c
    · have h2 : 10 ^ dl * 10 ^ (L - 1) < 2 ^ k * 5 ^ k := Nat.lt_of_lt_of_le (Nat.mul_lt_mul_of_pos_left hlo (Nat.pow_pos (by omega))) (Nat.mul_le_mul_right _ c)
      omega
  · have e : (10 : Nat) ^ k = 10 ^ (dl - 1) * 10 ^ L := by rw [← Nat.pow_add]; congr 1; omega
    have hhi := h.hi
    rcases Nat.lt_or_ge (10 ^ (dl - 1)) (2 ^ k) with c | c
    · exact c
    · have h2 : 2 ^ k * 5 ^ k < 10 ^ (dl - 1) * 10 ^ L := Nat.lt_of_lt_of_le (Nat.mul_lt_mul_of_pos_left hhi (Nat.pow_pos (by omega))) (Nat.mul_le_mul_right _ c)
      omega
/-- What is carried out of all digits has just as many digits as the table says. -/
theorem carry_out {D C : Nat → Nat} {nd k dl L : Nat} (hD : Digs D nd) (hn : 0 < nd) (hd : D 0 ≠ 48) (h : Cheat k dl L C) :
    (lessP D nd C L 0 = true → car D nd k nd < 10 ^ (dl - 1) ∧ (1 < dl → 10 ^ (dl - 2) ≤ car D nd k nd)) ∧
    (lessP D nd C L 0 = false → car D nd k nd < 10 ^ dl ∧ 10 ^ (dl - 1) ≤ car D nd k nd) := by
  obtain ⟨W, h1, h2, h3⟩ := car_spec hD (k := k) (j := nd) (Nat.le_refl _)
  rw [Nat.sub_self, dval, Nat.zero_mul, Nat.zero_add] at h1
  have hl := lessP_both hD h.digs h.last L 0 (by omega) (by omega) (fun j hj => by omega)
  rw [h.val, h1] at hl
  have h10 : (10 : Nat) ^ k = 2 ^ k * 5 ^ k := by rw [← Nat.mul_pow]
  have hp := h.dl_pos
  have hln := h.len
  have e : (10 : Nat) ^ k = 10 ^ (dl - 1) * 10 ^ L := by rw [← Nat.pow_add]; congr 1; omega
  have hL : 0 < (10 : Nat) ^ L := Nat.pow_pos (by omega)
  have hN : 0 < (10 : Nat) ^ nd := Nat.pow_pos (by omega)
  rw [h3]
  refine ⟨fun q => ?_, fun q => ?_⟩
  · have k1 := hl.1 q
    refine ⟨Nat.div_lt_of_lt_mul ?_, fun hd2 => (Nat.le_div_iff_mul_le hN).2 ?_⟩
    · refine Nat.lt_of_mul_lt_mul_right (a := 10 ^ L) ?_
      calc W * 2 ^ k * 10 ^ L = W * 10 ^ L * 2 ^ k := by rw [Nat.mul_right_comm]
        _ < 5 ^ k * 10 ^ nd * 2 ^ k := Nat.mul_lt_mul_of_pos_right k1 (Nat.pow_pos (by omega))
        _ = 10 ^ nd * (2 ^ k * 5 ^ k) := by rw [Nat.mul_comm (2 ^ k), ← Nat.mul_assoc, Nat.mul_comm (10 ^ nd)]
        _ = 10 ^ nd * 10 ^ (dl - 1) * 10 ^ L := by rw [← h10, e, Nat.mul_assoc]
    · have g := (dval_grow (D := D) (a := 1) (j := nd - 1) (by rw [show 1 + (nd - 1) = nd by omega]; exact hD)).1
      rw [show 1 + (nd - 1) = nd by omega, h1] at g
      have hd0 := hD 0 hn
      have g1 : 1 ≤ dval D 1 := by simp [dval]; omega
      have g2 : 10 ^ (nd - 1) ≤ W := Nat.le_trans (by have := Nat.mul_le_mul_right (10 ^ (nd - 1)) g1; omega) g
      have g3 := h.two.2
      calc 10 ^ (dl - 2) * 10 ^ nd = 10 ^ (nd - 1) * 10 ^ (dl - 1) := by rw [← Nat.pow_add, ← Nat.pow_add]; congr 1; omega
        _ ≤ W * 2 ^ k := Nat.mul_le_mul g2 (Nat.le_of_lt g3)
  · have k1 := hl.2 q
    refine ⟨Nat.div_lt_of_lt_mul ?_, (Nat.le_div_iff_mul_le hN).2 ?_⟩
    · exact Nat.lt_of_lt_of_le (Nat.mul_lt_mul_of_pos_right h2 (Nat.pow_pos (by omega))) (Nat.mul_le_mul_left _ (Nat.le_of_lt h.two.1))
    · refine Nat.le_of_mul_le_mul_right (c := 10 ^ L) ?_ hL
      calc 10 ^ (dl - 1) * 10 ^ nd * 10 ^ L = 10 ^ nd * (2 ^ k * 5 ^ k) := by rw [← h10, e, Nat.mul_comm (10 ^ (dl - 1)), Nat.mul_assoc]
        _ = 5 ^ k * 10 ^ nd * 2 ^ k := by rw [Nat.mul_comm (2 ^ k), ← Nat.mul_assoc, Nat.mul_comm (10 ^ nd)]
        _ ≤ W * 10 ^ L * 2 ^ k := Nat.mul_le_mul_right _ k1
        _ = W * 2 ^ k * 10 ^ L := by rw [Nat.mul_right_comm]
end Go.Proofs.YtajpeeccomgnnaaGreatDoor
