/-
  The arithmetic of a long division. Plain Lean, no program in sight. No condition.
-/
import Derived.Test.YticfggljaagcmaaDoorKnuth
import Derived.Lib.ItoaNum
namespace Go.Proofs.YticfggljaagcmaaDoor
set_option linter.all false

/-- So many noughts lead. -/
theorem lead {x : Nat} (h1 : 1 ≤ x) (h2 : x ≤ 4294967295) : Lib.bitLen x ≤ 32 ∧ 1 ≤ Lib.bitLen x ∧ 2147483648 ≤ x * 2 ^ (32 - Lib.bitLen x) ∧ (x + 1) * 2 ^ (32 - Lib.bitLen x) ≤ 4294967296 := by
  have hb := Lib.bitLen_le x 32 (by omega) (by omega)
  obtain ⟨b1, b2, b3⟩ := Lib.bitLenAux_bounds 64 x (by omega) (by omega)
  have e : Lib.bitLenAux 64 x = Lib.bitLen x := rfl
  rw [e] at b1 b2 b3
  refine ⟨hb, b1, ?_, ?_⟩
  · have h : 2 ^ (Lib.bitLen x - 1) * 2 ^ (32 - Lib.bitLen x) ≤ x * 2 ^ (32 - Lib.bitLen x) := Nat.mul_le_mul_right _ b2
    rw [← Nat.pow_add, show Lib.bitLen x - 1 + (32 - Lib.bitLen x) = 31 by omega] at h
    omega
  · have h : (x + 1) * 2 ^ (32 - Lib.bitLen x) ≤ 2 ^ Lib.bitLen x * 2 ^ (32 - Lib.bitLen x) := Nat.mul_le_mul_right _ b3
    rw [← Nat.pow_add, show Lib.bitLen x + (32 - Lib.bitLen x) = 32 by omega] at h
    omega
/-- Limbs from a place on. -/
def frm (h : Nat → Nat) (i : Nat) : Nat → Nat := fun j => h (i + j)
theorem val_frm (h : Nat → Nat) (i n : Nat) : val h (i + n) = val h i + val (frm h i) n * pw i := by
  induction n with
  | zero => simp [val]
  | succ n ih =>
    rw [← Nat.add_assoc, val_succ, val_succ, ih, pw_add, Nat.add_mul]
    have : frm h i n = h (i + n) := rfl
    rw [this, Nat.mul_comm (pw i), Nat.mul_assoc, Nat.add_assoc]
theorem Lm.frm {h : Nat → Nat} {i n : Nat} (k : Lm h (i + n)) : Lm (frm h i) n := fun j hj => k (i + j) (by omega)
/-- Limbs, others from a place on. -/
def putAt (h : Nat → Nat) (i : Nat) (r : Nat → Nat) : Nat → Nat := fun j => if j < i then h j else r (j - i)
theorem val_putAt (h r : Nat → Nat) (i n : Nat) : val (putAt h i r) (i + n) = val h i + val r n * pw i := by
  rw [val_frm]
  congr 1
  · exact val_congr fun j hj => by simp [putAt, hj]
  · congr 1
    exact val_congr fun j hj => by unfold putAt frm; dsimp only; rw [if_neg (by omega), Nat.add_sub_cancel_left]
theorem Lm.putAt {h r : Nat → Nat} {i n : Nat} (k : Lm h i) (l : Lm r n) : Lm (putAt h i r) (i + n) := fun j hj => by
  simp only [YticfggljaagcmaaDoor.putAt]
  split
  · exact k j ‹_›
  · exact l _ (by omega)
/-- The shifted divisor: as many limbs, the last one great. -/
theorem dv_top {g hv : Nat → Nat} {m T : Nat} (lg : Lm g (m + 1)) (lv : Lm hv (m + 2)) (h1 : 2147483648 ≤ g m * T) (h2 : (g m + 1) * T ≤ 4294967296) (hval : val hv (m + 2) = val g (m + 1) * T) :
    hv (m + 1) = 0 ∧ 2147483648 ≤ hv m ∧ val hv (m + 1) = val g (m + 1) * T := by
  have a1 := val_lt (lg.mono (show m ≤ m + 1 by omega))
  have a2 := val_lt (lv.mono (show m ≤ m + 2 by omega))
  have p := pw_pos m
  rw [val_succ, val_succ, val_succ, pw_succ] at hval
  have b1 : (val g m + g m * pw m) * T ≤ 4294967296 * pw m := by
    have : (val g m + g m * pw m) * T ≤ ((g m + 1) * pw m) * T := Nat.mul_le_mul_right _ (by rw [Nat.succ_mul]; omega)
    have e : (g m + 1) * pw m * T = (g m + 1) * T * pw m := by rw [Nat.mul_right_comm]
    have : (g m + 1) * T * pw m ≤ 4294967296 * pw m := Nat.mul_le_mul_right _ h2
    omega
  have b2 : 2147483648 * pw m ≤ (val g m + g m * pw m) * T := by
    have : 2147483648 * pw m ≤ g m * T * pw m := Nat.mul_le_mul_right _ h1
    have e : g m * T * pw m = g m * pw m * T := by rw [Nat.mul_right_comm]
    have : g m * pw m * T ≤ (val g m + g m * pw m) * T := Nat.mul_le_mul_right _ (by omega)
    omega
  have c0 : hv (m + 1) = 0 := by
    rcases Nat.eq_zero_or_pos (hv (m + 1)) with c | c
    · exact c
    · exfalso
      have d1 : 1 * (4294967296 * pw m) ≤ hv (m + 1) * (4294967296 * pw m) := Nat.mul_le_mul_right _ c
      have hT : 0 < T := by rcases Nat.eq_zero_or_pos T with e | e
                            · subst e; simp at h1
                            · exact e
      -- strictly less: the limbs below do not fill their room
      have d2 : (val g m + g m * pw m) * T < 4294967296 * pw m := by
        have : (val g m + g m * pw m) * T < ((g m + 1) * pw m) * T := Nat.mul_lt_mul_of_pos_right (by rw [Nat.succ_mul]; omega) hT
        have e : (g m + 1) * pw m * T = (g m + 1) * T * pw m := by rw [Nat.mul_right_comm]
        have : (g m + 1) * T * pw m ≤ 4294967296 * pw m := Nat.mul_le_mul_right _ h2
        omega
      omega
  rw [c0] at hval
  refine ⟨c0, ?_, ?_⟩
  · have d3 : 2147483648 * pw m < (hv m + 1) * pw m := by rw [Nat.add_mul (hv m)]; omega
    have := Nat.lt_of_mul_lt_mul_right d3
    omega
  · rw [val_succ hv, val_succ g]; omega
/-- One limb more of the quotient. -/
theorem dv_step {h r qf : Nat → Nat} {X Y L i m q : Nat} (hX : X = val h (i + 1 + m) + val qf L * Y) (hq0 : qf i = 0) (hi : i < L) (hs : val (frm h i) (m + 1) = q * Y + val r (m + 1)) (hr : val r (m + 1) < Y) (hY : Y < pw m) :
    X = val (putAt h i r) (i + m) + val (upd qf i q) L * Y ∧ val (putAt h i r) (i + m) < Y * pw i ∨ ¬ Lm r (m + 1) ∨ ¬ Lm h i := by
  by_cases lr : Lm r (m + 1)
  · by_cases lh : Lm h i
    · left
      have hr0 : r m = 0 := by
        rcases Nat.eq_zero_or_pos (r m) with c | c
        · exact c
        · exfalso
          have : 1 * pw m ≤ r m * pw m := Nat.mul_le_mul_right _ c
          rw [val_succ] at hr
          omega
      have hrm : val r (m + 1) = val r m := by rw [val_succ, hr0]; simp
      have e1 : val h (i + 1 + m) = val h i + (q * Y + val r m) * pw i := by
        rw [show i + 1 + m = i + (m + 1) by omega, val_frm, hs, hrm]
      have e2 := val_upd qf i q L hi
      rw [hq0] at e2
      have e3 : val (upd qf i q) L * Y = val qf L * Y + q * Y * pw i := by
        have : val (upd qf i q) L = val qf L + q * pw i := by omega
        rw [this, Nat.add_mul, Nat.mul_right_comm]
      rw [val_putAt, e3]
      refine ⟨by rw [hX, e1, Nat.add_mul]; omega, ?_⟩
      have l1 := val_lt lh
      have : (val r m + 1) * pw i ≤ Y * pw i := Nat.mul_le_mul_right _ (by omega)
      rw [Nat.succ_mul] at this
      omega
    · exact .inr (.inr lh)
  · exact .inr (.inl lr)
/-- Shifted back: one limb. -/
theorem sh_step {v H0 S k T p p2 a D : Nat} (h : T * v + H0 = S + p % T * pw k) (hd : T * D = 4294967296) (ha : a = p / T + p2 % T * D) :
    T * (v + a * pw k) + H0 = S + p * pw k + p2 % T * pw (k + 1) := by
  have e1 : T * a = (p - p % T) + p2 % T * 4294967296 := by
    rw [ha, Nat.mul_add, Nat.mul_left_comm, hd]
    have := Nat.div_add_mod p T
    omega
  have e2 : T * (a * pw k) = (p - p % T) * pw k + p2 % T * pw (k + 1) := by
    rw [← Nat.mul_assoc, e1, Nat.add_mul, pw_succ, Nat.mul_assoc (p2 % T)]
  have e3 : (p - p % T) * pw k + p % T * pw k = p * pw k := by
    rw [← Nat.add_mul, Nat.sub_add_cancel (Nat.mod_le _ _)]
  rw [Nat.mul_add, e2]
  omega
/-- What is left is shifted back whole. -/
theorem dv_end {x y Q R r T : Nat} (h : x * T = T * R + r + Q * (y * T)) (hr : r < T) (hl : T * R + r < y * T) : x = Q * y + R ∧ R < y := by
  have hT : 0 < T := by omega
  have e1 : Q * (y * T) = Q * y * T := by rw [Nat.mul_assoc]
  have e2 : T * R = R * T := Nat.mul_comm _ _
  have h0 : r = 0 := by
    have h1 : (x * T) % T = 0 := Nat.mul_mod_left _ _
    rw [h, e1, e2, Nat.add_mul_mod_self_right, Nat.add_comm, Nat.add_mul_mod_self_right, Nat.mod_eq_of_lt hr] at h1
    exact h1
  subst h0
  rw [e1, e2, Nat.add_zero, ← Nat.add_mul] at h
  rw [e2, Nat.add_zero] at hl
  have := Nat.eq_of_mul_eq_mul_right hT h
  exact ⟨by omega, Nat.lt_of_mul_lt_mul_right hl⟩
end Go.Proofs.YticfggljaagcmaaDoor
