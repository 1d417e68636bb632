/-
  The arithmetic of one limb of a quotient. Plain Lean, no program in sight. No condition.
-/
import Derived.Test.YticfggljaagcmaaDoorBase
namespace Go.Proofs.YticfggljaagcmaaDoor
set_option linter.all false

theorem kn_fit {U V U3 V2 P lo vl Q : Nat} (hU : U = lo + U3 * P) (hV : V = vl + V2 * P) (hlo : lo < P) (hQ : Q * V ≤ U) : Q * V2 ≤ U3 := by
  have h1 : Q * V2 * P ≤ Q * V := by rw [hV, Nat.mul_add, Nat.mul_assoc]; omega
  have h2 : Q * V2 * P < (U3 + 1) * P := by rw [Nat.add_mul]; omega
  have := Nat.lt_of_mul_lt_mul_right h2
  omega
theorem kn_first {U3 top u0 V2 v1 v0 Q : Nat} (h : Q * V2 ≤ U3) (hU : U3 = top * 4294967296 + u0) (hV : V2 = v1 * 4294967296 + v0) (h0 : u0 ≤ 4294967295) : Q * v1 ≤ top := by
  have h1 : Q * v1 * 4294967296 ≤ Q * V2 := by rw [hV, Nat.mul_add, Nat.mul_assoc]; omega
  have h2 : Q * v1 * 4294967296 < (top + 1) * 4294967296 := by omega
  have := Nat.lt_of_mul_lt_mul_right h2
  omega
theorem kn_near {U V U3 V2 P lo vl Q q : Nat} (hU : U = lo + U3 * P) (hV : V = vl + V2 * P) (hvl : vl < P) (hQ : U < (Q + 1) * V) (hq : q * V2 ≤ U3) (hq2 : q ≤ 4294967295) (hV2 : 4294967296 ≤ V2) : q ≤ Q + 1 := by
  refine Nat.le_of_not_lt fun hc => ?_
  obtain ⟨m, rfl⟩ : ∃ m, q = m + 1 := ⟨q - 1, by omega⟩
  have h1 : (Q + 1) * V ≤ m * V := Nat.mul_le_mul_right _ (by omega)
  have h2 : m * V ≤ m * ((V2 + 1) * P) := Nat.mul_le_mul_left _ (by rw [hV, Nat.add_mul]; omega)
  have h3 : (m + 1) * V2 * P ≤ U3 * P := Nat.mul_le_mul_right _ hq
  have h4 : (m + 1) * V2 * P < m * (V2 + 1) * P := by rw [Nat.mul_assoc m]; omega
  have h5 := Nat.lt_of_mul_lt_mul_right h4
  rw [Nat.add_mul, Nat.mul_add] at h5
  omega
/-- The test of the loop, told of three limbs against two. -/
theorem kn_test {top rest q v1 v0 u0 : Nat} (h : rest + q * v1 = top) : q * (v1 * 4294967296 + v0) ≤ top * 4294967296 + u0 ↔ q * v0 ≤ rest * 4294967296 + u0 := by
  have e1 : q * (v1 * 4294967296 + v0) = q * v1 * 4294967296 + q * v0 := by rw [Nat.mul_add, Nat.mul_assoc]
  rw [e1, ← h, Nat.add_mul]
  omega
theorem kn_far {rest q v0 u0 : Nat} (hr : 4294967296 ≤ rest) (hq : q ≤ 4294967295) (hv : v0 ≤ 4294967295) : q * v0 ≤ rest * 4294967296 + u0 := by
  have := Nat.mul_le_mul hq hv
  omega
theorem kn_lt {Q q V2 U3 : Nat} (h1 : Q * V2 ≤ U3) (h2 : U3 < q * V2) : Q < q := by
  refine Nat.lt_of_not_le fun h => ?_
  have := Nat.mul_le_mul_right V2 h
  omega
/-- Multiplied and taken away: one limb. -/
theorem kn_sub {H Fv Vv c b d y x q p b' c' k : Nat} (h : H + q * Vv = Fv + (c + b) * pw k) (e1 : d + y + b = p + 4294967296 * b') (e2 : y + 4294967296 * c' = c + q * x) :
    H + d * pw k + q * (Vv + x * pw k) = Fv + p * pw k + (c' + b') * pw (k + 1) := by
  have e3 : (d + b + (c + q * x)) * pw k = (p + 4294967296 * b' + 4294967296 * c') * pw k := by congr 1; omega
  have e4 : (c' + b') * pw (k + 1) = 4294967296 * c' * pw k + 4294967296 * b' * pw k := by
    rw [pw_succ, Nat.mul_left_comm, ← Nat.mul_assoc, Nat.mul_add, Nat.add_mul]
  have e5 : q * (Vv + x * pw k) = q * Vv + q * x * pw k := by rw [Nat.mul_add, Nat.mul_assoc]
  rw [Nat.add_mul, Nat.add_mul, Nat.add_mul, Nat.add_mul, Nat.add_mul] at e3
  rw [Nat.add_mul] at h
  omega
/-- No borrow is left: the limb was right. -/
theorem kn_right {U V Q q H : Nat} (hQ : U < (Q + 1) * V) (hq : Q ≤ q) (h : H + q * V = U) : q = Q ∧ H < V := by
  have h1 : q < Q + 1 := Nat.lt_of_mul_lt_mul_right (a := V) (by omega)
  have e : q = Q := by omega
  subst e
  refine ⟨rfl, ?_⟩
  rw [Nat.add_mul] at hQ
  omega
/-- A borrow is left: it was one too many. -/
theorem kn_wrong {U V Q q H W : Nat} (hQ1 : Q * V ≤ U) (hQ : U < (Q + 1) * V) (hq : q ≤ Q + 1) (hH : H < W) (h : H + q * V = U + W) : q = Q + 1 ∧ H + V = (U - Q * V) + W ∧ U - Q * V < V := by
  have h1 : q = Q + 1 := by
    refine Nat.le_antisymm hq (Nat.lt_of_mul_lt_mul_right (a := V) (b := Q) ?_)
    omega
  subst h1
  rw [Nat.add_mul] at h hQ
  omega
/-- Added back. -/
theorem kn_back {a s P R : Nat} (h : a + s * P = R + 4294967296 * P) (ha : a < P) (hs : s ≤ 4294967296) : a + s % 4294967296 * P = R := by
  by_cases e : s = 4294967296
  · subst e; simp; omega
  · have h1 : s * P ≤ 4294967295 * P := Nat.mul_le_mul_right _ (by omega)
    omega
end Go.Proofs.YticfggljaagcmaaDoor
