/-
  The reference's natText, walked.
-/
import Derived.Test.YticfggljaagcmaaDoorRQuo
import Derived.Test.YticfggljaagcmaaDoorText
import Derived.Laws.IdiomStrings
namespace Go.Proofs.YticfggljaagcmaaDoor
set_option linter.all false
set_option linter.all false
open Go.RowKit

theorem info5 : (Tryd.prog.info? 5).map (fun i => (i.zero, i.size, i.bytes)) = some (some (.int .u8 0), 1, 1) := by kernel_rfl
/-- q, but v at i. -/
def vupd (q : Nat → Value) (i : Nat) (v : Value) : Nat → Value := fun t => if t = i then v else q t
theorem vupd_same (q : Nat → Value) (i : Nat) (v : Value) : vupd q i v i = v := by simp [vupd]
theorem vupd_other (q : Nat → Value) (i : Nat) (v : Value) (t : Nat) (h : t ≠ i) : vupd q i v t = q t := by simp [vupd, h]
/-- The k-th decimal digit's letter. -/
def letV (v k : Nat) : Value := .int .u8 ((48 + v / 10 ^ k % 10 : Nat) : Int)
theorem pw_ten (n : Nat) : pw n ≤ 10 ^ (10 * n) := by
  induction n with
  | zero => simp [pw]
  | succ n ih =>
    rw [pw_succ, show 10 * (n + 1) = 10 * n + 10 by omega, Nat.pow_add]
    have : 4294967296 ≤ 10 ^ 10 := by decide
    calc 4294967296 * pw n ≤ 10 ^ 10 * 10 ^ (10 * n) := Nat.mul_le_mul this ih
      _ = _ := Nat.mul_comm _ _
theorem ten_few {v k n : Nat} (h : 0 < v / 10 ^ k) (hv : v < pw n) : k < 10 * n ∧ k < v ∧ 10 ^ k ≤ v := by
  have h1 : 10 ^ k ≤ v := by
    rcases Nat.lt_or_ge v (10 ^ k) with q | q
    · rw [Nat.div_eq_of_lt q] at h; omega
    · exact q
  refine ⟨?_, ?_, h1⟩
  · rcases Nat.lt_or_ge k (10 * n) with q | q
    · exact q
    · have h2 : 10 ^ (10 * n) ≤ 10 ^ k := Nat.pow_le_pow_right (by decide) q
      have := pw_ten n
      omega
  · have h2 : k < 10 ^ k := Nat.lt_pow_self (by decide)
    omega
theorem dig_get {k v i : Nat} (h : i < k) : (dig k v)[i]? = some (UInt8.ofNat (48 + v / 10 ^ (k - 1 - i) % 10)) := by
  induction k generalizing i with
  | zero => omega
  | succ k ih =>
    cases i with
    | zero => simp [dig]
    | succ i =>
      simp only [dig, List.getElem?_cons_succ]
      rw [ih (by omega)]
      congr 6
      omega
/-- Digits that begin with none of the noughts are the text. -/
theorem dig_dec {k v : Nat} (h1 : 10 ^ k ≤ v) (h2 : v < 10 ^ (k + 1)) : dig (k + 1) v = Lib.decDigits v := by
  have hv : 0 < v := Nat.lt_of_lt_of_le (Nat.pow_pos (by decide)) h1
  rw [← trim_dig (k + 1) v hv h2]
  unfold Lib.trimLeftB
  have h3 : v / 10 ^ k ≠ 0 := by
    have := Nat.div_pos h1 (Nat.pow_pos (by decide : 0 < 10)); omega
  have h4 : v / 10 ^ k < 10 := Nat.div_lt_of_lt_mul (by rw [Nat.pow_succ] at h2; exact h2)
  show _ = (UInt8.ofNat (48 + v / 10 ^ k % 10) :: dig k v).dropWhile (· == 48)
  rw [List.dropWhile_cons, if_neg]
  · rfl
  · rw [Nat.mod_eq_of_lt h4, byte_ne h4 h3]; decide

set_option maxHeartbeats 4000000 in
theorem rnatText_any (a : Option Addr) (n c : Nat) (f : Nat → Nat) (w : World) (hn : n ≤ 274877906944) (hu : Us w a n c f) :
    Calls Tryd.prog 54 #[.slice a n c] w fun e w' => e = .returned (.string ⟨(Lib.decDigits (val f n)).toArray⟩) ∧ Below w.heap.size w w' := by
  have hlt := hid (val_lt (hu.lm.mono hu.le))
  obtain ⟨V, HV⟩ : ∃ V, Hid (val f n = V) := ⟨_, hid rfl⟩
  rw [HV.out] at hlt
  rw [HV.out]
  go_enter Tryd.func54, Tryd.ntmps54
  go_wp2_with fail
  refine (rtrim_any _ _ _ _ _ (by omega) hu).mono ?_
  rintro e w1 ⟨ax, nx, cx, fx, rfl, x1, x2, x3, x4, x5, x6⟩
  have X5 : Hid (val fx nx = V) := hid (x5.out.trans HV.out)
  clear x5
  by_cases h0 : nx = 0
  · subst h0
    have hV0 : Hid (V = 0) := hid (by rw [← X5.out]; rfl)
    go_wp2
    go_ret
    exact ⟨by rw [hV0.out, Lib.decDigits_one (by omega)]; rfl, x3⟩
  · have hVp : Hid (0 < V) := hid (by
      rw [← X5.out]
      rcases Nat.eq_zero_or_pos (val fx nx) with q | q
      · exact absurd (x4.zero.1 q) h0
      · exact q)
    have hnz : ¬ (nx : Int) = 0 := by omega
    have hnb : ((nx : Int) == 0) = false := by simpa using hnz
    go_wp2
    go_loopw [3, 4, 5, 6] (fun xv tv qv dv wr => ∃ (k m d cp : Nat) (r ap : Option Addr) (h : Nat → Nat) (p : Nat → Value), xv = .slice r m d ∧ Us wr r m d h ∧ Nm h m ∧ Hid (val h m = V / 10 ^ k) ∧ m ≤ n ∧ tv = .slice ap k cp ∧ Arr wr ap k cp p ∧ New wr w.heap.size ap cp ∧ Hid (∀ i, i < k → p i = letV V i) ∧ k ≤ 10 * n ∧ Hid (0 < k → 10 ^ (k - 1) ≤ V) ∧ Below w.heap.size w wr) (fun _ tv _ _ _ => V - lenS tv)
    case atStart => exact ⟨0, _, _, 0, _, none, fx, fun _ => .nilIface, rfl, x1, x4, hid (by rw [X5.out]; simp), x6, rfl, Arr.empty _ _ _, New.nil _ _ _, hid (fun _ hi => by omega), by omega, hid (fun h => by omega), x3⟩
    case round =>
      obtain ⟨k, m, d, cp, r, ap, h, p, rfl, hU, hN, hW, hm, rfl, hA, hP, hE, hk, hK0, hB⟩ := hrel
      have hbs := hB.size
      by_cases hm0 : 0 < m
      · have hpos : 0 < V / 10 ^ k := by
          rw [← hW.out]
          rcases Nat.eq_zero_or_pos (val h m) with q | q
          · have := hN.zero.1 q; omega
          · exact q
        obtain ⟨hk1, hk2, hk3⟩ := ten_few hpos hlt.out
        have HK3 := hid hk3
        clear hpos hk3
        have hdl : val h m % 10 ≤ 9 := by omega
        obtain ⟨D, HD⟩ : ∃ D, Hid (val h m % 10 = D) := ⟨_, hid rfl⟩
        rw [HD.out] at hdl
        go_wp2_with fail
        refine (quo_any _ _ _ 10 _ _ (by omega) (by omega) (by omega) hU).mono ?_
        rintro e w2 ⟨r2, m2, d2, h2, rfl, k1, k2, k3, k4, k5, k6⟩
        rw [HD.out]
        have A1 := hA.below (k3.mono (Nat.le_refl _)) (Nat.le_refl _)
        have N1 := hP.below_arr hA k3 (Nat.le_refl _)
        have hs1 := k3.size
        go_wp2_with (at_builtin; refine wpList_append_frame _ rfl _ _ 72 72 rfl 5 5 (.int .u8 0) 1 Tryd.underlying72 Tryd.underlying72 info5 rfl w.heap.size (by simp; omega) _ _ _ _ 1 1 p (fun _ => .int .u8 (48 + (D : Int))) rfl rfl (A1.below (below_alloc _ _) (Nat.le_refl _)) (N1.below_arr A1 (below_alloc _ _) (Nat.le_refl _)) (one_arr _ _ _) (fun _ _ => rfl) (by omega) (by omega) ?_; intro a' c' rr w3 q1 q2 q3 q4 q5; clear q1)
        go_roundw
        case rel =>
          go_light
          refine ⟨k + 1, m2, d2, c', r2, a', h2, _, rfl, (k1.alloc _).frame q5 ?_, k4, ?_, by omega, rfl, q2, q3, ?_, by omega, hid (fun _ => HK3.out), hB.trans ((k3.mono hbs).trans (((below_alloc _ _).mono (by omega)).trans q4))⟩
          · intro b off b2 off2 g1 g2 g3 g4
            have g5 := hA.lt g2 g4
            obtain ⟨b3, o3, g6, g7, _⟩ := k2 0 g3
            rw [g1] at g6
            simp only [Option.some.injEq, Addr.mk.injEq, and_true] at g6
            omega
          · refine hid ?_
            rw [k5.out, hW.out, Nat.div_div_eq_div_mul, Nat.pow_succ]
          · refine hid (fun i hi => ?_)
            unfold cat
            by_cases hik : i < k
            · rw [if_pos hik]; exact hE.out i hik
            · obtain rfl : i = k := by omega
              rw [if_neg (by omega), if_pos (by omega)]
              unfold letV
              rw [← hW.out, HD.out]
              simp
        case measure => simp [lenS]; omega
      · obtain rfl : m = 0 := by omega
        have hlt0 : Hid (V < 10 ^ k) := by
          have := hW.out
          simp only [val] at this
          refine hid ?_
          rcases Nat.lt_or_ge V (10 ^ k) with q | q
          · exact q
          · have := Nat.div_pos q (Nat.pow_pos (by decide)); omega
        have hkp : 0 < k := by
          rcases Nat.eq_zero_or_pos k with q | q
          · have h1 := hlt0.out; rw [q] at h1; have := hVp.out; simp at h1; omega
          · exact q
        go_wp2_with (at_make; refine wpList_make_arr _ rfl _ _ 72 rfl 5 (.int .u8 0) 1 Tryd.underlying72 info5 rfl _ _ _ _ k rfl rfl (by omega) (by omega) (by omega) (by omega) ?_)
        intro w2 hc1 hf1 hb1 hs1
        have hs0 := Nat.le_of_eq hs1.symm
        clear hs1
        go_wp2
        obtain ⟨wo, rfl⟩ : ∃ wo : World, wo = wr := ⟨_, rfl⟩
        go_loopw [8] (fun iv wx => ∃ (i : Nat) (q : Nat → Value), i ≤ k ∧ iv = .int .i64 i ∧ Hid (∀ j, j < k → wx.cell? ⟨wo.heap.size, j, none⟩ = some (q j)) ∧ Hid (∀ j, wx.frozen? ⟨wo.heap.size, j, none⟩ = false) ∧ Hid (∀ j, j < i → q j = letV V (k - 1 - j)) ∧ Below wo.heap.size wo wx ∧ wo.heap.size + 1 ≤ wx.heap.size) (fun iv _ => k - (intOf iv).toNat)
        case atStart => exact ⟨0, _, Nat.zero_le _, rfl, hid hc1, hid hf1, hid (fun _ hi => by omega), hb1, hs0⟩
        case round =>
          obtain ⟨i, q, hi, rfl, hC, hF, hQ, hb, hz⟩ := hrel
          by_cases hik : i < k
          · obtain ⟨j, rfl⟩ : ∃ j, k = i + j + 1 := ⟨k - 1 - i, by omega⟩
            obtain ⟨bl, ol, rfl, hcl⟩ := (hA.below hb (Nat.le_refl _)).cell j (by have := hA.le; omega)
            have hpj := hE.out j (by omega)
            rw [hpj] at hcl
            unfold letV at hcl
            clear hpj
            have hco := hC.out i (by omega)
            have hfo := hF.out i
            obtain ⟨X, HX⟩ : ∃ X, Hid (48 + V / 10 ^ j % 10 = X) := ⟨_, hid rfl⟩
            rw [HX.out] at hcl
            go_wp2
            refine ⟨⟨i + 1, vupd q i (.int .u8 (X : Nat)), by omega, rfl, hid (fun t ht => ?_), hid (fun t => by rw [World.frozen?_setCell]; exact hF.out t), hid (fun t ht => ?_), hb.setCell (Nat.le_refl _) _, by simpa using hz⟩, by simp [intOf]; omega⟩
            · by_cases e : t = i
              · subst e; rw [vupd_same]; exact World.cell?_setCell_same _ _ _ (hC.out t ht)
              · rw [vupd_other _ _ _ _ e, World.cell?_setCell_other _ _ _ _ (by intro h; simp only [Addr.mk.injEq, and_true, true_and] at h; omega)]
                exact hC.out t ht
            · by_cases e : t = i
              · subst e
                rw [vupd_same]
                unfold letV
                rw [show t + j + 1 - 1 - t = j by omega, HX.out]
              · rw [vupd_other _ _ _ _ e]; exact hQ.out t (by omega)
          · obtain rfl : i = k := by omega
            have hcv := run_convert_bytes_back (P := Tryd.prog) wr 72 9 5 ⟨wo.heap.size, 0, none⟩ i (dig i V) Tryd.underlying72 Tryd.underlying5 Tryd.underlying9 (fun j hj => by
              rw [dig_length] at hj
              have h1 := hC.out j hj
              rw [hQ.out j hj] at h1
              have h2 := dig_get (v := V) hj
              rw [List.getElem?_eq_getElem (by rw [dig_length]; exact hj)] at h2
              simp only [Option.some.injEq] at h2
              rw [h2, byte_dig (Nat.mod_lt _ (by decide)), show (⟨wo.heap.size, 0, none⟩ : Addr).add j = ⟨wo.heap.size, j, none⟩ by unfold Addr.add; split <;> simp_all]
              exact h1)
            rw [dig_length] at hcv
            have HDD : Hid (dig i V = Lib.decDigits V) := by
              obtain ⟨k', rfl⟩ : ∃ k', i = k' + 1 := ⟨i - 1, by omega⟩
              exact hid (dig_dec (by have := hK0.out (by omega); simpa using this) hlt0.out)
            generalize dig i V = DD at hcv HDD
            go_wp2
            go_ret
            exact ⟨by rw [← HDD.out]; rfl, hB.trans (hb.mono hbs)⟩
end Go.Proofs.YticfggljaagcmaaDoor
