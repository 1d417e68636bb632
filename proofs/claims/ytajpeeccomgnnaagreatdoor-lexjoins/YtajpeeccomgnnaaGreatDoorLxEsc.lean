/-
  escape, walked.
-/
import Derived.Test.YtajpeeccomgnnaaGreatDoorLxName
namespace Go.Proofs.YtajpeeccomgnnaaGreatDoor
set_option linter.all false
open Go Go.RowKit

theorem sub_drop (s : ByteArray) (i k : Nat) : sub s i k = (s.data.toList.take k).drop i := by
  unfold sub
  rw [ByteArray.data_extract, Array.toList_extract, List.extract_eq_drop_take, List.drop_take]
theorem sub_cons {s : ByteArray} {i k : Nat} (h : i < k) (hk : k ≤ s.size) : sub s i k = UInt8.ofNat (bt s i) :: sub s (i + 1) k := by
  have hl : s.data.toList.length = s.size := (Lib.size_eq s).symm
  rw [sub_drop, sub_drop, List.drop_eq_getElem_cons (by simp; omega)]
  congr 1
  rw [List.getElem_take]
  unfold bt
  rw [List.getElem?_eq_getElem (by omega)]
  simp
theorem sub_nil (s : ByteArray) (i : Nat) : sub s i i = [] := by rw [sub_drop]; apply List.drop_eq_nil_of_le; simp; omega
theorem sub_ext (s : ByteArray) (a r n : Nat) (h : a + n ≤ r) : ((⟨(sub s a r).toArray⟩ : ByteArray).extract 0 n) = ⟨(sub s a (a + n)).toArray⟩ := by
  rw [← ext_sub, ← ext_sub]
  apply ByteArray.ext
  simp only [ByteArray.data_extract, Array.extract_extract]
  congr 1
  omega
theorem runN_all (p : Nat → Bool) (s : ByteArray) : ∀ m i j, i ≤ j → j < runN p s m i → j < s.size ∧ p (bt s j) = true := by
  intro m
  induction m with
  | zero => intro i j h1 h2; simp [runN] at h2; omega
  | succ m ih =>
    intro i j h1 h2
    unfold runN at h2
    split at h2
    · rename_i hc
      by_cases e : j = i
      · subst e; exact hc
      · exact ih (i + 1) j (by omega) h2
    · omega
theorem runE_all {p : Nat → Bool} {s : ByteArray} {i j : Nat} (h1 : i ≤ j) (h2 : j < runE p s i) : p (bt s j) = true := (runN_all p s _ i j h1 h2).2
theorem dig_range {c : Nat} (h : isDig c = true) : 48 ≤ c ∧ c ≤ 57 := of_decide_eq_true h
theorem ofNat_toNat {c : Nat} (h : c < 256) : (UInt8.ofNat c).toNat = c := by simp; omega
theorem digitVal_of {c : Nat} (h : isDig c = true) : Lib.digitVal (UInt8.ofNat c) = some (c - 48) := by
  have := dig_range h
  unfold Lib.digitVal
  rw [ofNat_toNat (by omega), if_pos this]
theorem atoi_three {a b c : Nat} (ha : isDig a = true) (hb : isDig b = true) (hc : isDig c = true) :
    Lib.atoi [UInt8.ofNat a, UInt8.ofNat b, UInt8.ofNat c] = some ((((a - 48) * 100 + (b - 48) * 10 + (c - 48) : Nat)) : Int) := by
  have h1 := dig_range ha
  have n1 : (UInt8.ofNat a == 45) = false := by
    rw [beq_eq_false_iff_ne]; intro e
    have := congrArg UInt8.toNat e
    rw [ofNat_toNat (by omega)] at this
    simp at this; omega
  have n2 : (UInt8.ofNat a == 43) = false := by
    rw [beq_eq_false_iff_ne]; intro e
    have := congrArg UInt8.toNat e
    rw [ofNat_toNat (by omega)] at this
    simp at this; omega
  unfold Lib.atoi
  simp only [n1, n2, Bool.false_eq_true, if_false]
  unfold Lib.decNat
  simp only [List.isEmpty_cons, Bool.false_eq_true, if_false, Lib.decFrom, digitVal_of ha, digitVal_of hb, digitVal_of hc, Option.map_some]
  congr 2
  omega
theorem esc_three {s : ByteArray} {k : Nat} (h1 : ¬ bt s k = 110) (h2 : ¬ bt s k = 116) (h3 : ¬ bt s k = 92) (h4 : ¬ bt s k = 34) :
    escS s k = if k + 3 ≤ runE isDig s k then (if (bt s k - 48) * 100 + (bt s (k + 1) - 48) * 10 + (bt s (k + 2) - 48) < 256 then ((bt s k - 48) * 100 + (bt s (k + 1) - 48) * 10 + (bt s (k + 2) - 48), 3) else (0, 0)) else (0, 0) := by
  unfold escS
  rw [if_neg h1, if_neg h2, if_neg (by omega)]
def ResEsc (w w' : World) (x n : Nat) (e : Ending) : Prop := e = .returned (.tuple #[.int .u8 (x : Nat), .int .i64 (n : Nat)]) ∧ Below w.heap.size w w'
set_option maxRecDepth 100000 in
set_option maxHeartbeats 4000000 in
theorem escape_any (b : Nat) (s : ByteArray) (p k : Nat) (la : Option Addr) (ln lc : Nat) (code mat : Int) (w : World) (hs : s.size ≤ 65536) (hp : p + k ≤ s.size) (h : Sc w b s p la ln lc code mat) :
    Calls Tryz.prog 58 #[.pointer (some ⟨b, 0, none⟩), .int .i64 (k : Nat)] w fun e w' => ResEsc w w' (escS s (p + k)).1 (escS s (p + k)).2 e := by
  obtain ⟨c, hc⟩ : ∃ c, bt s (p + k) = c := ⟨_, rfl⟩
  have hc6 : c < 256 := hc ▸ bt_lt s _
  have HC := hid hc
  obtain ⟨r, hr⟩ : ∃ r, escS s (p + k) = r := ⟨_, rfl⟩
  rw [hr]
  obtain ⟨x, n⟩ := r
  have HR := hid hr
  have tk : True := trivial
  by_cases h110 : c = 110
  · subst h110
    have HV : Hid ((x, n) = (10, 1)) := hid (by rw [← hr]; unfold escS; rw [if_pos hc])
    clear hr hc
    go_enter Tryz.func58, Tryz.ntmps58
    go_wp2_with (have _t := tk; go_at_call 23; refine (peek_any b s p k la ln lc code mat _ (by omega) (by omega) (by omega) h).mono ?_; rintro e w1 ⟨rfl, q1, rfl⟩; rw [HC.out]; clear tk)
    go_ret2
    injection HV.out with e1 e2
    subst e1 e2
    exact ⟨rfl, drewN_below w _⟩
  by_cases h116 : c = 116
  · subst h116
    have HV : Hid ((x, n) = (9, 1)) := hid (by rw [← hr]; unfold escS; rw [if_neg (by omega), if_pos hc])
    clear hr hc
    go_enter Tryz.func58, Tryz.ntmps58
    go_wp2_with (have _t := tk; go_at_call 23; refine (peek_any b s p k la ln lc code mat _ (by omega) (by omega) (by omega) h).mono ?_; rintro e w1 ⟨rfl, q1, rfl⟩; rw [HC.out]; clear tk)
    go_ret2
    injection HV.out with e1 e2
    subst e1 e2
    exact ⟨rfl, drewN_below w _⟩
  by_cases h92 : c = 92
  · subst h92
    have HV : Hid ((x, n) = (92, 1)) := hid (by rw [← hr]; unfold escS; rw [if_neg (by omega), if_neg (by omega), if_pos (Or.inl hc), hc])
    clear hr hc
    go_enter Tryz.func58, Tryz.ntmps58
    go_wp2_with (have _t := tk; go_at_call 23; refine (peek_any b s p k la ln lc code mat _ (by omega) (by omega) (by omega) h).mono ?_; rintro e w1 ⟨rfl, q1, rfl⟩; rw [HC.out]; clear tk)
    go_ret2
    injection HV.out with e1 e2
    subst e1 e2
    exact ⟨rfl, drewN_below w _⟩
  by_cases h34 : c = 34
  · subst h34
    have HV : Hid ((x, n) = (34, 1)) := hid (by rw [← hr]; unfold escS; rw [if_neg (by omega), if_neg (by omega), if_pos (Or.inr hc), hc])
    clear hr hc
    go_enter Tryz.func58, Tryz.ntmps58
    go_wp2_with (have _t := tk; go_at_call 23; refine (peek_any b s p k la ln lc code mat _ (by omega) (by omega) (by omega) h).mono ?_; rintro e w1 ⟨rfl, q1, rfl⟩; rw [HC.out]; clear tk)
    go_ret2
    injection HV.out with e1 e2
    subst e1 e2
    exact ⟨rfl, drewN_below w _⟩
  have i110 : ¬ (c : Int) = 110 := by omega
  have b110 : ((c : Int) == 110) = false := by simp; omega
  have i116 : ¬ (c : Int) = 116 := by omega
  have b116 : ((c : Int) == 116) = false := by simp; omega
  have i92 : ¬ (c : Int) = 92 := by omega
  have b92 : ((c : Int) == 92) = false := by simp; omega
  have i34 : ¬ (c : Int) = 34 := by omega
  have b34 : ((c : Int) == 34) = false := by simp; omega
  have HS := esc_three (s := s) (k := p + k) (by omega) (by omega) (by omega) (by omega)
  obtain ⟨j, hj⟩ : ∃ j, runE isDig s (p + k) = j := ⟨_, rfl⟩
  rw [hr, hj] at HS
  have HK := hid hj
  have hj1 : p + k ≤ j := hj ▸ runE_le isDig s (p + k)
  have hj2 : j ≤ s.size := hj ▸ runE_size hp
  obtain ⟨ss, hss⟩ : ∃ ss, s.extract (p + k) j = ss := ⟨_, rfl⟩
  have hlen : ss.size = j - (p + k) := by rw [← hss]; exact sub_size hj1 hj2
  have HSS := hid hss
  by_cases h3 : p + k + 3 ≤ j
  · have hd : ∀ i, i < 3 → isDig (bt s (p + k + i)) = true := fun i hi => runE_all (p := isDig) (s := s) (i := p + k) (by omega) (by rw [hj]; omega)
    have d0 := hd 0 (by omega)
    have d1 := hd 1 (by omega)
    have d2 := hd 2 (by omega)
    have r0 := dig_range d0
    have r1 := dig_range d1
    have r2 := dig_range d2
    have hl3 : Lib.atoi ((⟨(sub s (p + k) (p + k + 3)).toArray⟩ : ByteArray)).data.toList = some ((((bt s (p + k) - 48) * 100 + (bt s (p + k + 1) - 48) * 10 + (bt s (p + k + 2) - 48) : Nat)) : Int) := by
      rw [bytes_list, sub_cons (by omega) (by omega), sub_cons (by omega) (by omega), sub_cons (by omega) (by omega), sub_nil]
      exact atoi_three d0 d1 d2
    have hsz : (⟨(sub s (p + k) (p + k + 3)).toArray⟩ : ByteArray).size ≤ 18 := by
      have := sub_len (s := s) (i := p + k) (k := p + k + 3) (by omega) (by omega)
      simp only [ByteArray.size, List.size_toArray, this]; omega
    have HX : Hid (ss.extract 0 3 = ⟨(sub s (p + k) (p + k + 3)).toArray⟩) := hid (by rw [← hss, ext_sub s (p + k) j]; exact sub_ext s (p + k) j 3 h3)
    rw [if_pos h3] at HS
    simp only [Nat.add_zero] at r0
    obtain ⟨m, hm⟩ : ∃ m, (bt s (p + k) - 48) * 100 + (bt s (p + k + 1) - 48) * 10 + (bt s (p + k + 2) - 48) = m := ⟨_, rfl⟩
    rw [hm] at hl3 HS
    have hmx : m ≤ 999 := by omega
    have HA := hid hl3
    have HZ := hid hsz
    clear hsz
    by_cases hm6 : m < 256
    · rw [if_pos hm6] at HS
      have HV := hid HS
      have hmi : (m : Int) < 256 := by omega
      have hmw : IntKind.u8.wrap (m : Int) = (m : Int) := IntWalk.u8_in _ (by omega)
      clear hss hr hc hj hd d0 d1 d2 r0 r1 r2 hl3 hm HS
      go_enter Tryz.func58, Tryz.ntmps58
      go_wp2_with (first | (have _t := tk; go_at_call 23; refine (peek_any b s p k la ln lc code mat _ (by omega) (by omega) (by omega) h).mono ?_; rintro e w1 ⟨rfl, q1, rfl⟩; rw [HC.out]; clear tk) | (go_at_call 31; refine (while_digit b s p k la ln lc code mat _ (by omega) (by omega) (h.drewN _)).mono ?_; rintro e w1 ⟨rfl, q2, rfl⟩; rw [HK.out, HSS.out]) | (go_at_call 79; rw [HX.out]; refine (Tryz.strconv_Atoi _ _ HZ.out HA.out _).mono ?_; rintro e w1 ⟨rfl, q3, rfl⟩))
      go_ret2
      injection HV.out with e1 e2
      subst e1 e2
      exact ⟨rfl, (drewN_below w _).trans ((Lib.bytesWorld_below _ _ _).mono (by simp))⟩
    · rw [if_neg hm6] at HS
      have HV := hid HS
      have hmi : ¬ (m : Int) < 256 := by omega
      clear hss hr hc hj hd d0 d1 d2 r0 r1 r2 hl3 hm HS
      go_enter Tryz.func58, Tryz.ntmps58
      go_wp2_with (first | (have _t := tk; go_at_call 23; refine (peek_any b s p k la ln lc code mat _ (by omega) (by omega) (by omega) h).mono ?_; rintro e w1 ⟨rfl, q1, rfl⟩; rw [HC.out]; clear tk) | (go_at_call 31; refine (while_digit b s p k la ln lc code mat _ (by omega) (by omega) (h.drewN _)).mono ?_; rintro e w1 ⟨rfl, q2, rfl⟩; rw [HK.out, HSS.out]) | (go_at_call 79; rw [HX.out]; refine (Tryz.strconv_Atoi _ _ HZ.out HA.out _).mono ?_; rintro e w1 ⟨rfl, q3, rfl⟩))
      go_ret2
      injection HV.out with e1 e2
      subst e1 e2
      exact ⟨rfl, (drewN_below w _).trans ((Lib.bytesWorld_below _ _ _).mono (by simp))⟩
  · rw [if_neg h3] at HS
    have HV := hid HS
    clear hss hr hc hj HS
    go_enter Tryz.func58, Tryz.ntmps58
    go_wp2_with (first | (have _t := tk; go_at_call 23; refine (peek_any b s p k la ln lc code mat _ (by omega) (by omega) (by omega) h).mono ?_; rintro e w1 ⟨rfl, q1, rfl⟩; rw [HC.out]; clear tk) | (go_at_call 31; refine (while_digit b s p k la ln lc code mat _ (by omega) (by omega) (h.drewN _)).mono ?_; rintro e w1 ⟨rfl, q2, rfl⟩; rw [HK.out, HSS.out]))
    go_ret2
    injection HV.out with e1 e2
    subst e1 e2
    exact ⟨rfl, drewN_below w _⟩
end Go.Proofs.YtajpeeccomgnnaaGreatDoor
