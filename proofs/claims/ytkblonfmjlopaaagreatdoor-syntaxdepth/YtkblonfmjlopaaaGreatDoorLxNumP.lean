/-
  escape, walked.
-/
import Derived.Test.YtkblonfmjlopaaaGreatDoorLxName
import Derived.Laws.BytesArg
import Derived.Laws.IdiomStrings
import Derived.Lib.Replace
set_option linter.all false
set_option maxRecDepth 1000000
set_option maxHeartbeats 16000000
namespace Go.Proofs.YtkblonfmjlopaaaGreatDoor
open Go Go.RowKit
theorem sub_drop (s : ByteArray) (i k : Nat) : sub s i k = (s.data.toList.take k).drop i := by
  unfold sub; rw [ByteArray.data_extract, Array.toList_extract, List.extract_eq_drop_take, List.drop_take]
theorem sub_cons {s : ByteArray} {i k : Nat} (h : i < k) (hk : k ≤ s.size) : sub s i k = UInt8.ofNat (bt s i) :: sub s (i + 1) k := by
  have hl : s.data.toList.length = s.size := (Lib.size_eq s).symm; rw [sub_drop, sub_drop, List.drop_eq_getElem_cons (by simp; omega)]
  congr 1
  rw [List.getElem_take]; unfold bt; rw [List.getElem?_eq_getElem (by omega)]; simp
theorem sub_nil (s : ByteArray) (i : Nat) : sub s i i = [] := by rw [sub_drop]; apply List.drop_eq_nil_of_le; simp; omega
theorem sub_ext (s : ByteArray) (a r n : Nat) (h : a + n ≤ r) : ((⟨(sub s a r).toArray⟩ : ByteArray).extract 0 n) = ⟨(sub s a (a + n)).toArray⟩ := by
  rw [← ext_sub, ← ext_sub]; apply ByteArray.ext; simp only [ByteArray.data_extract, Array.extract_extract]
  congr 1
  omega
theorem runN_all (p : Nat → Bool) (s : ByteArray) : ∀ m i j, i ≤ j → j < runN p s m i → j < s.size ∧ p (bt s j) = true := by
  intro m
  induction m with
  | zero => intro i j h1 h2; simp [runN] at h2; omega
  | succ m ih =>
    intro i j h1 h2; unfold runN at h2
    split at h2
    · rename_i hc
      by_cases e : j = i
      · subst e; exact hc
      · exact ih (i + 1) j (by omega) h2
    · omega
theorem runE_all {p : Nat → Bool} {s : ByteArray} {i j : Nat} (h1 : i ≤ j) (h2 : j < runE p s i) : p (bt s j) = true := (runN_all p s _ i j h1 h2).2
theorem dig_range {c : Nat} (h : isDig c = true) : 48 ≤ c ∧ c ≤ 57 := of_decide_eq_true h
theorem ofNat_toNat {c : Nat} (h : c < 256) : (UInt8.ofNat c).toNat = c := by simp; omega
theorem digitVal_of {c : Nat} (h : isDig c = true) : Lib.digitVal (UInt8.ofNat c) = some (c - 48) := by
  have := dig_range h; unfold Lib.digitVal; rw [ofNat_toNat (by omega), if_pos this]
theorem atoi_three {a b c : Nat} (ha : isDig a = true) (hb : isDig b = true) (hc : isDig c = true) :
    Lib.atoi [UInt8.ofNat a, UInt8.ofNat b, UInt8.ofNat c] = some ((((a - 48) * 100 + (b - 48) * 10 + (c - 48) : Nat)) : Int) := by
  have h1 := dig_range ha
  have n1 : (UInt8.ofNat a == 45) = false := by
    rw [beq_eq_false_iff_ne]; intro e; have := congrArg UInt8.toNat e; rw [ofNat_toNat (by omega)] at this; simp at this; omega
  have n2 : (UInt8.ofNat a == 43) = false := by
    rw [beq_eq_false_iff_ne]; intro e; have := congrArg UInt8.toNat e; rw [ofNat_toNat (by omega)] at this; simp at this; omega
  unfold Lib.atoi; simp only [n1, n2, Bool.false_eq_true, if_false]; unfold Lib.decNat; simp only [List.isEmpty_cons, Bool.false_eq_true, if_false, Lib.decFrom, digitVal_of ha, digitVal_of hb, digitVal_of hc, Option.map_some]
  congr 2
  omega
theorem esc_three {s : ByteArray} {k : Nat} (h1 : ¬ bt s k = 110) (h2 : ¬ bt s k = 116) (h3 : ¬ bt s k = 92) (h4 : ¬ bt s k = 34) :
    escS s k = if k + 3 ≤ runE isDig s k then (if (bt s k - 48) * 100 + (bt s (k + 1) - 48) * 10 + (bt s (k + 2) - 48) < 256 then ((bt s k - 48) * 100 + (bt s (k + 1) - 48) * 10 + (bt s (k + 2) - 48), 3) else (0, 0)) else (0, 0) := by
  unfold escS; rw [if_neg h1, if_neg h2, if_neg (by omega)]
def ResEsc (w w' : World) (x n : Nat) (e : Ending) : Prop := e = .returned (.tuple #[.int .u8 (x : Nat), .int .i64 (n : Nat)]) ∧ Below w.heap.size w w'
theorem escape_any (b : Nat) (s : ByteArray) (p k : Nat) (la : Option Addr) (ln lc : Nat) (code mat : Int) (w : World) (hs : s.size ≤ 65536) (hp : p + k ≤ s.size) (h : Sc w b s p la ln lc code mat) :
    Calls Tryz.prog 92 #[.pointer (some ⟨b, 0, none⟩), .int .i64 (k : Nat)] w fun e w' => ResEsc w w' (escS s (p + k)).1 (escS s (p + k)).2 e := by
  obtain ⟨c, hc⟩ : ∃ c, bt s (p + k) = c := ⟨_, rfl⟩; have hc6 : c < 256 := hc ▸ bt_lt s _; have HC := hid hc; obtain ⟨r, hr⟩ : ∃ r, escS s (p + k) = r := ⟨_, rfl⟩; rw [hr]; obtain ⟨x, n⟩ := r; have HR := hid hr; have tk : True := trivial
  by_cases h110 : c = 110
  · subst h110; have HV : Hid ((x, n) = (10, 1)) := hid (by rw [← hr]; unfold escS; rw [if_pos hc]); clear hr hc; go_enter Tryz.func92, Tryz.ntmps92
    go_wp2_with (have _t := tk; go_at_call 47; refine (peek_any b s p k la ln lc code mat _ (by omega) (by omega) (by omega) h).mono ?_; rintro e w1 ⟨rfl, q1, rfl⟩; rw [HC.out]; clear tk)
    go_ret2
    injection HV.out with e1 e2; subst e1 e2; exact ⟨rfl, drewN_below w _⟩
  by_cases h116 : c = 116
  · subst h116; have HV : Hid ((x, n) = (9, 1)) := hid (by rw [← hr]; unfold escS; rw [if_neg (by omega), if_pos hc]); clear hr hc; go_enter Tryz.func92, Tryz.ntmps92
    go_wp2_with (have _t := tk; go_at_call 47; refine (peek_any b s p k la ln lc code mat _ (by omega) (by omega) (by omega) h).mono ?_; rintro e w1 ⟨rfl, q1, rfl⟩; rw [HC.out]; clear tk)
    go_ret2
    injection HV.out with e1 e2; subst e1 e2; exact ⟨rfl, drewN_below w _⟩
  by_cases h92 : c = 92
  · subst h92; have HV : Hid ((x, n) = (92, 1)) := hid (by rw [← hr]; unfold escS; rw [if_neg (by omega), if_neg (by omega), if_pos (Or.inl hc), hc]); clear hr hc; go_enter Tryz.func92, Tryz.ntmps92
    go_wp2_with (have _t := tk; go_at_call 47; refine (peek_any b s p k la ln lc code mat _ (by omega) (by omega) (by omega) h).mono ?_; rintro e w1 ⟨rfl, q1, rfl⟩; rw [HC.out]; clear tk)
    go_ret2
    injection HV.out with e1 e2; subst e1 e2; exact ⟨rfl, drewN_below w _⟩
  by_cases h34 : c = 34
  · subst h34; have HV : Hid ((x, n) = (34, 1)) := hid (by rw [← hr]; unfold escS; rw [if_neg (by omega), if_neg (by omega), if_pos (Or.inr hc), hc]); clear hr hc; go_enter Tryz.func92, Tryz.ntmps92
    go_wp2_with (have _t := tk; go_at_call 47; refine (peek_any b s p k la ln lc code mat _ (by omega) (by omega) (by omega) h).mono ?_; rintro e w1 ⟨rfl, q1, rfl⟩; rw [HC.out]; clear tk)
    go_ret2
    injection HV.out with e1 e2; subst e1 e2; exact ⟨rfl, drewN_below w _⟩
  have i110 : ¬ (c : Int) = 110 := by omega
  have b110 : ((c : Int) == 110) = false := by simp; omega
  have i116 : ¬ (c : Int) = 116 := by omega
  have b116 : ((c : Int) == 116) = false := by simp; omega
  have i92 : ¬ (c : Int) = 92 := by omega
  have b92 : ((c : Int) == 92) = false := by simp; omega
  have i34 : ¬ (c : Int) = 34 := by omega
  have b34 : ((c : Int) == 34) = false := by simp; omega
  have HS := esc_three (s := s) (k := p + k) (by omega) (by omega) (by omega) (by omega); obtain ⟨j, hj⟩ : ∃ j, runE isDig s (p + k) = j := ⟨_, rfl⟩; rw [hr, hj] at HS; have HK := hid hj; have hj1 : p + k ≤ j := hj ▸ runE_le isDig s (p + k); have hj2 : j ≤ s.size := hj ▸ runE_size hp; obtain ⟨ss, hss⟩ : ∃ ss, s.extract (p + k) j = ss := ⟨_, rfl⟩; have hlen : ss.size = j - (p + k) := by rw [← hss]; exact sub_size hj1 hj2
  have HSS := hid hss
  by_cases h3 : p + k + 3 ≤ j
  · have hd : ∀ i, i < 3 → isDig (bt s (p + k + i)) = true := fun i hi => runE_all (p := isDig) (s := s) (i := p + k) (by omega) (by rw [hj]; omega); have d0 := hd 0 (by omega); have d1 := hd 1 (by omega); have d2 := hd 2 (by omega); have r0 := dig_range d0; have r1 := dig_range d1; have r2 := dig_range d2
    have hl3 : Lib.atoi ((⟨(sub s (p + k) (p + k + 3)).toArray⟩ : ByteArray)).data.toList = some ((((bt s (p + k) - 48) * 100 + (bt s (p + k + 1) - 48) * 10 + (bt s (p + k + 2) - 48) : Nat)) : Int) := by
      rw [bytes_list, sub_cons (by omega) (by omega), sub_cons (by omega) (by omega), sub_cons (by omega) (by omega), sub_nil]; exact atoi_three d0 d1 d2
    have hsz : (⟨(sub s (p + k) (p + k + 3)).toArray⟩ : ByteArray).size ≤ 18 := by
      have := sub_len (s := s) (i := p + k) (k := p + k + 3) (by omega) (by omega); simp only [ByteArray.size, List.size_toArray, this]; omega
    have HX : Hid (ss.extract 0 3 = ⟨(sub s (p + k) (p + k + 3)).toArray⟩) := hid (by rw [← hss, ext_sub s (p + k) j]; exact sub_ext s (p + k) j 3 h3); rw [if_pos h3] at HS; simp only [Nat.add_zero] at r0; obtain ⟨m, hm⟩ : ∃ m, (bt s (p + k) - 48) * 100 + (bt s (p + k + 1) - 48) * 10 + (bt s (p + k + 2) - 48) = m := ⟨_, rfl⟩; rw [hm] at hl3 HS; have hmx : m ≤ 999 := by omega
    have HA := hid hl3; have HZ := hid hsz; clear hsz
    by_cases hm6 : m < 256
    · rw [if_pos hm6] at HS; have HV := hid HS; have hmi : (m : Int) < 256 := by omega
      have hmw : IntKind.u8.wrap (m : Int) = (m : Int) := IntWalk.u8_in _ (by omega); clear hss hr hc hj hd d0 d1 d2 r0 r1 r2 hl3 hm HS; go_enter Tryz.func92, Tryz.ntmps92
      go_wp2_with (first | (have _t := tk; go_at_call 47; refine (peek_any b s p k la ln lc code mat _ (by omega) (by omega) (by omega) h).mono ?_; rintro e w1 ⟨rfl, q1, rfl⟩; rw [HC.out]; clear tk) | (go_at_call 55; refine (while_digit b s p k la ln lc code mat _ (by omega) (by omega) (h.drewN _)).mono ?_; rintro e w1 ⟨rfl, q2, rfl⟩; rw [HK.out, HSS.out]) | (go_at_call 129; rw [HX.out]; refine (Tryz.strconv_Atoi _ _ HZ.out HA.out _).mono ?_; rintro e w1 ⟨rfl, q3, rfl⟩))
      go_ret2
      injection HV.out with e1 e2; subst e1 e2; exact ⟨rfl, (drewN_below w _).trans ((Lib.bytesWorld_below _ _ _).mono (by simp))⟩
    · rw [if_neg hm6] at HS; have HV := hid HS; have hmi : ¬ (m : Int) < 256 := by omega
      clear hss hr hc hj hd d0 d1 d2 r0 r1 r2 hl3 hm HS; go_enter Tryz.func92, Tryz.ntmps92
      go_wp2_with (first | (have _t := tk; go_at_call 47; refine (peek_any b s p k la ln lc code mat _ (by omega) (by omega) (by omega) h).mono ?_; rintro e w1 ⟨rfl, q1, rfl⟩; rw [HC.out]; clear tk) | (go_at_call 55; refine (while_digit b s p k la ln lc code mat _ (by omega) (by omega) (h.drewN _)).mono ?_; rintro e w1 ⟨rfl, q2, rfl⟩; rw [HK.out, HSS.out]) | (go_at_call 129; rw [HX.out]; refine (Tryz.strconv_Atoi _ _ HZ.out HA.out _).mono ?_; rintro e w1 ⟨rfl, q3, rfl⟩))
      go_ret2
      injection HV.out with e1 e2; subst e1 e2; exact ⟨rfl, (drewN_below w _).trans ((Lib.bytesWorld_below _ _ _).mono (by simp))⟩
  · rw [if_neg h3] at HS; have HV := hid HS; clear hss hr hc hj HS; go_enter Tryz.func92, Tryz.ntmps92
    go_wp2_with (first | (have _t := tk; go_at_call 47; refine (peek_any b s p k la ln lc code mat _ (by omega) (by omega) (by omega) h).mono ?_; rintro e w1 ⟨rfl, q1, rfl⟩; rw [HC.out]; clear tk) | (go_at_call 55; refine (while_digit b s p k la ln lc code mat _ (by omega) (by omega) (h.drewN _)).mono ?_; rintro e w1 ⟨rfl, q2, rfl⟩; rw [HK.out, HSS.out]))
    go_ret2
    injection HV.out with e1 e2; subst e1 e2; exact ⟨rfl, drewN_below w _⟩
theorem St.at {w : World} {b : Nat} {s : ByteArray} {p p' : Nat} {ts : List Tok} {base : Nat} (h : St w b s p ts base) (hp : p ≤ p') : St (w.setCell ⟨b, 1, none⟩ (.int .i64 (p' : Nat))) b s p' ts base := by
  obtain ⟨la, lc, h1, h2, h3, h4, h5, h6⟩ := h; have c1 := h1.c1; have u : UsK w (w.setCell ⟨b, 1, none⟩ (.int .i64 (p' : Nat))) := (UsK.refl w).set c1 (fun _ h => by cases h) _; refine ⟨la, lc, ⟨by simpa using h1.lt, ?_, ?_, ?_, ?_, ?_, fun o => by simpa using h1.fr o⟩, ?_, h3.set _ _, h4, fun x off e => by simpa using h5 x off e, by omega⟩
  · rw [World.cell?_setCell_other _ _ _ _ (by intro h; simp at h)]; exact h1.c0
  · rw [World.cell?_setCell_same _ _ _ c1]
  · rw [World.cell?_setCell_other _ _ _ _ (by intro h; simp at h)]; exact h1.c2
  · rw [World.cell?_setCell_other _ _ _ _ (by intro h; simp at h)]; exact h1.c3
  · rw [World.cell?_setCell_other _ _ _ _ (by intro h; simp at h)]; exact h1.c4
  · obtain ⟨hh, A, e, z, tk⟩ := h2; refine ⟨hh, ⟨A.le, A.mx, fun j hj => ?_⟩, e, z, fun i t ht => (tk i t ht).keep u⟩; obtain ⟨x, off, ea, hc⟩ := A.cell j hj; refine ⟨x, off, ea, ?_⟩; have := (h5 x off ea).1; rw [World.cell?_setCell_other _ _ _ _ (by intro h; simp only [Addr.mk.injEq] at h; omega)]; exact hc
theorem St.usAt {w : World} {b : Nat} {s : ByteArray} {p : Nat} {ts : List Tok} {base : Nat} (h : St w b s p ts base) (v : Value) : UsK w (w.setCell ⟨b, 1, none⟩ v) := by
  obtain ⟨la, lc, h1, _⟩ := h; exact (UsK.refl w).set h1.c1 (fun _ h => by cases h) _
theorem St.base {w : World} {b : Nat} {s : ByteArray} {p : Nat} {ts : List Tok} {base : Nat} (h : St w b s p ts base) : base ≤ b := by
  obtain ⟨la, lc, _, _, _, h4, _⟩ := h; exact h4
theorem bt_in2 {s : ByteArray} {i : Nat} {c : Nat} (h : bt s i = c) (hc : c ≠ 0) : i < s.size := bt_in (by omega)
theorem blankS_fuel (s : ByteArray) : ∀ m m' d i, i ≤ s.size → s.size + 1 ≤ m + i → s.size + 1 ≤ m' + i → blankS s m d i = blankS s m' d i := by
  intro m
  induction m with
  | zero => intro m' d i hi h h'; omega
  | succ m ih =>
    intro m' d i hi h h'; obtain ⟨m', rfl⟩ : ∃ k, m' = k + 1 := ⟨m' - 1, by omega⟩; unfold blankS
    by_cases hA : bt s i = 40 ∧ bt s (i + 1) = 42
    · have h1 := bt_in2 hA.2 (by omega); rw [if_pos hA, if_pos hA, ih m' (d + 1) (i + 2) (by omega) (by omega) (by omega)]
    · rw [if_neg hA, if_neg hA]
      by_cases hB : 0 < d ∧ bt s i = 42 ∧ bt s (i + 1) = 41
      · have h1 := bt_in2 hB.2.2 (by omega); rw [if_pos hB, if_pos hB, ih m' (d - 1) (i + 2) (by omega) (by omega) (by omega)]
      · rw [if_neg hB, if_neg hB]
        by_cases hC : 0 < d ∧ s.size ≤ i
        · rw [if_pos hC, if_pos hC]
        · rw [if_neg hC, if_neg hC]
          by_cases hD : 0 < d ∨ i < s.size ∧ (bt s i = 32 ∨ bt s i = 9 ∨ bt s i = 10 ∨ bt s i = 13)
          · rw [if_pos hD, if_pos hD, ih m' d (i + 1) (by omega) (by omega) (by omega)]
          · rw [if_neg hD, if_neg hD]
def blankE (s : ByteArray) (d i : Nat) : Option Nat := blankS s (s.size + 2 - i) d i
theorem blankE_unfold {s : ByteArray} {d i : Nat} (hi : i ≤ s.size) : blankE s d i =
    if bt s i = 40 ∧ bt s (i + 1) = 42 then blankE s (d + 1) (i + 2)
    else if 0 < d ∧ bt s i = 42 ∧ bt s (i + 1) = 41 then blankE s (d - 1) (i + 2)
    else if 0 < d ∧ s.size ≤ i then none
    else if 0 < d ∨ i < s.size ∧ (bt s i = 32 ∨ bt s i = 9 ∨ bt s i = 10 ∨ bt s i = 13) then blankE s d (i + 1)
    else some i := by
  unfold blankE; obtain ⟨m, hm⟩ : ∃ m, s.size + 2 - i = m + 1 := ⟨s.size + 1 - i, by omega⟩; rw [hm]
  conv => lhs; unfold blankS
  by_cases hA : bt s i = 40 ∧ bt s (i + 1) = 42
  · have h1 := bt_in2 hA.2 (by omega); rw [if_pos hA, if_pos hA, blankS_fuel s m (s.size + 2 - (i + 2)) (d + 1) (i + 2) (by omega) (by omega) (by omega)]
  · rw [if_neg hA, if_neg hA]
    by_cases hB : 0 < d ∧ bt s i = 42 ∧ bt s (i + 1) = 41
    · have h1 := bt_in2 hB.2.2 (by omega); rw [if_pos hB, if_pos hB, blankS_fuel s m (s.size + 2 - (i + 2)) (d - 1) (i + 2) (by omega) (by omega) (by omega)]
    · rw [if_neg hB, if_neg hB]
      by_cases hC : 0 < d ∧ s.size ≤ i
      · rw [if_pos hC, if_pos hC]
      · rw [if_neg hC, if_neg hC]
        by_cases hD : 0 < d ∨ i < s.size ∧ (bt s i = 32 ∨ bt s i = 9 ∨ bt s i = 10 ∨ bt s i = 13)
        · rw [if_pos hD, if_pos hD, blankS_fuel s m (s.size + 2 - (i + 1)) d (i + 1) (by omega) (by omega) (by omega)]
        · rw [if_neg hD, if_neg hD]
def scPos (w : World) (b : Nat) : Nat := (intOf ((w.cell? ⟨b, 1, none⟩).getD (.int .i64 0))).toNat
def scGo (w : World) (b : Nat) : Nat := if intOf ((w.cell? ⟨b, 3, none⟩).getD (.int .i64 0)) = 0 then 1 else 0
theorem Sc.pos {w : World} {b : Nat} {s : ByteArray} {p : Nat} {la : Option Addr} {ln lc : Nat} {code mat : Int} (h : Sc w b s p la ln lc code mat) : scPos w b = p := by
  unfold scPos; rw [h.c1]; rfl
theorem Sc.go {w : World} {b : Nat} {s : ByteArray} {p : Nat} {la : Option Addr} {ln lc : Nat} {code mat : Int} (h : Sc w b s p la ln lc code mat) : scGo w b = if code = 0 then 1 else 0 := by
  unfold scGo; rw [h.c3]; rfl
def zr (w : World) (b : Nat) (s : ByteArray) : Nat := 2 * (s.size - scPos w b) + scGo w b
theorem St.zr {w : World} {b : Nat} {s : ByteArray} {p : Nat} {ts : List Tok} {base : Nat} (h : St w b s p ts base) : zr w b s = 2 * (s.size - p) + 1 := by
  obtain ⟨la, lc, h1, _⟩ := h; unfold Go.Proofs.YtkblonfmjlopaaaGreatDoor.zr; rw [h1.pos, h1.go]; rfl
theorem zr_at {w : World} {b : Nat} {s : ByteArray} {p p' : Nat} {ts : List Tok} {base : Nat} {v : Value} (h : St w b s p ts base) (hv : v = .int .i64 (p' : Nat)) (hp : p ≤ p') : Go.Proofs.YtkblonfmjlopaaaGreatDoor.zr (w.setCell ⟨b, 1, none⟩ v) b s = 2 * (s.size - p') + 1 := by
  subst hv; exact (h.at hp).zr
def OutB (w w' : World) (b : Nat) (s : ByteArray) (ts : List Tok) (base : Nat) (e : Ending) (r : Option Nat) : Prop :=
  e = .returned (.tuple #[]) ∧ Below base w w' ∧ UsK w w' ∧
  match r with
  | some q => St w' b s q ts base ∧ q ≤ s.size
  | none => ∃ p la ln lc, Sc w' b s p la ln lc 31 (s.size : Nat)
def BR (w : World) (b : Nat) (s : ByteArray) (ts : List Tok) (base : Nat) (R : Option Nat) (dv : Value) (wr : World) : Prop :=
  (∃ d p : Nat, dv = .int .i64 (d : Nat) ∧ d ≤ p ∧ p ≤ s.size ∧ St wr b s p ts base ∧ Below base w wr ∧ UsK w wr ∧ Hid (blankE s d p = R)) ∨
  (∃ p la ln lc, Sc wr b s p la ln lc 31 (s.size : Nat) ∧ p = s.size ∧ Below base w wr ∧ UsK w wr ∧ R = none)
def Bs (w : World) (base : Nat) (a : Option Addr) (n c : Nat) (l : List UInt8) : Prop :=
  ∃ h, Arr w a n c h ∧ n = l.length ∧ (∀ i x, l[i]? = some x → h i = .int .u8 (x.toNat : Nat)) ∧ New w base a c ∧ (l = [] → a = none)
theorem Bs.nil (w : World) (base : Nat) : Bs w base none 0 0 [] := ⟨fun _ => .bool false, Arr.empty _ _ _, rfl, fun i x e => by simp at e, New.nil _ _ _, fun _ => rfl⟩
theorem Bs.below {w w' : World} {base : Nat} {a : Option Addr} {n c : Nat} {l : List UInt8} (k : Bs w base a n c l) (hb : Below w.heap.size w w') : Bs w' base a n c l := by
  obtain ⟨h, A, e, hx, N, h0⟩ := k; refine ⟨h, A.below hb (Nat.le_refl _), e, hx, fun i hi => ?_, h0⟩; obtain ⟨b, off, e1, g1, g2⟩ := N i hi; obtain ⟨b', off', e2, hc⟩ := A.cell i hi; rw [e1] at e2; simp only [Option.some.injEq, Addr.mk.injEq, and_true] at e2; obtain ⟨rfl, rfl⟩ := e2; exact ⟨b, off, e1, g1, (hb.frozen (p := ⟨b, off + i, none⟩) (World.block_lt_of_cell? w _ hc)).trans g2⟩
theorem Tryz.info5 : (Tryz.prog.info? 5).map (fun i => (i.zero, i.size, i.bytes)) = some (some (.int .u8 0), 1, 1) := by kernel_rfl
theorem one_cell {w : World} {xb : Nat} {v : Value} (h : w.cell? ⟨xb, 0, none⟩ = some v) : ∀ i, i < 1 → ∃ b off, (some ⟨xb, 0, none⟩ : Option Addr) = some ⟨b, off, none⟩ ∧ w.cell? ⟨b, off + i, none⟩ = some v := fun i hi => by
  have : i = 0 := by omega
  subst this; exact ⟨xb, 0, rfl, h⟩
theorem wpList_append_u8 {ops : Array Oper} {rest : List Oper} {o : Oper} {act : Act} {Q : Exit → Act → World → Prop} (w : World) (hgd : o.guard = none) (s x : Operand)
    (ho : o.op = .call { callee := .builtin .append, args := #[s, x], argTypes := #[165, 165] }) (base : Nat) (hbase : base ≤ w.heap.size)
    (a : Option Addr) (n c xb y : Nat) (l : List UInt8) (hy : y < 256) (hs : act.eval s = .slice a n c) (hx : act.eval x = .slice (some ⟨xb, 0, none⟩) 1 1) (A : Bs w base a n c l) (hxc : w.cell? ⟨xb, 0, none⟩ = some (.int .u8 (y : Nat)))
    (hlen : n ≤ 70368744177664)
    (hK : ∀ a' c' w', Bs w' base a' (n + 1) c' (l ++ [UInt8.ofNat y]) → Below base w w' → wpList Tryz.prog ops Q rest (act.put o.dst (.slice a' (n + 1) c')) w') :
    wpList Tryz.prog ops Q (o :: rest) act w := by
  obtain ⟨h, A1, e, hv, N, h0⟩ := A
  refine wpList_append_arr w hgd s x 165 165 ho 5 5 (.int .u8 0) 1 Tryz.underlying165 Tryz.underlying165 Tryz.info5 rfl base hbase a (some ⟨xb, 0, none⟩) n c 1 1 h (fun _ => .int .u8 (y : Nat)) hs hx A1 N
    ⟨Nat.le_refl _, by decide, one_cell hxc⟩ (fun _ _ => rfl) (by omega) (by omega) ?_
  intro a' c' r w' _ A2 N2 hb; refine hK a' c' w' ⟨_, A2, by simp [e], fun i z hz => ?_, N2, fun h => by simp at h⟩ hb; unfold cat
  by_cases hi : i < n
  · rw [if_pos hi]; rw [List.getElem?_append_left (by omega)] at hz; exact hv i z hz
  · rw [if_neg hi]; rw [List.getElem?_append_right (by omega)] at hz
    have hi2 : i - l.length = 0 := by
      have := (List.getElem?_eq_some_iff.1 hz).1; simp at this; omega
    rw [hi2] at hz; have hz2 := Option.some.inj (show some (UInt8.ofNat y) = some z from hz); subst hz2; rw [if_pos (by omega), ofNat_toNat hy]
theorem run_bs {w : World} {base : Nat} {a : Option Addr} {n c : Nat} {l : List UInt8} (k : Bs w base a n c l) : (convert 165 9 (.slice a n c)).run Tryz.prog w = .ok (.string ⟨l.toArray⟩) w := by
  obtain ⟨h, A, rfl, hx, N, h0⟩ := k; cases l with
  | nil =>
    rw [h0 rfl]; exact run_convert_bytes_nil (P := Tryz.prog) (w := w) 165 5 Tryz.underlying165 Tryz.underlying5 _ _ 9 Tryz.underlying9
  | cons y l =>
    have hle := A.le; obtain ⟨b, off, rfl, hc⟩ := A.addr (by simp at hle; omega); refine run_convert_bytes_back w 165 9 5 ⟨b, off, none⟩ c (y :: l) Tryz.underlying165 Tryz.underlying5 Tryz.underlying9 (fun j hj => ?_); rw [Addr.add_lit, hc j (by omega), hx j _ (List.getElem?_eq_getElem hj)]
theorem esc_in {s : ByteArray} {k : Nat} (h : (escS s k).2 ≠ 0) : k + (escS s k).2 ≤ s.size ∧ (escS s k).1 < 256 := by
  unfold escS at h ⊢
  by_cases h1 : bt s k = 110
  · rw [if_pos h1]; have := bt_in2 h1 (by omega); simp; omega
  · rw [if_neg h1] at h ⊢
    by_cases h2 : bt s k = 116
    · rw [if_pos h2]; have := bt_in2 h2 (by omega); simp; omega
    · rw [if_neg h2] at h ⊢
      by_cases h3 : bt s k = 92 ∨ bt s k = 34
      · rw [if_pos h3]; have := bt_in (s := s) (i := k) (by omega); have := bt_lt s k; simp; omega
      · rw [if_neg h3] at h ⊢
        by_cases h4 : k + 3 ≤ runE isDig s k
        · rw [if_pos h4] at h ⊢; have hk : k < s.size := (runN_all isDig s (s.size - k) k k (Nat.le_refl _) (by have : runN isDig s (s.size - k) k = runE isDig s k := rfl; omega)).1; have := runE_size (p := isDig) (s := s) (i := k) (by omega); simp only at h ⊢
          by_cases h5 : (bt s k - 48) * 100 + (bt s (k + 1) - 48) * 10 + (bt s (k + 2) - 48) < 256
          · rw [if_pos h5]; simp only; omega
          · rw [if_neg h5] at h; simp at h
        · rw [if_neg h4] at h; simp at h
theorem quoS_fuel (s : ByteArray) : ∀ m m' k out, k ≤ s.size → s.size + 1 ≤ m + k → s.size + 1 ≤ m' + k → quoS s m k out = quoS s m' k out := by
  intro m
  induction m with
  | zero => intro m' k out hi h h'; omega
  | succ m ih =>
    intro m' k out hi h h'; obtain ⟨m', rfl⟩ : ∃ j, m' = j + 1 := ⟨m' - 1, by omega⟩; unfold quoS
    by_cases h0 : s.size ≤ k
    · rw [if_pos h0, if_pos h0]
    · rw [if_neg h0, if_neg h0]
      by_cases h1 : bt s k = 34
      · rw [if_pos h1, if_pos h1]
      · rw [if_neg h1, if_neg h1]
        by_cases h2 : bt s k < 32 ∨ 126 < bt s k
        · rw [if_pos h2, if_pos h2]
        · rw [if_neg h2, if_neg h2]
          by_cases h3 : bt s k ≠ 92
          · rw [if_pos h3, if_pos h3, ih m' _ _ (by omega) (by omega) (by omega)]
          · rw [if_neg h3, if_neg h3]
            by_cases h4 : (escS s (k + 1)).2 = 0
            · rw [if_pos h4, if_pos h4]
            · have := esc_in h4; rw [if_neg h4, if_neg h4, ih m' _ _ (by omega) (by omega) (by omega)]
def quoE (s : ByteArray) (k : Nat) (out : List UInt8) : Except (Nat × Nat) (List UInt8 × Nat) := quoS s (s.size + 1 - k) k out
theorem quoE_unfold {s : ByteArray} {k : Nat} {out : List UInt8} (hi : k ≤ s.size) : quoE s k out =
    if s.size ≤ k then .error (31, s.size)
    else if bt s k = 34 then .ok (out, k + 1)
    else if bt s k < 32 ∨ 126 < bt s k then .error (32, k)
    else if bt s k ≠ 92 then quoE s (k + 1) (out ++ [UInt8.ofNat (bt s k)])
    else if (escS s (k + 1)).2 = 0 then .error (32, k)
    else quoE s (k + 1 + (escS s (k + 1)).2) (out ++ [UInt8.ofNat (escS s (k + 1)).1]) := by
  unfold quoE; obtain ⟨m, hm⟩ : ∃ m, s.size + 1 - k = m + 1 := ⟨s.size - k, by omega⟩; rw [hm]
  conv => lhs; unfold quoS
  by_cases h0 : s.size ≤ k
  · rw [if_pos h0, if_pos h0]
  · rw [if_neg h0, if_neg h0]
    by_cases h1 : bt s k = 34
    · rw [if_pos h1, if_pos h1]
    · rw [if_neg h1, if_neg h1]
      by_cases h2 : bt s k < 32 ∨ 126 < bt s k
      · rw [if_pos h2, if_pos h2]
      · rw [if_neg h2, if_neg h2]
        by_cases h3 : bt s k ≠ 92
        · rw [if_pos h3, if_pos h3, quoS_fuel s m (s.size + 1 - (k + 1)) _ _ (by omega) (by omega) (by omega)]
        · rw [if_neg h3, if_neg h3]
          by_cases h4 : (escS s (k + 1)).2 = 0
          · rw [if_pos h4, if_pos h4]
          · have := esc_in h4; rw [if_neg h4, if_neg h4, quoS_fuel s m (s.size + 1 - (k + 1 + (escS s (k + 1)).2)) _ _ (by omega) (by omega) (by omega)]
def OutQ (w w' : World) (b : Nat) (s : ByteArray) (p n : Nat) (ts : List Tok) (base : Nat) (e : Ending) (r : Except (Nat × Nat) (List UInt8 × Nat)) : Prop :=
  Below base w w' ∧ UsK w w' ∧
  match r with
  | .ok (x, k) => e = .returned (.tuple #[.string ⟨x.toArray⟩, .int .i64 ((k - p - n : Nat) : Int)]) ∧ St w' b s p ts base
  | .error (c, q) => e = .returned (.tuple #[.string ⟨#[]⟩, .int .i64 0]) ∧ ∃ la ln lc, Sc w' b s p la ln lc (c : Nat) (q : Nat)
theorem quoted_any (b : Nat) (s : ByteArray) (p n : Nat) (ts : List Tok) (base : Nat) (w : World) (hs : s.size ≤ 65536) (hp : p + n < s.size) (h : St w b s p ts base) (hbw : base ≤ w.heap.size) :
    Calls Tryz.prog 53 #[.pointer (some ⟨b, 0, none⟩), .int .i64 (n : Nat)] w fun e w' => OutQ w w' b s p n ts base e (quotedS s (p + n)) := by
  obtain ⟨R, HE⟩ : ∃ R, Hid (quoE s (p + (n + 1)) [] = R) := ⟨_, hid rfl⟩; rw [show quotedS s (p + n) = R from HE.out]; have hb := h.base; have h0 := h; obtain ⟨la, lc, h1, h2, h3, h4, h5, h6⟩ := h; have blt := h1.lt; have s0 := h1.c0; have s1 := h1.c1; clear h2 h3 h5 h6; go_enter Tryz.func53, Tryz.ntmps53
  go_wp2
  go_loopw [6, 7] (fun bv kv wr => ∃ a m c out, ∃ k : Nat, bv = .slice a m c ∧ kv = .int .i64 (k : Nat) ∧ n < k ∧ p + k ≤ s.size ∧ m ≤ k ∧ Bs wr w.heap.size a m c out ∧ Below w.heap.size w wr ∧ Hid (quoE s (p + k) out = R)) (fun _ kv _ => s.size - (intOf kv).toNat)
  case atStart => exact ⟨none, 0, 0, [], n + 1, rfl, rfl, by omega, by omega, by omega, Bs.nil _ _, Below.refl _ _, HE⟩
  case round =>
    obtain ⟨a, m, cp, out, k, rfl, rfl, hnk, hk, hmk, hB, hbl, HN⟩ := hrel; have hst := h0.below hbl; have g1 := h1.below hbl; have hsz := hbl.size; have k0 : wr.cell? ⟨b, 0, none⟩ = some (.string s) := g1.c0; have k1 : wr.cell? ⟨b, 1, none⟩ = some (.int .i64 (p : Nat)) := g1.c1; obtain ⟨c, hc⟩ : ∃ c, bt s (p + k) = c := ⟨_, rfl⟩; have hc6 : c < 256 := hc ▸ bt_lt s _; have hin : c ≠ 0 → p + k < s.size := fun x => bt_in2 hc x; have HU := quoE_unfold (s := s) (out := out) hk; rw [hc, HN.out] at HU; have HC := hid hc; have tk : True := trivial; have hwr : IntKind.i64.wrap ((p : Int) + (k : Int)) = (p : Int) + (k : Int) := IntWalk.i64_in _ (by omega)
    by_cases hge : s.size ≤ p + k
    · obtain hk2 : p + k = s.size := by omega
      rw [if_pos hge] at HU; subst HU; clear hc HC hin hc6; have hgi : (s.size : Int) ≤ (p : Int) + (k : Int) := by omega
      have hdg : decide ((s.size : Int) ≤ (p : Int) + (k : Int)) = true := by rw [decide_eq_true_eq]; omega
      go_wp2_with (have _t := tk; go_at_call 47; refine (peek_any b s p k la ts.length lc 0 0 _ (by omega) (by omega) (by omega) g1).mono ?_; rintro e w1 ⟨rfl, q1, rfl⟩; clear tk)
      go_quiet (fail)
      go_wp2_with (go_at_call 48; refine (fail_any b s p la ts.length lc 0 0 _ _ _ base h4 (g1.drewN _)).mono ?_; rintro e w1 ⟨rfl, f1, f2, f3⟩)
      go_ret2
      exact ⟨((hbl.mono hbw).trans (below_drewB _ _)).trans f2, ((UsK.below hbl).trans (UsK.below (drewN_below _ _))).trans f3, rfl, la, _, lc, f1⟩
    rw [if_neg hge] at HU; have hlt : p + k < s.size := by omega
    have hgi : (p : Int) + (k : Int) < (s.size : Int) := by omega
    have hdg : decide ((s.size : Int) ≤ (p : Int) + (k : Int)) = false := by rw [decide_eq_false_iff_not]; omega
    by_cases h34 : c = 34
    · rw [if_pos h34] at HU; subst HU; subst h34; have hcv := fun q => run_bs (hB.below (drewN_below wr q)); clear hc hin
      go_wp2_with (have _t := tk; go_at_call 47; refine (peek_any b s p k la ts.length lc 0 0 _ (by omega) (by omega) (by omega) g1).mono ?_; rintro e w1 ⟨rfl, q1, rfl⟩; rw [HC.out]; clear tk)
      go_quiet (fail)
      go_wp2
      go_ret2
      refine ⟨((hbl.mono hbw).trans (below_drewB _ _)), ((UsK.below hbl).trans (UsK.below (drewN_below _ _))), ?_, hst.drewN _⟩; have e : ((p + k + 1 - p - n : Nat) : Int) = (k : Int) + 1 - (n : Int) := by clear hwr; omega
      rw [e]
      rfl
    rw [if_neg h34] at HU; have c34n : ¬ (c : Int) = 34 := by omega
    have c34b : ((c : Int) == 34) = false := by simp; omega
    by_cases hbad : c < 32 ∨ 126 < c
    · rw [if_pos hbad] at HU; subst HU; clear hc hin
      by_cases h32 : c < 32
      · have h32i : (c : Int) < 32 := by omega
        have h32d : decide ((c : Int) < 32) = true := by rw [decide_eq_true_eq]; omega
        go_wp2_with (have _t := tk; go_at_call 47; refine (peek_any b s p k la ts.length lc 0 0 _ (by omega) (by omega) (by omega) g1).mono ?_; rintro e w1 ⟨rfl, q1, rfl⟩; rw [HC.out]; clear tk)
        go_quiet (fail)
        go_wp2_with (go_at_call 48; refine (fail_any b s p la ts.length lc 0 0 _ _ _ base h4 (g1.drewN _)).mono ?_; rintro e w1 ⟨rfl, f1, f2, f3⟩)
        go_ret2
        exact ⟨((hbl.mono hbw).trans (below_drewB _ _)).trans f2, ((UsK.below hbl).trans (UsK.below (drewN_below _ _))).trans f3, rfl, la, _, lc, f1⟩
      · have h32i : ¬ (c : Int) < 32 := by omega
        have h32d : decide ((c : Int) < 32) = false := by rw [decide_eq_false_iff_not]; omega
        have h126i : (126 : Int) < (c : Int) := by omega
        have h126d : decide ((126 : Int) < (c : Int)) = true := by rw [decide_eq_true_eq]; omega
        go_wp2_with (have _t := tk; go_at_call 47; refine (peek_any b s p k la ts.length lc 0 0 _ (by omega) (by omega) (by omega) g1).mono ?_; rintro e w1 ⟨rfl, q1, rfl⟩; rw [HC.out]; clear tk)
        go_quiet (fail)
        go_wp2_with (go_at_call 48; refine (fail_any b s p la ts.length lc 0 0 _ _ _ base h4 (g1.drewN _)).mono ?_; rintro e w1 ⟨rfl, f1, f2, f3⟩)
        go_ret2
        exact ⟨((hbl.mono hbw).trans (below_drewB _ _)).trans f2, ((UsK.below hbl).trans (UsK.below (drewN_below _ _))).trans f3, rfl, la, _, lc, f1⟩
    rw [if_neg hbad] at HU; have h32i : ¬ (c : Int) < 32 := by omega
    have h32d : decide ((c : Int) < 32) = false := by rw [decide_eq_false_iff_not]; omega
    have h126i : ¬ (126 : Int) < (c : Int) := by omega
    have h126d : decide ((126 : Int) < (c : Int)) = false := by rw [decide_eq_false_iff_not]; omega
    by_cases h92 : c ≠ 92
    · rw [if_pos h92] at HU; have HN2 := hid HU.symm; have c92n : ¬ (c : Int) = 92 := by omega
      have c92b : ((c : Int) == 92) = false := by simp; omega
      clear hc hin HU
      go_wp2_with (have _t := tk; go_at_call 47; refine (peek_any b s p k la ts.length lc 0 0 _ (by omega) (by omega) (by omega) g1).mono ?_; rintro e w1 ⟨rfl, q1, rfl⟩; rw [HC.out]; clear tk)
      go_quiet (fail)
      go_wp2_with (at_builtin; refine wpList_append_u8 _ rfl _ _ rfl w.heap.size (by simp; omega) _ _ _ wr.heap.size c out hc6 rfl rfl (hB.below ((drewN_below wr _).trans ((below_alloc _ _).mono (Nat.le_refl _)))) ((World.cell?_alloc_new (wr.drewN _) #[.int .u8 (c : Nat)] 5 0).trans rfl) (by omega) ?_; intro a' c' w1 k5 k6)
      refine ⟨⟨a', m + 1, c', _, k + 1, rfl, rfl, by omega, by omega, by omega, k5, (hbl.trans (below_drewB _ _)).trans ((((below_alloc (wr.drewN _) _).mono hsz)).trans k6), HN2⟩, by simp [intOf]; omega⟩
    rw [if_neg h92] at HU; obtain rfl : c = 92 := by omega
    obtain ⟨r, hr⟩ : ∃ r, escS s (p + (k + 1)) = r := ⟨_, rfl⟩; obtain ⟨d, j⟩ := r; rw [show escS s (p + k + 1) = (d, j) from hr] at HU; simp only at HU; have HR := hid hr; have hei := @esc_in s (p + (k + 1)); rw [hr] at hei; simp only at hei; clear hc hin hr
    by_cases hj0 : j = 0
    · rw [if_pos hj0] at HU; subst HU; subst hj0
      go_wp2_with (have _t := tk; go_at_call 47; refine (peek_any b s p k la ts.length lc 0 0 _ (by omega) (by omega) (by omega) g1).mono ?_; rintro e w1 ⟨rfl, q1, rfl⟩; rw [HC.out]; clear tk)
      go_quiet (fail)
      go_wp2_with (first | (go_at_call 92; refine (escape_any b s p (k + 1) la ts.length lc 0 0 _ hs (by omega) (g1.drewN _)).mono ?_; intro e w1 kk; obtain ⟨he, k7⟩ := kk; rw [HR.out] at he; subst he; have y1 := ((g1.drewN _).below k7).c1; have hs7 := k7.size) | (go_at_call 48; refine (fail_any b s p la ts.length lc 0 0 _ _ _ base h4 ((g1.drewN _).below k7)).mono ?_; rintro e w1 ⟨rfl, f1, f2, f3⟩))
      go_ret2
      exact ⟨(((hbl.mono hbw).trans (below_drewB _ _)).trans (k7.mono (Nat.le_trans hbw hsz))).trans f2, (((UsK.below hbl).trans (UsK.below (drewN_below _ _))).trans (UsK.below k7)).trans f3, rfl, la, _, lc, f1⟩
    · rw [if_neg hj0] at HU; have HN2 := hid HU.symm; have hjj := hei hj0; have jn : ¬ (j : Int) = 0 := by omega
      clear HU hei
      go_wp2_with (have _t := tk; go_at_call 47; refine (peek_any b s p k la ts.length lc 0 0 _ (by omega) (by omega) (by omega) g1).mono ?_; rintro e w1 ⟨rfl, q1, rfl⟩; rw [HC.out]; clear tk)
      go_quiet (fail)
      go_wp2_with (first | (go_at_call 92; refine (escape_any b s p (k + 1) la ts.length lc 0 0 _ hs (by omega) (g1.drewN _)).mono ?_; intro e w1 kk; obtain ⟨he, k7⟩ := kk; rw [HR.out] at he; subst he; have y1 := ((g1.drewN _).below k7).c1; have hs7 := k7.size) | (at_builtin; refine wpList_append_u8 _ rfl _ _ rfl w.heap.size (by have := k7.size; simp at this; simp; omega) _ _ _ _ d out (by omega) rfl rfl ((hB.below (drewN_below wr _)).below (k7.trans ((below_alloc _ _).mono k7.size))) ((World.cell?_alloc_new w1 #[.int .u8 (d : Nat)] 5 0).trans rfl) (by omega) ?_; intro a' c' w2 k5 k6))
      refine ⟨⟨a', m + 1, c', _, k + (1 + j), rfl, rfl, by omega, by omega, by omega, k5, ((hbl.trans (below_drewB _ _)).trans (k7.mono hsz)).trans (((below_alloc _ _).mono (Nat.le_trans hsz hs7)).trans k6), ?_⟩, by simp [intOf]; omega⟩; rw [show p + (k + (1 + j)) = p + k + 1 + j by omega]; exact HN2
theorem index_cons_ne {b c : UInt8} {l : List UInt8} (h : b ≠ c) : Lib.index (b :: l) [c] = if Lib.index l [c] == -1 then -1 else Lib.index l [c] + 1 := by
  rw [Lib.index]; have hp : List.isPrefixOf [c] (b :: l) = false := by simp [List.isPrefixOf]; exact fun e => h e.symm
  rw [hp]; rfl
theorem index_cons_eq {c : UInt8} {l : List UInt8} : Lib.index (c :: l) [c] = 0 := by
  rw [Lib.index]; have hp : List.isPrefixOf [c] (c :: l) = true := by simp [List.isPrefixOf]
  rw [hp]; rfl
theorem repK_ne {b c d : UInt8} (h : b ≠ c) (l : List UInt8) : ∀ k, Lib.replaceK [c] [d] k (b :: l) = b :: Lib.replaceK [c] [d] k l
  | 0 => rfl
  | k + 1 => by
    have hg := Lib.index_ge l [c]; unfold Lib.replaceK; rw [index_cons_ne h]
    by_cases hi : Lib.index l [c] = -1
    · rw [hi]; rfl
    · have h1 : (Lib.index l [c] == -1) = false := by simpa using hi
      have h2 : (Lib.index l [c] + 1 == -1) = false := by simp; omega
      rw [h1]; simp only [Bool.false_eq_true, if_false]; rw [h2]; simp only [Bool.false_eq_true, if_false]; obtain ⟨j, hj⟩ : ∃ j : Nat, Lib.index l [c] = j := ⟨(Lib.index l [c]).toNat, by omega⟩; rw [hj, show ((j : Int) + 1).toNat = j + 1 by omega, show ((j : Int)).toNat = j by omega]; simp [List.take_succ_cons, show j + 1 + 1 = (j + 1) + 1 by omega]
theorem repK_map {c d : UInt8} : ∀ l : List UInt8, Lib.replaceK [c] [d] (Lib.count l [c]) l = l.map fun x => if x = c then d else x
  | [] => by
    have : Lib.count [] [c] = 0 := Lib.count_miss rfl; rw [this]; rfl
  | b :: l => by
    by_cases h : b = c
    · subst h; rw [Lib.count_cons_eq, Nat.add_comm, Lib.replaceK_hit [b] [d] _ _ 0 index_cons_eq]; simp [repK_map l]
    · rw [Lib.count_cons_ne b c l h, repK_ne h, repK_map l, List.map_cons, if_neg h]
theorem rep_real (l : List UInt8) : Lib.replaceAll l [126] [45] = realT l := by
  unfold Lib.replaceAll Lib.replace realT; rw [if_neg (by decide)]; have : Lib.replaceNum l [126] (-1) = Lib.count l [126] := by unfold Lib.replaceNum; rw [if_pos (Or.inl (by decide))]
  rw [this, repK_map]
def AllD (l : List UInt8) : Prop := ∀ x ∈ l, 48 ≤ x.toNat ∧ x.toNat ≤ 57
theorem sub_all {s : ByteArray} {k : Nat} (hk : k ≤ s.size) : ∀ (m i : Nat), m = k - i → (∀ j, i ≤ j → j < k → isDig (bt s j) = true) → AllD (sub s i k)
  | 0, i, hm, h => fun x hx => by
    rcases Nat.lt_or_ge i k with c | c
    · omega
    · have : sub s i k = [] := by rw [sub_drop]; apply List.drop_eq_nil_of_le; simp; omega
      rw [this] at hx; cases hx
  | m + 1, i, hm, h => fun x hx => by
    rw [sub_cons (by omega) hk] at hx
    rcases List.mem_cons.1 hx with rfl | hx
    · have := dig_range (h i (Nat.le_refl _) (by omega)); rw [ofNat_toNat (by omega)]; exact this
    · exact sub_all hk m (i + 1) (by omega) (fun j h1 h2 => h j (by omega) h2) x hx
theorem sub_digs {s : ByteArray} {i : Nat} (hi : i ≤ s.size) : AllD (sub s i (runE isDig s i)) :=
  sub_all (runE_size hi) _ i rfl (fun j h1 h2 => runE_all h1 h2)
theorem rdr_zero (l : List UInt8) : rdr 0 (48 :: l) = rdr 0 l := by
  rw [rdr_cons]; rfl
theorem rdr_strip : ∀ l : List UInt8, rdr 0 (Lib.trimLeftB l 48) = rdr 0 l
  | [] => rfl
  | x :: l => by
    unfold Lib.trimLeftB
    by_cases h : x = 48
    · subst h; rw [List.dropWhile_cons, if_pos (by simp), rdr_zero]; exact rdr_strip l
    · rw [List.dropWhile_cons, if_neg (by simpa using h)]
theorem strip_sub (l : List UInt8) : ∀ x ∈ Lib.trimLeftB l 48, x ∈ l := fun x hx => (List.dropWhile_sublist _).mem hx
theorem strip_head {l : List UInt8} {x : UInt8} {r : List UInt8} (h : Lib.trimLeftB l 48 = x :: r) : x ≠ 48 := by
  intro e; subst e; have := List.head?_dropWhile_not (p := fun y : UInt8 => y == 48) l; unfold Lib.trimLeftB at h; rw [h] at this; simp at this
theorem strip_len (l : List UInt8) : (Lib.trimLeftB l 48).length ≤ l.length := (List.dropWhile_sublist _).length_le
theorem isNum_of {x : UInt8} {r : List UInt8} (hx : x ≠ 48) (ha : AllD (x :: r)) : isNum (x :: r) = true := by
  unfold isNum; simp only [List.isEmpty_cons, Bool.not_false, Bool.true_and, Bool.and_eq_true, Bool.not_eq_true', List.head?_cons, List.all_eq_true, decide_eq_true_eq]; refine ⟨?_, ha⟩; have : (some x == some (48 : UInt8)) = false := by simpa using hx
  rw [this, Bool.and_false]
theorem prs_strip {l : List UInt8} {x : UInt8} {r : List UInt8} (h : Lib.trimLeftB l 48 = x :: r) (ha : AllD l) : prs (x :: r) = some (rdr 0 l : Int) := by
  have h2 : AllD (x :: r) := fun y hy => ha y (strip_sub l y (h ▸ hy)); have h3 := h2 x (by simp); unfold prs
  rw [if_neg (by
    simp only [List.head?_cons, Option.some.injEq]
    intro e; subst e; simp at h3), if_pos (isNum_of (strip_head h) h2), ← h, rdr_strip]
theorem prs_nought : prs [48] = some 0 := by decide
theorem rdr_none {l : List UInt8} (h : Lib.trimLeftB l 48 = []) : rdr 0 l = 0 := by rw [← rdr_strip, h]; rfl
end Go.Proofs.YtkblonfmjlopaaaGreatDoor
