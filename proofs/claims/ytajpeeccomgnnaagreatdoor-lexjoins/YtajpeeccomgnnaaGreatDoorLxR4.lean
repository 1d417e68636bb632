/-
  The reference's number, walked.
-/
import Derived.Test.YtajpeeccomgnnaaGreatDoorLxR2
import Derived.Test.YtajpeeccomgnnaaGreatDoorLxNum
namespace Go.Proofs.YtajpeeccomgnnaaGreatDoor
set_option linter.all false
open Go Go.RowKit

theorem bits63 (x : Nat) (w : World) : (callFunc 63 #[.float .f64 x]).run Tryz.prog w = .ok (.value (.int .u64 (x : Nat))) w := by
  rw [run_callFunc_extern Tryz.func63 (by kernel_rfl) (by kernel_rfl) (by kernel_rfl) (e := Extern.MathFloatBits.float64bits) (by kernel_rfl)]
  rfl
theorem cat_bytes (a b : List UInt8) : (⟨a.toArray⟩ : ByteArray) ++ ⟨b.toArray⟩ = ⟨(a ++ b).toArray⟩ := by
  apply ByteArray.ext
  simp
theorem sub_snoc {s : ByteArray} {i k : Nat} (h : i ≤ k) (hk : k < s.size) : sub s i (k + 1) = sub s i k ++ [UInt8.ofNat (bt s k)] := by
  have hl : s.data.toList.length = s.size := (Lib.size_eq s).symm
  rw [sub_drop, sub_drop, List.take_succ, List.drop_append]
  have h2 : s.data.toList[k]? = some (UInt8.ofNat (bt s k)) := by
    unfold bt
    rw [List.getElem?_eq_getElem (by omega)]
    simp
  rw [h2]
  simp only [Option.toList_some, List.length_take]
  rw [show i - min k s.data.toList.length = 0 by omega, List.drop_zero]
theorem realT_snoc (a : List UInt8) (c : Nat) (hc : c < 256) : realT (a ++ [UInt8.ofNat c]) = realT a ++ [if c = 126 then 45 else UInt8.ofNat c] := by
  unfold realT
  rw [List.map_append]
  congr 1
  simp only [List.map_cons, List.map_nil, List.cons.injEq, and_true]
  by_cases h : c = 126
  · subst h; rfl
  · rw [if_neg h, if_neg]
    intro e
    have := congrArg UInt8.toNat e
    rw [ofNat_toNat hc] at this
    exact h this
theorem prs_one {s : ByteArray} {q k : Nat} (hq : q < k) (hk : k ≤ s.size) (hd : ∀ j, q ≤ j → j < k → isDig (bt s j) = true) (h : q + 1 = k ∨ bt s q ≠ 48) : prs (sub s q k) = some (rdr 0 (sub s q k) : Int) := by
  have ha := sub_all hk _ q rfl hd
  have h0 := dig_range (hd q (Nat.le_refl _) hq)
  have hc := sub_cons hq hk
  rw [hc] at ha ⊢
  unfold prs
  rw [if_neg (by
    simp only [List.head?_cons, Option.some.injEq]
    intro e
    have := congrArg UInt8.toNat e
    rw [ofNat_toNat (by omega)] at this
    simp at this; omega)]
  rcases h with h | h
  · subst h
    rw [sub_nil] at ha ⊢
    rw [if_pos]
    unfold isNum
    simp only [List.isEmpty_cons, Bool.not_false, Bool.true_and, List.length_singleton, Nat.lt_irrefl, decide_false, Bool.false_and, List.all_cons, List.all_nil, Bool.and_true]
    rw [ofNat_toNat (by omega)]
    simp; omega
  · rw [if_pos (isNum_of (by
      intro e
      have := congrArg UInt8.toNat e
      rw [ofNat_toNat (by omega)] at this
      simp at this; omega) ha)]
theorem ResW.fin {w w3 : World} (E : Rb w w3) {sg : Bool} {a : Option Addr} {nn c k b m n p : Nat} {z nv : Int} {x : ByteArray} {l : List UInt8} (mg : Mg w3 sg a nn c z) (hx : x = ⟨l.toArray⟩) (hn : nv = (n : Int)) :
    ResW w (put9 w w3 (.int .i64 (k : Nat)) (.string x) (.bool sg) (.slice a nn c) (.int .u64 (b : Nat)) (.int .i64 (m : Nat)) (.int .i64 0) (.int .i64 0) (.int .i64 0)).drew (.returned (.tuple #[.agg #[.int .i64 (k : Nat), .string x, .bool sg, .slice a nn c, .int .u64 (b : Nat), .int .i64 (m : Nat), .int .i64 0], .int .i64 nv, .agg #[.int .i64 0, .int .i64 0]])) (.ok (⟨k, l, z, b, m, p⟩, n)) := by
  subst hx hn
  have u := E.usk (.int .i64 (k : Nat)) (.string ⟨l.toArray⟩) (.bool sg) (.slice a nn c) (.int .u64 (b : Nat)) (.int .i64 (m : Nat)) (.int .i64 0) (.int .i64 0) (.int .i64 0)
  have b9 := E.put (.int .i64 (k : Nat)) (.string ⟨l.toArray⟩) (.bool sg) (.slice a nn c) (.int .u64 (b : Nat)) (.int .i64 (m : Nat)) (.int .i64 0) (.int .i64 0) (.int .i64 0)
  generalize put9 w w3 (.int .i64 (k : Nat)) (.string ⟨l.toArray⟩) (.bool sg) (.slice a nn c) (.int .u64 (b : Nat)) (.int .i64 (m : Nat)) (.int .i64 0) (.int .i64 0) (.int .i64 0) = W at u b9 ⊢
  exact ⟨b9.drew, sg, a, nn, c, rfl, (mg.keep u).keep (UsK.below ⟨rfl, rfl, rfl, Nat.le_refl _, fun _ _ => rfl⟩)⟩
set_option maxRecDepth 100000 in
set_option maxHeartbeats 16000000 in
theorem rnumber_any (F : List UInt8 → Nat) (s : ByteArray) (p : Nat) (base : Nat) (w : World) (hs : s.size ≤ 65536) (hd : isDig (bt s p) = true ∨ bt s p = 126 ∧ isDig (bt s (p + 1)) = true) (hbw : base ≤ w.heap.size) (hF : PFs F base w s) :
    Calls Tryz.prog 40 #[.string s, .int .i64 (p : Nat)] w fun e w' => ResW w w' e (numberS F s p) := by
  obtain ⟨R, HE⟩ : ∃ R, Hid (numberS F s p = R) := ⟨_, hid rfl⟩
  rw [HE.out]
  have HF := hid (hF p hd)
  clear hF
  have B0 := Rb.made w
  -- the places
  obtain ⟨sg, hsg⟩ : ∃ sg : Nat, (if bt s p = 126 then 1 else 0) = sg := ⟨_, rfl⟩
  have hp : p < s.size := by rcases hd with h | h; exact dig_in h; exact bt_in (by omega)
  have hp1 : p + sg < s.size := by
    rcases hd with h | h
    · have := dig_range h; rw [if_neg (by omega)] at hsg; omega
    · rw [if_pos h.1] at hsg; have := dig_in h.2; omega
  have hdg : isDig (bt s (p + sg)) = true := by
    rcases hd with h | h
    · have := dig_range h; rw [if_neg (by omega)] at hsg; subst hsg; exact h
    · rw [if_pos h.1] at hsg; subst hsg; exact h.2
  have hW0 : numW s p = runE isDig s (p + sg) := by
    unfold numW; rw [← hsg]; split <;> rfl
  obtain ⟨n1, hn1⟩ : ∃ n1, runE isDig s (p + sg) = p + n1 := ⟨runE isDig s (p + sg) - p, by have := runE_le isDig s (p + sg); omega⟩
  have hn1a : sg < n1 := by have := runE_lt hp1 hdg; omega
  have hn1b : p + n1 ≤ s.size := by have := runE_size (p := isDig) (s := s) (i := p + sg) (by omega); omega
  have hl1 := sub_len (s := s) (i := p + sg) (k := p + n1) (by omega) (by omega)
  obtain ⟨n2, hn2⟩ : ∃ n2, numF s (p + n1) = p + n2 := ⟨numF s (p + n1) - p, by have := numF_le hn1b; omega⟩
  have hn2a : n1 ≤ n2 ∧ p + n2 ≤ s.size := by have := numF_le hn1b; omega
  obtain ⟨n3, hn3⟩ : ∃ n3, numE s (p + n2) = p + n3 := ⟨numE s (p + n2) - p, by have := numE_le hn2a.2; omega⟩
  have hn3a : n2 ≤ n3 ∧ p + n3 ≤ s.size := by have := numE_le hn2a.2; omega
  obtain ⟨hn2a, hn2b⟩ := hn2a
  obtain ⟨hn3a, hn3b⟩ := hn3a
  rw [hW0, hn1, hn2, hn3] at HF
  have HR : Hid ((if p + n3 = p + n1 then (if 2000 < p + n3 - p then .error (32, p) else .ok (⟨4, sub s p (p + n3), numV s p (p + n3), 0, 0, p⟩, p + n3))
      else if 100 < p + n3 - p then .error (32, p) else .ok (⟨5, sub s p (p + n3), 0, F (realT (sub s p (p + n3))), 0, p⟩, p + n3) : Ans) = R) := by
    have := HE.out
    unfold numberS at this
    rw [hW0, hn1, hn2, hn3] at this
    exact hid this
  have H1 := hid hn1
  have H2 := hid hn2
  have H3 := hid hn3
  have HD := hid hdg
  have HH := hid hd
  have hsg1 : sg ≤ 1 := by rw [← hsg]; split <;> omega
  have HSG := hid hsg
  clear HE hd hdg hW0 hn1 hn2 hn3 hsg
  obtain ⟨c0, hc0⟩ : ∃ c0, bt s p = c0 := ⟨_, rfl⟩
  have hc06 : c0 < 256 := hc0 ▸ bt_lt s _
  have hix0 : ∀ w, (Instr.index 9 (.string s) (.int .i64 (p : Int))).run Tryz.prog w = .ok (.int .u8 (c0 : Nat)) w := fun w => hc0 ▸ run_bt Tryz.underlying9 hp rfl
  have HC0 := hid hc0
  clear hc0
  go_enter Tryz.func40, Tryz.ntmps40
  go_upto_if 21 with fail
  generalize (w.alloc (.cells #[.int .i64 0, .string ⟨#[]⟩, .bool false, .slice none 0 0, .int .u64 0, .int .i64 0, .int .i64 0] 39)).alloc (.cells #[.int .i64 0, .int .i64 0] 26) = W1 at B0 ⊢
  go_cut [7] from 17 to 23 (fun nv wx => wx = W1 ∧ nv = .int .i64 ((p + sg : Nat) : Int))
  case first =>
    by_cases h126 : c0 = 126
    · subst h126
      have e1 : sg = 1 := by have := HSG.out; rw [if_pos (show bt s p = 126 from HC0.out)] at this; exact this.symm
      subst e1
      go_wp2_with fail
      go_meet
      exact ⟨rfl, rfl⟩
    · have e1 : sg = 0 := by have := HSG.out; rw [if_neg (fun e => h126 ((show bt s p = c0 from HC0.out) ▸ e))] at this; exact this.symm
      subst e1
      have c0n : ¬ (c0 : Int) = 126 := by omega
      have c0b : ((c0 : Int) == 126) = false := by simp; omega
      go_wp2_with fail
      go_meet
      exact ⟨rfl, rfl⟩
  case rest =>
  obtain ⟨hw, rfl⟩ := hcut
  obtain rfl := hw.symm
  clear hw
  have E := B0
  have hbl := E.bl
  have hlw := E.lt
  clear hl1
  obtain ⟨fr, hfr⟩ : ∃ fr, (decide (bt s (p + n1) = 46) && isDig (bt s (p + n1 + 1))) = fr := ⟨_, rfl⟩
  have HFR := hid hfr
  clear hfr
  go_upto_region 7 with (go_at_call 60; refine (rdigits_any s (p + sg) _ (by omega) (by omega)).mono ?_; rintro e w1 ⟨rfl, hw⟩; obtain rfl := hw.symm; rw [H1.out])
  go_cut [39] from 28 to 39 (fun bv wx => wx = W1 ∧ bv = .bool fr)
  case first =>
    obtain ⟨c1, hc1⟩ : ∃ c1, bt s (p + n1) = c1 := ⟨_, rfl⟩
    have hc16 : c1 < 256 := hc1 ▸ bt_lt s _
    have HC1 := hid hc1
    by_cases h46 : c1 = 46
    · subst h46
      have HV : Hid (isDig (bt s (p + n1 + 1)) = fr) := hid (by have := HFR.out; rw [hc1] at this; simpa using this)
      clear hc1
      have tk : True := trivial
      go_wp2_with (first | (have _t := tk; go_at_call 36; refine (rat_any s (p + n1) _ (by omega) (by omega)).mono ?_; rintro e w1 ⟨rfl, hw⟩; obtain rfl := hw.symm; rw [HC1.out]; clear tk) | (go_at_call 36; refine (rat_any s (p + n1 + 1) _ (by omega) (by omega)).mono ?_; rintro e w1 ⟨rfl, hw⟩; obtain rfl := hw.symm) | (go_at_call 39; refine (rdigit_any _ _ (bt_lt _ _)).mono ?_; rintro e w1 ⟨rfl, hw⟩; obtain rfl := hw.symm; rw [HV.out]))
      go_meet
      exact ⟨rfl, rfl⟩
    · have HV : fr = false := by have := HFR.out; rw [hc1] at this; simpa [h46] using this.symm
      subst HV
      have c1n : ¬ (c1 : Int) = 46 := by omega
      have c1b : ((c1 : Int) == 46) = false := by simp; omega
      clear hc1
      go_wp2_with (go_at_call 36; refine (rat_any s (p + n1) _ (by omega) (by omega)).mono ?_; rintro e w1 ⟨rfl, hw⟩; obtain rfl := hw.symm; rw [HC1.out])
      go_meet
      exact ⟨rfl, rfl⟩
  case rest =>
  obtain ⟨hw, rfl⟩ := hcut
  obtain rfl := hw.symm
  clear hw
  go_upto_if 39 with fail
  go_cut [7] from 40 to 43 (fun nv wx => wx = W1 ∧ nv = .int .i64 ((p + n2 : Nat) : Int))
  case first =>
    cases fr
    · have e2 : n2 = n1 := by
        have h := HFR.out
        have h2 := H2.out
        unfold numF at h2
        rw [if_neg (by intro c; rw [c.1, c.2] at h; simp at h)] at h2
        omega
      subst e2
      go_wp2_with fail
      go_meet
      exact ⟨rfl, rfl⟩
    · have hh : bt s (p + n1) = 46 ∧ isDig (bt s (p + n1 + 1)) = true := by
        have h := HFR.out
        rw [Bool.and_eq_true, decide_eq_true_eq] at h
        exact h
      have hx : runE isDig s (p + n1 + 1) = p + n2 := by
        have h2 := H2.out
        unfold numF at h2
        rw [if_pos hh] at h2
        exact h2
      have hlt := dig_in hh.2
      have HX := hid hx
      clear hh hx
      go_wp2_with (go_at_call 60; refine (rdigits_any s (p + n1 + 1) _ (by omega) (by omega)).mono ?_; rintro e w1 ⟨rfl, hw⟩; obtain rfl := hw.symm; rw [HX.out])
      go_meet
      exact ⟨rfl, rfl⟩
  case rest =>
  obtain ⟨hw, rfl⟩ := hcut
  obtain rfl := hw.symm
  clear hw
  obtain ⟨c2, hc2⟩ : ∃ c2, bt s (p + n2) = c2 := ⟨_, rfl⟩
  have hc26 : c2 < 256 := hc2 ▸ bt_lt s _
  have HC2 := hid hc2
  go_upto_if 47 with (go_at_call 36; refine (rat_any s (p + n2) _ (by omega) (by omega)).mono ?_; rintro e w1 ⟨rfl, hw⟩; obtain rfl := hw.symm; rw [HC2.out])
  go_cut [7, 10] from 44 to 62 (fun nv _ wx => wx = W1 ∧ nv = .int .i64 ((p + n3 : Nat) : Int))
  case first =>
    by_cases h101 : c2 = 101
    · subst h101
      obtain ⟨j, hj⟩ : ∃ j, numX s (p + n2) = j := ⟨_, rfl⟩
      have h3 := H3.out
      unfold numE at h3
      rw [if_pos hc2, hj] at h3
      have hin := bt_in2 hc2 (by omega)
      obtain ⟨c3, hc3⟩ : ∃ c3, bt s (p + n2 + 1) = c3 := ⟨_, rfl⟩
      have hc36 : c3 < 256 := hc3 ▸ bt_lt s _
      have HC3 := hid hc3
      unfold numX at hj
      rw [hc3] at hj
      clear hc2
      have tk : True := trivial
      rcases hdj : isDig (bt s j) with _ | _
      · rw [hdj, if_neg (by simp)] at h3
        obtain rfl : n2 = n3 := by omega
        have HDJ := hid hdj
        by_cases h126 : c3 = 126
        · subst h126
          rw [if_pos rfl] at hj
          obtain rfl : j = p + n2 + 2 := by omega
          clear hj hdj h3 hc3
          go_wp2_with (first | (have _t := tk; go_at_call 36; refine (rat_any s (p + n2 + 1) _ (by omega) (by omega)).mono ?_; rintro e w1 ⟨rfl, hw⟩; obtain rfl := hw.symm; rw [HC3.out]; clear tk) | (go_at_call 36; refine (rat_any s (p + n2 + 1 + 1) _ (by omega) (by omega)).mono ?_; rintro e w1 ⟨rfl, hw⟩; obtain rfl := hw.symm) | (go_at_call 39; refine (rdigit_any _ _ (bt_lt _ _)).mono ?_; rintro e w1 ⟨rfl, hw⟩; obtain rfl := hw.symm; rw [HDJ.out]))
          go_meet
          exact ⟨rfl, rfl⟩
        · rw [if_neg h126] at hj
          obtain rfl : j = p + n2 + 1 := by omega
          have c3n : ¬ (c3 : Int) = 126 := by omega
          have c3b : ((c3 : Int) == 126) = false := by simp; omega
          clear hj hdj h3 hc3
          go_wp2_with (first | (have _t := tk; go_at_call 36; refine (rat_any s (p + n2 + 1) _ (by omega) (by omega)).mono ?_; rintro e w1 ⟨rfl, hw⟩; obtain rfl := hw.symm; rw [HC3.out]; clear tk) | (go_at_call 36; refine (rat_any s (p + n2 + 1) _ (by omega) (by omega)).mono ?_; rintro e w1 ⟨rfl, hw⟩; obtain rfl := hw.symm) | (go_at_call 39; refine (rdigit_any _ _ (bt_lt _ _)).mono ?_; rintro e w1 ⟨rfl, hw⟩; obtain rfl := hw.symm; rw [HDJ.out]))
          go_meet
          exact ⟨rfl, rfl⟩
      · rw [hdj, if_pos rfl] at h3
        have hlt := dig_in hdj
        have HDJ := hid hdj
        have HX := hid h3
        by_cases h126 : c3 = 126
        · subst h126
          rw [if_pos rfl] at hj
          obtain rfl : j = p + n2 + 2 := by omega
          clear hj hdj h3 hc3
          go_wp2_with (first | (have _t := tk; go_at_call 36; refine (rat_any s (p + n2 + 1) _ (by omega) (by omega)).mono ?_; rintro e w1 ⟨rfl, hw⟩; obtain rfl := hw.symm; rw [HC3.out]; clear tk) | (go_at_call 36; refine (rat_any s (p + n2 + 1 + 1) _ (by omega) (by omega)).mono ?_; rintro e w1 ⟨rfl, hw⟩; obtain rfl := hw.symm) | (go_at_call 39; refine (rdigit_any _ _ (bt_lt _ _)).mono ?_; rintro e w1 ⟨rfl, hw⟩; obtain rfl := hw.symm; rw [HDJ.out]) | (go_at_call 60; refine (rdigits_any s (p + n2 + 1 + 1) _ (by omega) (by omega)).mono ?_; rintro e w1 ⟨rfl, hw⟩; obtain rfl := hw.symm; rw [HX.out]))
          go_meet
          exact ⟨rfl, rfl⟩
        · rw [if_neg h126] at hj
          obtain rfl : j = p + n2 + 1 := by omega
          have c3n : ¬ (c3 : Int) = 126 := by omega
          have c3b : ((c3 : Int) == 126) = false := by simp; omega
          clear hj hdj h3 hc3
          go_wp2_with (first | (have _t := tk; go_at_call 36; refine (rat_any s (p + n2 + 1) _ (by omega) (by omega)).mono ?_; rintro e w1 ⟨rfl, hw⟩; obtain rfl := hw.symm; rw [HC3.out]; clear tk) | (go_at_call 36; refine (rat_any s (p + n2 + 1) _ (by omega) (by omega)).mono ?_; rintro e w1 ⟨rfl, hw⟩; obtain rfl := hw.symm) | (go_at_call 39; refine (rdigit_any _ _ (bt_lt _ _)).mono ?_; rintro e w1 ⟨rfl, hw⟩; obtain rfl := hw.symm; rw [HDJ.out]) | (go_at_call 60; refine (rdigits_any s (p + n2 + 1) _ (by omega) (by omega)).mono ?_; rintro e w1 ⟨rfl, hw⟩; obtain rfl := hw.symm; rw [HX.out]))
          go_meet
          exact ⟨rfl, rfl⟩
    · have e3 : n3 = n2 := by
        have h3 := H3.out
        unfold numE at h3
        rw [if_neg (by omega)] at h3
        omega
      subst e3
      have c2n : ¬ (c2 : Int) = 101 := by omega
      have c2b : ((c2 : Int) == 101) = false := by simp; omega
      clear hc2
      go_wp2_with fail
      go_meet
      exact ⟨rfl, rfl⟩
  case rest =>
  obtain ⟨hw, rfl⟩ := hcut
  obtain rfl := hw.symm
  clear hw
  clear hc2 HC2 HFR hc26
  by_cases hint : n3 = n1
  · obtain rfl : n1 = n3 := hint.symm
    have HR2 := HR.out
    rw [if_pos rfl, show p + n1 - p = n1 by omega] at HR2
    clear HR
    by_cases hlong : 2000 < n1
    · rw [if_pos hlong] at HR2
      have hli : (2000 : Int) < ((p + n1 : Nat) : Int) - (p : Int) := by omega
      subst HR2
      go_wp2_with (go_at_call 16; refine (bad_any 32 p _).mono ?_; rintro e w2 ⟨rfl, hb⟩; have E := B0.keep hb; have f0 := E.t0; have f1 := E.t1; have f2 := E.t2; have f3 := E.t3; have f4 := E.t4; have f5 := E.t5; have f6 := E.t6; have g0 := E.m0; have g1 := E.m1; have hft := E.ft; have hfm := E.fm)
      refine bodyPost_ret (v := .tuple #[.agg #[.int .i64 0, .string ⟨#[]⟩, .bool false, .slice none 0 0, .int .u64 0, .int .i64 0, .int .i64 0], .int .i64 0, .agg #[.int .i64 32, .int .i64 (p : Nat)]]) (by simp [results, Tryz.results40, go_sem, f0, f1, f2, f3, f4, f5, f6, g0, g1]) rfl ?_
      exact ⟨E.put _ _ _ _ _ _ _ _ _, 0, 0, rfl⟩
    · rw [if_neg hlong] at HR2
      have hli : ¬ (2000 : Int) < ((p + n1 : Nat) : Int) - (p : Int) := by omega
      have hall : ∀ j, p + sg ≤ j → j < p + n1 → isDig (bt s j) = true := fun j h1 h2 => runE_all (p := isDig) (s := s) (i := p + sg) h1 (by rw [H1.out]; exact h2)
      have HALL := hid hall
      have HR3 := hid HR2
      clear hall HR2
      go_upto_block 0 with fail
      go_cut [8] from 73 to 84 (fun fv wx => wx = W1 ∧ ∃ q : Nat, fv = .int .i64 (q : Nat) ∧ p + sg ≤ q ∧ q < p + n1 ∧ Hid (rdr 0 (sub s q (p + n1)) = rdr 0 (sub s (p + sg) (p + n1))) ∧ Hid (q + 1 = p + n1 ∨ bt s q ≠ 48))
      case first =>
        go_wp2_with fail
        go_loopw [8] (fun fv wr => wr = W1 ∧ ∃ q : Nat, fv = .int .i64 (q : Nat) ∧ p + sg ≤ q ∧ q < p + n1 ∧ Hid (rdr 0 (sub s q (p + n1)) = rdr 0 (sub s (p + sg) (p + n1)))) (fun fv _ => p + n1 - (intOf fv).toNat)
        case atStart => exact ⟨rfl, p + sg, rfl, by omega, by omega, hid rfl⟩
        case round =>
          obtain ⟨hw, q, rfl, hq1, hq2, HV⟩ := hrel
          obtain rfl := hw.symm
          by_cases hlast : q + 1 < p + n1
          · have hli2 : (q : Int) < ((p + n1 : Nat) : Int) - 1 := by omega
            obtain ⟨c, hc⟩ : ∃ c, bt s q = c := ⟨_, rfl⟩
            have hix : ∀ w, (Instr.index 9 (.string s) (.int .i64 (q : Int))).run Tryz.prog w = .ok (.int .u8 (c : Nat)) w := fun w => hc ▸ run_bt Tryz.underlying9 (by omega) rfl
            have HC := hid hc
            clear hc
            by_cases h48 : c = 48
            · subst h48
              go_wp2_with fail
              refine ⟨⟨trivial, q + 1, rfl, by omega, by omega, hid ?_⟩, by simp [intOf]; omega⟩
              rw [← HV.out, sub_cons (i := q) (by omega) (by omega), HC.out]
              exact (rdr_zero _).symm
            · skip
              have cn : ¬ (c : Int) = 48 := by omega
              have cb : ((c : Int) == 48) = false := by simp; omega
              go_wp2_with fail
              go_meet
              exact ⟨rfl, q, rfl, hq1, hq2, HV, hid (Or.inr (by rw [HC.out]; exact h48))⟩
          · have hli2 : ¬ (q : Int) < ((p + n1 : Nat) : Int) - 1 := by omega
            go_wp2_with fail
            go_meet
            exact ⟨rfl, q, rfl, hq1, hq2, HV, hid (Or.inl (by omega))⟩
      case rest =>
      obtain ⟨hw, q, rfl, hq1, hq2, HV, HQ⟩ := hcut
      obtain rfl := hw.symm
      clear hw
      have HP : Hid (prs (sub s q (p + n1)) = some (rdr 0 (sub s (p + sg) (p + n1)) : Int)) := hid (by rw [← HV.out]; exact prs_one hq2 hn1b (fun j h1 h2 => HALL.out j (by omega) h2) HQ.out)
      have hql := sub_len (s := s) (i := q) (k := p + n1) (by omega) hn1b
      have hqn : (sub s q (p + n1)).length ≤ 2000 := by omega
      clear hql
      have HQN := hid hqn
      clear hqn
      by_cases h126 : c0 = 126
      · subst h126
        have hnum : numV s p (p + n1) = -(((rdr 0 (sub s (p + sg) (p + n1)) : Nat) : Int)) := by
          have h := HSG.out
          rw [if_pos (show bt s p = 126 from HC0.out)] at h
          unfold numV
          rw [if_pos (show bt s p = 126 from HC0.out), h]
        have HNM := hid hnum
        clear hnum
        go_wp2_with (first | (go_at_call 61; rw [ext_sub s q (p + n1)]; refine (rparse_good _ _ _ (by have := HQN.out; omega) HP.out).mono ?_; rintro e w1 ⟨sx, ax, nx, cx, fx, rfl, k1, k2, k3, k4, k5, k6, k7⟩; have K5 := hid k5; have K6 := hid k6; have K7 := hid k7; clear k5 k6 k7) | (go_at_call 62; refine (rneg_any _ _ _ _ _ _ (by have := HQN.out; have := K7.out; omega) (k1.alloc _)).mono ?_; rintro e w2 ⟨sy, ay, ny, cy, fy, rfl, j1, j2, j3, j4, j5, j6, j7⟩; have J5 := hid j5; have J6 := hid j6; clear j5 j6; have B := (Bx.made w1 (.bool sx) (.slice ax nx cx) 35).keep j3; have b0 := B.c0; have b1 := B.c1; have bf := B.fr))
        have hN1 : w1.heap.size < w2.heap.size := by have := j3.size; simp at this; omega
        have bb3 : Below w1.heap.size w1 ((w2.setCell ⟨w1.heap.size, 0, none⟩ (.bool sy)).setCell ⟨w1.heap.size, 1, none⟩ (.slice ay ny cy)) := (((below_alloc w1 _).trans (j3.mono (by simp))).setCell (Nat.le_refl _) _).setCell (Nat.le_refl _) _
        have e0 : (w2.setCell ⟨w1.heap.size, 0, none⟩ (.bool sy)).cell? ⟨w1.heap.size, 1, none⟩ = some (.slice ax nx cx) := by rw [World.cell?_setCell_other _ _ _ _ (by intro h; simp at h)]; exact b1
        have mg := (Mg.resP j1 (by have := HQN.out; have := K7.out; omega) j4 J5.out (J6.out.trans (congrArg (fun t => -t) K6.out))).keep (((UsK.refl w2).set b0 (fun _ h => by cases h) (.bool sy)).set e0 (fun _ h => by cases h) (.slice ay ny cy))
        have b0' : ((w2.setCell ⟨w1.heap.size, 0, none⟩ (.bool sy)).setCell ⟨w1.heap.size, 1, none⟩ (.slice ay ny cy)).cell? ⟨w1.heap.size, 0, none⟩ = some (.bool sy) := by rw [World.cell?_setCell_other _ _ _ _ (by intro h; simp at h), World.cell?_setCell_same _ _ _ b0]
        have b1' : ((w2.setCell ⟨w1.heap.size, 0, none⟩ (.bool sy)).setCell ⟨w1.heap.size, 1, none⟩ (.slice ay ny cy)).cell? ⟨w1.heap.size, 1, none⟩ = some (.slice ay ny cy) := by rw [World.cell?_setCell_same _ _ _ e0]
        have E := (B0.keep k3).keep bb3
        have HMG := hid mg
        clear mg e0 b0 b1 bb3
        generalize (w2.setCell ⟨w1.heap.size, 0, none⟩ (.bool sy)).setCell ⟨w1.heap.size, 1, none⟩ (.slice ay ny cy) = w3 at b0' b1' E HMG ⊢
        have f0 := E.t0
        have f1 := E.t1
        have f2 := E.t2
        have f3 := E.t3
        have f4 := E.t4
        have f5 := E.t5
        have f6 := E.t6
        have g0 := E.m0
        have g1 := E.m1
        have hft := E.ft
        have hfm := E.fm
        go_region
        go_wp2_with fail
        refine bodyPost_ret (v := .tuple #[.agg #[.int .i64 4, .string (s.extract p (p + n1)), .bool sy, .slice ay ny cy, .int .u64 0, .int .i64 0, .int .i64 0], .int .i64 ((p : Int) + (n1 : Int)), .agg #[.int .i64 0, .int .i64 0]]) (by simp [results, Tryz.results40, go_sem, f0, f1, f2, f3, f4, f5, f6, g0, g1]) rfl ?_
        have hr := HR3.out
        rw [HNM.out] at hr
        rw [← hr]
        exact ResW.fin E HMG.out (ext_sub _ _ _) (by omega)
      · skip
        have c0n : ¬ (c0 : Int) = 126 := by omega
        have c0b : ((c0 : Int) == 126) = false := by simp; omega
        have hnum : numV s p (p + n1) = (((rdr 0 (sub s (p + sg) (p + n1)) : Nat) : Int)) := by
          have h := HSG.out
          have h2 : bt s p ≠ 126 := by rw [show bt s p = c0 from HC0.out]; exact h126
          rw [if_neg h2] at h
          unfold numV
          rw [if_neg h2, ← h, Nat.add_zero]
        have HNM := hid hnum
        clear hnum
        go_wp2_with (go_at_call 61; rw [ext_sub s q (p + n1)]; refine (rparse_good _ _ _ (by have := HQN.out; omega) HP.out).mono ?_; rintro e w1 ⟨sx, ax, nx, cx, fx, rfl, k1, k2, k3, k4, k5, k6, k7⟩; have K5 := hid k5; have K6 := hid k6; have K7 := hid k7; clear k5 k6 k7)
        have B := Bx.made w1 (.bool sx) (.slice ax nx cx) 35
        have b0 := B.c0
        have b1 := B.c1
        have bf := B.fr
        have E := (B0.keep k3).keep (below_alloc w1 (.cells #[.bool sx, .slice ax nx cx] 35))
        have mg := (Mg.resP k1 (by have := HQN.out; have := K7.out; omega) k4 K5.out K6.out).keep (UsK.below (below_alloc w1 (.cells #[.bool sx, .slice ax nx cx] 35)))
        have HMG := hid mg
        clear mg
        generalize w1.alloc (.cells #[.bool sx, .slice ax nx cx] 35) = w3 at b0 b1 bf E HMG ⊢
        have f0 := E.t0
        have f1 := E.t1
        have f2 := E.t2
        have f3 := E.t3
        have f4 := E.t4
        have f5 := E.t5
        have f6 := E.t6
        have g0 := E.m0
        have g1 := E.m1
        have hft := E.ft
        have hfm := E.fm
        go_region
        go_wp2_with fail
        refine bodyPost_ret (v := .tuple #[.agg #[.int .i64 4, .string (s.extract p (p + n1)), .bool sx, .slice ax nx cx, .int .u64 0, .int .i64 0, .int .i64 0], .int .i64 ((p : Int) + (n1 : Int)), .agg #[.int .i64 0, .int .i64 0]]) (by simp [results, Tryz.results40, go_sem, f0, f1, f2, f3, f4, f5, f6, g0, g1]) rfl ?_
        have hr := HR3.out
        rw [HNM.out] at hr
        rw [← hr]
        exact ResW.fin E HMG.out (ext_sub _ _ _) (by omega)
  · have HR2 := HR.out
    rw [if_neg (by omega), show p + n3 - p = n3 by omega] at HR2
    have hin : ¬ (p : Int) + (n3 : Int) = (p : Int) + (n1 : Int) := by omega
    have hib : ((p : Int) + (n3 : Int) == (p : Int) + (n1 : Int)) = false := by simp; omega
    clear HR
    by_cases hlong : 100 < n3
    · rw [if_pos hlong] at HR2
      have hli : (100 : Int) < ((p + n3 : Nat) : Int) - (p : Int) := by omega
      subst HR2
      go_wp2_with (go_at_call 16; refine (bad_any 32 p _).mono ?_; rintro e w2 ⟨rfl, hb⟩; have E := B0.keep hb; have f0 := E.t0; have f1 := E.t1; have f2 := E.t2; have f3 := E.t3; have f4 := E.t4; have f5 := E.t5; have f6 := E.t6; have g0 := E.m0; have g1 := E.m1; have hft := E.ft; have hfm := E.fm)
      refine bodyPost_ret (v := .tuple #[.agg #[.int .i64 0, .string ⟨#[]⟩, .bool false, .slice none 0 0, .int .u64 0, .int .i64 0, .int .i64 0], .int .i64 0, .agg #[.int .i64 32, .int .i64 (p : Nat)]]) (by simp [results, Tryz.results40, go_sem, f0, f1, f2, f3, f4, f5, f6, g0, g1]) rfl ?_
      exact ⟨E.put _ _ _ _ _ _ _ _ _, 0, 0, rfl⟩
    · rw [if_neg hlong] at HR2
      have hli : ¬ (100 : Int) < ((p + n3 : Nat) : Int) - (p : Int) := by omega
      have HR3 := hid HR2
      clear HR2
      have HPF := hid (HF.out (by omega) (by omega))
      have hbits := fun w => bits63 (F (realT (sub s p (p + n3)))) w
      have HBT := hid hbits
      clear hbits
      go_wp2_with fail
      go_loopw [13, 14] (fun tv nv wr => wr = W1 ∧ ∃ q : Nat, nv = .int .i64 (q : Nat) ∧ p ≤ q ∧ q ≤ p + n3 ∧ ∃ ss, tv = .string ss ∧ ss.size = q - p ∧ Hid (ss = ⟨(realT (sub s p q)).toArray⟩)) (fun _ nv _ => p + n3 - (intOf nv).toNat)
      case atStart => exact ⟨rfl, p, rfl, by omega, by omega, _, rfl, by simp [ByteArray.size], hid (by rw [sub_nil]; rfl)⟩
      case round =>
        obtain ⟨hw, q, rfl, hq1, hq2, ss, rfl, hsz, HS⟩ := hrel
        obtain rfl := hw.symm
        by_cases hlt : q < p + n3
        · have hlti : (q : Int) < (p : Int) + (n3 : Int) := by omega
          obtain ⟨c, hc⟩ : ∃ c, bt s q = c := ⟨_, rfl⟩
          have hc6 : c < 256 := hc ▸ bt_lt s _
          have hix : ∀ w, (Instr.index 9 (.string s) (.int .i64 (q : Int))).run Tryz.prog w = .ok (.int .u8 (c : Nat)) w := fun w => hc ▸ run_bt Tryz.underlying9 (by omega) rfl
          have HN : Hid (realT (sub s p (q + 1)) = realT (sub s p q) ++ [if c = 126 then 45 else UInt8.ofNat c]) := hid (by rw [sub_snoc hq1 (by omega), hc, realT_snoc _ _ hc6])
          have HX : Hid (s.extract q (q + 1) = ⟨[UInt8.ofNat c].toArray⟩) := hid (by rw [ext_sub, sub_cons (by omega) (by omega), sub_nil, hc])
          have hxs : (s.extract q (q + 1)).size = 1 := by rw [sub_size (by omega) (by omega)]; omega
          clear hc
          have k1 : ¬ 9223372036854775807 < ss.size + (⟨#[45]⟩ : ByteArray).size := by rw [hsz]; show ¬ _ < q - p + 1; omega
          have k2 : ¬ 9223372036854775807 < ss.size + (s.extract q (q + 1)).size := by rw [hsz, hxs]; omega
          by_cases h126 : c = 126
          · subst h126
            go_wp2_with fail
            refine ⟨⟨trivial, q + 1, rfl, by omega, by omega, _, rfl, ?_, hid ?_⟩, by simp [intOf]; omega⟩
            · rw [ByteArray.size_append, hsz]; show q - p + 1 = _; omega
            · rw [HS.out, HN.out, ← cat_bytes]; rfl
          · skip
            have cn : ¬ (c : Int) = 126 := by omega
            have cb : ((c : Int) == 126) = false := by simp; omega
            go_wp2_with fail
            refine ⟨⟨trivial, q + 1, rfl, by omega, by omega, _, rfl, ?_, hid ?_⟩, by simp [intOf]; omega⟩
            · rw [ByteArray.size_append, hsz, hxs]; omega
            · rw [HS.out, HN.out, HX.out, cat_bytes, if_neg h126]
        · have hlti : ¬ (q : Int) < (p : Int) + (n3 : Int) := by omega
          obtain rfl : q = p + n3 := by omega
          have hF := B0.bl
          go_wp2_with (go_at_call 55; rw [HS.out]; refine (HPF.out _ (hF.mono hbw)).mono ?_; rintro e w2 ⟨er, rfl, k2⟩)
          have hcf := HBT.out
          have E := B0.keep k2
          have f0 := E.t0
          have f1 := E.t1
          have f2 := E.t2
          have f3 := E.t3
          have f4 := E.t4
          have f5 := E.t5
          have f6 := E.t6
          have g0 := E.m0
          have g1 := E.m1
          have hft := E.ft
          have hfm := E.fm
          go_region
          go_wp2_with fail
          refine bodyPost_ret (v := .tuple #[.agg #[.int .i64 5, .string (s.extract p (p + n3)), .bool false, .slice none 0 0, .int .u64 (F (realT (sub s p (p + n3))) : Nat), .int .i64 0, .int .i64 0], .int .i64 ((p : Int) + (n3 : Int)), .agg #[.int .i64 0, .int .i64 0]]) (by simp [results, Tryz.results40, go_sem, f0, f1, f2, f3, f4, f5, f6, g0, g1]) rfl ?_
          rw [← HR3.out]
          exact ResW.fin E (Mg.zero w2) (ext_sub _ _ _) (by omega)
end Go.Proofs.YtajpeeccomgnnaaGreatDoor
