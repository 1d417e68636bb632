/-
  number, walked.
-/
import Derived.Test.YtkblonfmjlopaaaGreatDoorLxNumP
set_option linter.all false
set_option maxRecDepth 1000000
set_option maxHeartbeats 16000000
namespace Go.Proofs.YtkblonfmjlopaaaGreatDoor
open Go Go.RowKit
theorem numF_le {s : ByteArray} {k : Nat} (h : k ≤ s.size) : k ≤ numF s k ∧ numF s k ≤ s.size := by
  unfold numF
  split
  · rename_i hc; have h1 := dig_in hc.2; have h2 := runE_le isDig s (k + 1); exact ⟨by omega, runE_size (by omega)⟩
  · exact ⟨Nat.le_refl _, h⟩
theorem numX_le (s : ByteArray) (k : Nat) : k + 1 ≤ numX s k := by unfold numX; split <;> omega
theorem numE_le {s : ByteArray} {k : Nat} (h : k ≤ s.size) : k ≤ numE s k ∧ numE s k ≤ s.size := by
  unfold numE
  split
  · split
    · rename_i hc; have h1 := dig_in hc; have h2 := runE_le isDig s (numX s k); have h3 := numX_le s k; exact ⟨by omega, runE_size (by omega)⟩
    · exact ⟨Nat.le_refl _, h⟩
  · exact ⟨Nat.le_refl _, h⟩
theorem float64bits_any (x : Nat) (w : World) : Calls Tryz.prog 91 #[.float .f64 x] w fun e w' => e = .returned (.int .u64 (x : Nat)) ∧ w' = w := by
  go_enter Tryz.func91, Tryz.ntmps91
  go_wp2
  rw [run_callFunc_extern Tryz.func128 (by kernel_rfl) (by kernel_rfl) (by kernel_rfl) (e := Extern.MathFloatBits.float64bits) (by kernel_rfl)]; rw [show (Extern.MathFloatBits.float64bits #[.float .f64 x]).run Tryz.prog w = .ok (.int .u64 (x : Nat)) w from rfl]; simp only [Result.andThen]; rw [Oper.upon_value]
  go_wp2
  go_ret; exact ⟨rfl, rfl⟩
def PF (F : List UInt8 → Nat) (base : Nat) (w : World) (l : List UInt8) : Prop :=
  ∀ wx, Below base w wx → Calls Tryz.prog 89 #[.string ⟨l.toArray⟩, .int .i64 64] wx fun e w' => ∃ er, e = .returned (.tuple #[.float .f64 (F l), er]) ∧ Below wx.heap.size wx w'
def PFs (F : List UInt8 → Nat) (base : Nat) (w : World) (s : ByteArray) : Prop :=
  ∀ i, (isDig (bt s i) = true ∨ bt s i = 126 ∧ isDig (bt s (i + 1)) = true) → numE s (numF s (numW s i)) ≠ numW s i → numE s (numF s (numW s i)) - i ≤ 100 → PF F base w (realT (sub s i (numE s (numF s (numW s i)))))
theorem Mg.resP {w' : World} {sg : Bool} {a : Option Addr} {n c : Nat} {f : Nat → Nat} {z : Int} (u : Us w' a n c f) (hn : n ≤ 1048576) (m : Nm f n) (h0 : n = 0 → sg = false) (hz : ival sg (val f n) = z) : Mg w' sg a n c z := ⟨f, u, hn, m, h0, hz⟩
theorem number_any (F : List UInt8 → Nat) (b : Nat) (s : ByteArray) (p : Nat) (ts : List Tok) (base : Nat) (m : Int) (w : World) (hs : s.size ≤ 65536) (hd : isDig (bt s p) = true ∨ bt s p = 126 ∧ isDig (bt s (p + 1)) = true) (h : St w b s p ts base) (hbw : base ≤ w.heap.size) (hb1 : 3 < base) (hm : w.cell? ⟨3, 0, none⟩ = some (.int .i64 m)) (hF : PFs F base w s) :
    Calls Tryz.prog 52 #[.pointer (some ⟨b, 0, none⟩)] w fun e w' => Out w w' b s ts base e (numberS F s p) := by
  obtain ⟨R, HE⟩ : ∃ R, Hid (numberS F s p = R) := ⟨_, hid rfl⟩; rw [HE.out]; have hb := h.base; have h0 := h; have HF := hid (hF p hd); clear hF; obtain ⟨la, lc, h1, h2, h3, h4, h5, h6⟩ := h; have blt := h1.lt; have s0 := h1.c0; have s1 := h1.c1; clear h2 h3 h5 h6
  -- the places
  obtain ⟨sg, hsg⟩ : ∃ sg : Nat, (if bt s p = 126 then 1 else 0) = sg := ⟨_, rfl⟩; have hp : p < s.size := by rcases hd with h | h; exact dig_in h; exact bt_in (by omega)
  have hp1 : p + sg < s.size := by
    rcases hd with h | h
    · have := dig_range h; rw [if_neg (by omega)] at hsg; omega
    · rw [if_pos h.1] at hsg; have := dig_in h.2; omega
  have hdg : isDig (bt s (p + sg)) = true := by
    rcases hd with h | h
    · have := dig_range h; rw [if_neg (by omega)] at hsg; subst hsg; exact h
    · rw [if_pos h.1] at hsg; subst hsg; exact h.2
  have hW0 : numW s p = runE isDig s (p + sg) := by
    unfold numW; rw [← hsg]; split <;> rfl
  obtain ⟨n1, hn1⟩ : ∃ n1, runE isDig s (p + sg) = p + n1 := ⟨runE isDig s (p + sg) - p, by have := runE_le isDig s (p + sg); omega⟩; have hn1a : sg < n1 := by have := runE_lt hp1 hdg; omega
  have hn1b : p + n1 ≤ s.size := by have := runE_size (p := isDig) (s := s) (i := p + sg) (by omega); omega
  have hl1 := sub_len (s := s) (i := p + sg) (k := p + n1) (by omega) (by omega); obtain ⟨n2, hn2⟩ : ∃ n2, numF s (p + n1) = p + n2 := ⟨numF s (p + n1) - p, by have := numF_le hn1b; omega⟩; have hn2a : n1 ≤ n2 ∧ p + n2 ≤ s.size := by have := numF_le hn1b; omega
  obtain ⟨n3, hn3⟩ : ∃ n3, numE s (p + n2) = p + n3 := ⟨numE s (p + n2) - p, by have := numE_le hn2a.2; omega⟩; have hn3a : n2 ≤ n3 ∧ p + n3 ≤ s.size := by have := numE_le hn2a.2; omega
  obtain ⟨hn2a, hn2b⟩ := hn2a; obtain ⟨hn3a, hn3b⟩ := hn3a; rw [hW0, hn1, hn2, hn3] at HF
  have HR : Hid ((if p + n3 = p + n1 then (if 2000 < p + n3 - p then .error (32, p) else .ok (⟨4, sub s p (p + n3), numV s p (p + n3), 0, 0, p⟩, p + n3))
      else if 100 < p + n3 - p then .error (32, p) else .ok (⟨5, sub s p (p + n3), 0, F (realT (sub s p (p + n3))), 0, p⟩, p + n3) : Ans) = R) := by
    have := HE.out; unfold numberS at this; rw [hW0, hn1, hn2, hn3] at this; exact hid this
  have H1 := hid hn1; have H2 := hid hn2; have H3 := hid hn3; have HD := hid hdg; have HH := hid hd; have hsg1 : sg ≤ 1 := by rw [← hsg]; split <;> omega
  have HSG := hid hsg; clear HE hd hdg hW0 hn1 hn2 hn3 hsg; obtain ⟨c0, hc0⟩ : ∃ c0, bt s (p + 0) = c0 := ⟨_, rfl⟩; have hc06 : c0 < 256 := hc0 ▸ bt_lt s _; have HC0 := hid hc0; clear hc0; go_enter Tryz.func52, Tryz.ntmps52
  go_upto_if 14 with (go_at_call 47; refine (peek_any b s p (0) la ts.length lc 0 0 _ (by omega) (by omega) (by omega) h1).mono ?_; rintro e w1 ⟨rfl, k01, rfl⟩; rw [HC0.out])
  go_cut [2] from 12 to 14 (fun nv wx => ∃ q, wx = w.drewN q ∧ nv = .int .i64 (sg : Nat))
  case first =>
    by_cases h126 : c0 = 126
    · subst h126; have e1 : sg = 1 := by have := HSG.out; rw [if_pos (show bt s p = 126 from HC0.out)] at this; exact this.symm
      subst e1
      go_wp2_with fail
      go_meet
      exact ⟨_, rfl, rfl⟩
    · have e1 : sg = 0 := by have := HSG.out; rw [if_neg (fun e => h126 ((show bt s p = c0 from HC0.out) ▸ e))] at this; exact this.symm
      subst e1; have c0n : ¬ (c0 : Int) = 126 := by omega
      have c0b : ((c0 : Int) == 126) = false := by simp; omega
      go_wp2_with fail
      go_meet
      exact ⟨_, rfl, rfl⟩
  case rest =>
  obtain ⟨q0, rfl, rfl⟩ := hcut
  go_upto_region 3 with fail
  go_cut [2] from 15 to 20 (fun nv wx => ∃ q, wx = w.drewN q ∧ nv = .int .i64 (n1 : Nat))
  case first =>
    go_wp2_with (go_at_call 55; refine (while_dig b s p (sg) la ts.length lc 0 0 _ (by omega) (by omega) (h1.drewN _)).mono ?_; rintro e w1 ⟨rfl, _, rfl⟩; rw [H1.out])
    go_meet
    exact ⟨_, rfl, congrArg (Value.int .i64) (by omega)⟩
  case rest =>
  obtain ⟨q1, rfl, rfl⟩ := hcut; clear hl1; obtain ⟨fr, hfr⟩ : ∃ fr, (decide (bt s (p + n1) = 46) && isDig (bt s (p + (n1 + 1)))) = fr := ⟨_, rfl⟩; have HFR := hid hfr; clear hfr
  go_upto_region 5 with fail
  go_cut [32] from 22 to 32 (fun bv wx => ∃ q, wx = w.drewN q ∧ bv = .bool fr)
  case first =>
    obtain ⟨c1, hc1⟩ : ∃ c1, bt s (p + n1) = c1 := ⟨_, rfl⟩; have hc16 : c1 < 256 := hc1 ▸ bt_lt s _; have HC1 := hid hc1
    by_cases h46 : c1 = 46
    · subst h46; have HV : Hid (isDig (bt s (p + (n1 + 1))) = fr) := hid (by have := HFR.out; rw [hc1] at this; simpa using this); clear hc1; have tk : True := trivial
      go_wp2_with (first | (have _t := tk; go_at_call 47; refine (peek_any b s p (n1) la ts.length lc 0 0 _ (by omega) (by omega) (by omega) (h1.drewN _)).mono ?_; rintro e w1 ⟨rfl, _, rfl⟩; rw [HC1.out]; clear tk) | (go_at_call 47; refine (peek_any b s p (n1 + 1) la ts.length lc 0 0 _ (by omega) (by omega) (by omega) (h1.drewN _)).mono ?_; rintro e w1 ⟨rfl, _, rfl⟩) | (go_at_call 51; refine (digit_any _ _ (bt_lt _ _)).mono ?_; rintro e w1 ⟨rfl, rfl⟩; rw [HV.out]))
      go_meet
      exact ⟨_, rfl, rfl⟩
    · have HV : fr = false := by have := HFR.out; rw [hc1] at this; simpa [h46] using this.symm
      subst HV; have c1n : ¬ (c1 : Int) = 46 := by omega
      have c1b : ((c1 : Int) == 46) = false := by simp; omega
      clear hc1
      go_wp2_with (go_at_call 47; refine (peek_any b s p (n1) la ts.length lc 0 0 _ (by omega) (by omega) (by omega) (h1.drewN _)).mono ?_; rintro e w1 ⟨rfl, k11, rfl⟩; rw [HC1.out])
      go_meet
      exact ⟨_, rfl, rfl⟩
  case rest =>
  obtain ⟨q2, rfl, rfl⟩ := hcut
  go_upto_if 32 with fail
  go_cut [2] from 33 to 40 (fun nv wx => ∃ q, wx = w.drewN q ∧ nv = .int .i64 (n2 : Nat))
  case first =>
    cases fr
    · have e2 : n2 = n1 := by
        have h := HFR.out; have h2 := H2.out; unfold numF at h2; rw [if_neg (by intro c; rw [c.1, show p + (n1 + 1) = p + n1 + 1 by omega, c.2] at h; simp at h)] at h2; omega
      subst e2
      go_wp2_with fail
      go_meet
      exact ⟨_, rfl, rfl⟩
    · have hh : bt s (p + n1) = 46 ∧ isDig (bt s (p + n1 + 1)) = true := by
        have h := HFR.out; rw [Bool.and_eq_true, decide_eq_true_eq] at h; exact ⟨h.1, by rw [show p + n1 + 1 = p + (n1 + 1) by omega]; exact h.2⟩
      have hx : runE isDig s (p + (n1 + 1)) = p + n2 := by
        have h2 := H2.out; unfold numF at h2; rw [if_pos hh] at h2; exact h2
      have hlt := dig_in hh.2; have hlt2 := runE_le isDig s (p + (n1 + 1)); rw [hx] at hlt2; have hl2 := sub_len (s := s) (i := p + (n1 + 1)) (k := p + n2) (by omega) (by omega); have HX := hid hx; clear hh hx
      go_wp2_with (go_at_call 55; refine (while_dig b s p (n1 + 1) la ts.length lc 0 0 _ (by omega) (by omega) (h1.drewN _)).mono ?_; rintro e w1 ⟨rfl, _, rfl⟩; rw [HX.out])
      go_meet
      exact ⟨_, rfl, congrArg (Value.int .i64) (by omega)⟩
  case rest =>
  obtain ⟨q3, rfl, rfl⟩ := hcut; obtain ⟨c2, hc2⟩ : ∃ c2, bt s (p + n2) = c2 := ⟨_, rfl⟩; have hc26 : c2 < 256 := hc2 ▸ bt_lt s _; have HC2 := hid hc2
  go_upto_if 44 with (go_at_call 47; refine (peek_any b s p (n2) la ts.length lc 0 0 _ (by omega) (by omega) (by omega) (h1.drewN _)).mono ?_; rintro e w1 ⟨rfl, k21, rfl⟩; rw [HC2.out])
  go_cut [2, 4] from 41 to 62 (fun nv _ wx => ∃ q, wx = w.drewN q ∧ nv = .int .i64 (n3 : Nat))
  case first =>
    by_cases h101 : c2 = 101
    · subst h101; obtain ⟨j, hj⟩ : ∃ j, numX s (p + n2) = p + j := ⟨numX s (p + n2) - p, by have := numX_le s (p + n2); omega⟩; have h3 := H3.out; unfold numE at h3; rw [if_pos hc2, hj] at h3; have hin := bt_in2 hc2 (by omega); obtain ⟨c3, hc3⟩ : ∃ c3, bt s (p + (n2 + 1)) = c3 := ⟨_, rfl⟩; have hc36 : c3 < 256 := hc3 ▸ bt_lt s _; have HC3 := hid hc3; unfold numX at hj; rw [show p + n2 + 1 = p + (n2 + 1) by omega, hc3] at hj; clear hc2; have tk : True := trivial
      rcases hdj : isDig (bt s (p + j)) with _ | _
      · rw [hdj, if_neg (by simp)] at h3; obtain rfl : n2 = n3 := by omega
        have HDJ := hid hdj
        by_cases h126 : c3 = 126
        · subst h126; rw [if_pos rfl] at hj; obtain rfl : j = n2 + 1 + 1 := by omega
          clear hj hdj h3 hc3
          go_wp2_with (first | (have _t := tk; go_at_call 47; refine (peek_any b s p (n2 + 1) la ts.length lc 0 0 _ (by omega) (by omega) (by omega) (h1.drewN _)).mono ?_; rintro e w1 ⟨rfl, _, rfl⟩; rw [HC3.out]; clear tk) | (go_at_call 47; refine (peek_any b s p (n2 + 1 + 1) la ts.length lc 0 0 _ (by omega) (by omega) (by omega) (h1.drewN _)).mono ?_; rintro e w1 ⟨rfl, _, rfl⟩) | (go_at_call 51; refine (digit_any _ _ (bt_lt _ _)).mono ?_; rintro e w1 ⟨rfl, rfl⟩; rw [HDJ.out]))
          go_meet
          exact ⟨_, rfl, rfl⟩
        · rw [if_neg h126] at hj; obtain rfl : j = n2 + 1 := by omega
          have c3n : ¬ (c3 : Int) = 126 := by omega
          have c3b : ((c3 : Int) == 126) = false := by simp; omega
          clear hj hdj h3 hc3
          go_wp2_with (first | (have _t := tk; go_at_call 47; refine (peek_any b s p (n2 + 1) la ts.length lc 0 0 _ (by omega) (by omega) (by omega) (h1.drewN _)).mono ?_; rintro e w1 ⟨rfl, _, rfl⟩; rw [HC3.out]; clear tk) | (go_at_call 47; refine (peek_any b s p (n2 + 1) la ts.length lc 0 0 _ (by omega) (by omega) (by omega) (h1.drewN _)).mono ?_; rintro e w1 ⟨rfl, _, rfl⟩) | (go_at_call 51; refine (digit_any _ _ (bt_lt _ _)).mono ?_; rintro e w1 ⟨rfl, rfl⟩; rw [HDJ.out]))
          go_meet
          exact ⟨_, rfl, rfl⟩
      · rw [hdj, if_pos rfl] at h3; have hlt := dig_in hdj; have hlt2 := runE_le isDig s (p + j); rw [h3] at hlt2; have hl2 := sub_len (s := s) (i := p + j) (k := p + n3) (by omega) (by omega); have HDJ := hid hdj; have HX := hid h3
        by_cases h126 : c3 = 126
        · subst h126; rw [if_pos rfl] at hj; obtain rfl : j = n2 + 1 + 1 := by omega
          clear hj hdj h3 hc3
          go_wp2_with (first | (have _t := tk; go_at_call 47; refine (peek_any b s p (n2 + 1) la ts.length lc 0 0 _ (by omega) (by omega) (by omega) (h1.drewN _)).mono ?_; rintro e w1 ⟨rfl, _, rfl⟩; rw [HC3.out]; clear tk) | (go_at_call 47; refine (peek_any b s p (n2 + 1 + 1) la ts.length lc 0 0 _ (by omega) (by omega) (by omega) (h1.drewN _)).mono ?_; rintro e w1 ⟨rfl, _, rfl⟩) | (go_at_call 51; refine (digit_any _ _ (bt_lt _ _)).mono ?_; rintro e w1 ⟨rfl, rfl⟩; rw [HDJ.out]) | (go_at_call 55; refine (while_dig b s p (n2 + 1 + 1) la ts.length lc 0 0 _ (by omega) (by omega) (h1.drewN _)).mono ?_; rintro e w1 ⟨rfl, _, rfl⟩; rw [HX.out]))
          go_meet
          exact ⟨_, rfl, congrArg (Value.int .i64) (by omega)⟩
        · rw [if_neg h126] at hj; obtain rfl : j = n2 + 1 := by omega
          have c3n : ¬ (c3 : Int) = 126 := by omega
          have c3b : ((c3 : Int) == 126) = false := by simp; omega
          clear hj hdj h3 hc3
          go_wp2_with (first | (have _t := tk; go_at_call 47; refine (peek_any b s p (n2 + 1) la ts.length lc 0 0 _ (by omega) (by omega) (by omega) (h1.drewN _)).mono ?_; rintro e w1 ⟨rfl, _, rfl⟩; rw [HC3.out]; clear tk) | (go_at_call 47; refine (peek_any b s p (n2 + 1) la ts.length lc 0 0 _ (by omega) (by omega) (by omega) (h1.drewN _)).mono ?_; rintro e w1 ⟨rfl, _, rfl⟩) | (go_at_call 51; refine (digit_any _ _ (bt_lt _ _)).mono ?_; rintro e w1 ⟨rfl, rfl⟩; rw [HDJ.out]) | (go_at_call 55; refine (while_dig b s p (n2 + 1) la ts.length lc 0 0 _ (by omega) (by omega) (h1.drewN _)).mono ?_; rintro e w1 ⟨rfl, _, rfl⟩; rw [HX.out]))
          go_meet
          exact ⟨_, rfl, congrArg (Value.int .i64) (by omega)⟩
    · have e3 : n3 = n2 := by
        have h3 := H3.out; unfold numE at h3; rw [if_neg (by omega)] at h3; omega
      subst e3; have c2n : ¬ (c2 : Int) = 101 := by omega
      have c2b : ((c2 : Int) == 101) = false := by simp; omega
      clear hc2
      go_wp2_with fail
      go_meet
      exact ⟨_, rfl, rfl⟩
  case rest =>
  obtain ⟨q4, rfl, rfl⟩ := hcut; clear hc2 HC2 HFR; have hwr : IntKind.i64.wrap ((p : Int) + (n3 : Int)) = (p : Int) + (n3 : Int) := IntWalk.i64_in _ (by omega); have hout : ∀ (wx w' : World) (e : Ending), Below w.heap.size w wx → Out wx w' b s ts base e R → Out w w' b s ts base e R := fun wx w' e hb o => o.before (hb.mono hbw) (UsK.below hb); have HO := hid hout; clear hout
  by_cases hint : n3 = n1
  · subst hint; have hl3 := sub_len (s := s) (i := p) (k := p + n3) (by omega) (by omega); have HR2 := HR.out; rw [if_pos rfl, show p + n3 - p = n3 by omega] at HR2; clear HR
    by_cases hlong : 2000 < n3
    · rw [if_pos hlong] at HR2; have hli : (2000 : Int) < (n3 : Int) := by omega
      subst HR2
      go_wp2_with fail
      go_quiet (fail)
      go_wp2_with (go_at_call 48; refine (fail_any b s p la ts.length lc 0 0 _ _ _ base h4 (h1.drewN _)).mono ?_; rintro e w1 ⟨rfl, f1, f2, f3⟩)
      refine bodyPost_ret (results_none rfl _ _ _) rfl ?_; exact ⟨rfl, (below_drewB w _).trans f2, (UsK.below (drewN_below w _)).trans f3, p, la, _, lc, f1⟩
    · rw [if_neg hlong] at HR2; have hli : ¬ (2000 : Int) < (n3 : Int) := by omega
      have hda : AllD (sub s (p + sg) (p + n3)) := by have := sub_digs (s := s) (i := p + sg) (by omega); rw [H1.out] at this; exact this
      obtain ⟨d, hd⟩ : ∃ d, sub s (p + sg) (p + n3) = d := ⟨_, rfl⟩; have hdl : d.length ≤ n3 := by rw [← hd, sub_len (by omega) (by omega)]; omega
      rw [hd] at hda; obtain ⟨pre, hpre⟩ : ∃ pre : Bool, pre = decide (sg = 1) := ⟨_, rfl⟩
      have hcut1 : Lib.trimPrefix (sub s p (p + n3)) [126] = d ∧ Lib.hasPrefix (sub s p (p + n3)) [126] = pre := by
        have h := HSG.out
        by_cases h126 : bt s p = 126
        · rw [if_pos h126] at h; subst h; rw [sub_cons (by omega) (by omega), h126, hd, hpre]; exact pre_cons d
        · rw [if_neg h126] at h; subst h; rw [show p + 0 = p by omega] at hd; rw [hd, hpre]; refine pre_else d ?_; rw [← hd, sub_cons (by omega) (by omega)]; simp only [List.head?_cons, ne_eq, Option.some.injEq]; intro e; have := congrArg UInt8.toNat e; rw [ofNat_toNat (bt_lt _ _)] at this; exact h126 this
      have hnum : numV s p (p + n3) = if pre = true then -((rdr 0 d : Nat) : Int) else ((rdr 0 d : Nat) : Int) := by
        have h := HSG.out; unfold numV
        by_cases h126 : bt s p = 126
        · rw [if_pos h126] at h ⊢; subst h; rw [hd, hpre]; rfl
        · rw [if_neg h126] at h ⊢; subst h; rw [show p + 0 = p by omega] at hd; rw [hd, hpre]; rfl
      rw [hnum] at HR2; have HC1 := hid hcut1.1; have HC2 := hid hcut1.2; clear hcut1 hnum hd
      rcases hT : Lib.trimLeftB d 48 with _ | ⟨x, r⟩
      · have hz := rdr_none hT; have hR3 : (.ok (⟨4, sub s p (p + n3), 0, 0, 0, p⟩, p + n3) : Ans) = R := by rw [← HR2, hz]; cases pre <;> rfl
        have HR3 := hid hR3; have HT := hid hT; clear HR2 hR3 hT hz hpre
        go_wp2_with fail
        go_quiet (fail)
        go_wp2_with (first | (go_at_call 85; refine (Tryz.strings_CutPrefix _ ⟨#[126]⟩ _).mono ?_; rintro e w1 ⟨rfl, rfl⟩; rw [show (s.extract p (p + n3)).data.toList = sub s p (p + n3) from rfl, show (⟨#[126]⟩ : ByteArray).data.toList = [126] from rfl, HC1.out, HC2.out]) | (go_at_call 86; refine (Tryz.strings_TrimLeft_one ⟨d.toArray⟩ 48 (by decide) _).mono ?_; rintro e w1 ⟨rfl, rfl⟩; rw [bytes_list, HT.out]) | (go_at_call 87; refine (parse_good [48] _ 0 (by decide) prs_nought).mono ?_; rintro e w1 ⟨sx, ax, nx, cx, fx, rfl, k1, k2, k3, k4, k5, k6, k7⟩; have K5 := hid k5; have K6 := hid k6; clear k5 k6) | (go_at_call 58; refine (tell_st b s p n3 4 0 0 _ _ _ _ _ _ _ ts base _ hs (by omega) (by omega) (h0.below ((drewN_below w _).trans ((k3.mono (by simp)).trans ((below_alloc w1 _).mono (by have := k3.size; simpa using this))))) ((Mg.resP k1 (by first | omega | (simp at k7; omega)) k4 K5.out K6.out).keep (UsK.below (below_alloc _ _)))).mono ?_; rintro e w3 hO; obtain rfl := hO.1; have HT2 := hid hO; clear hO))
        refine bodyPost_ret (results_none rfl _ _ _) rfl ?_; have hx := HT2.out; rw [HR3.out] at hx; exact HO.out _ _ _ ((drewN_below w _).trans ((k3.mono (by simp)).trans ((below_alloc w1 _).mono (by have := k3.size; simpa using this)))) hx
      · have hprs := prs_strip hT hda; have HT := hid hT; have hrl : (x :: r).length ≤ n3 := by have := strip_len d; rw [hT] at this; omega
        have HP := hid hprs; clear hT hprs; cases pre
        · simp only [Bool.false_eq_true, if_false] at HR2; have HR3 := hid HR2; clear HR2 hpre
          go_wp2_with fail
          go_quiet (fail)
          go_wp2_with (first | (go_at_call 85; refine (Tryz.strings_CutPrefix _ ⟨#[126]⟩ _).mono ?_; rintro e w1 ⟨rfl, rfl⟩; rw [show (s.extract p (p + n3)).data.toList = sub s p (p + n3) from rfl, show (⟨#[126]⟩ : ByteArray).data.toList = [126] from rfl, HC1.out, HC2.out]) | (go_at_call 86; refine (Tryz.strings_TrimLeft_one ⟨d.toArray⟩ 48 (by decide) _).mono ?_; rintro e w1 ⟨rfl, rfl⟩; rw [bytes_list, HT.out]) | (go_at_call 87; refine (parse_good (x :: r) _ _ (by omega) HP.out).mono ?_; rintro e w1 ⟨sx, ax, nx, cx, fx, rfl, k1, k2, k3, k4, k5, k6, k7⟩; have K5 := hid k5; have K6 := hid k6; clear k5 k6) | (go_at_call 58; refine (tell_st b s p n3 4 0 0 _ _ _ _ _ _ _ ts base _ hs (by omega) (by omega) (h0.below ((drewN_below w _).trans ((k3.mono (by simp)).trans ((below_alloc w1 _).mono (by have := k3.size; simpa using this))))) ((Mg.resP k1 (by first | omega | (simp at k7; omega)) k4 K5.out K6.out).keep (UsK.below (below_alloc _ _)))).mono ?_; rintro e w3 hO; obtain rfl := hO.1; have HT2 := hid hO; clear hO))
          refine bodyPost_ret (results_none rfl _ _ _) rfl ?_; have hx := HT2.out; rw [HR3.out] at hx; exact HO.out _ _ _ ((drewN_below w _).trans ((k3.mono (by simp)).trans ((below_alloc w1 _).mono (by have := k3.size; simpa using this)))) hx
        · simp only [if_true] at HR2; have HR3 := hid HR2; clear HR2 hpre
          go_wp2_with fail
          go_quiet (fail)
          go_wp2_with (first | (go_at_call 85; refine (Tryz.strings_CutPrefix _ ⟨#[126]⟩ _).mono ?_; rintro e w1 ⟨rfl, rfl⟩; rw [show (s.extract p (p + n3)).data.toList = sub s p (p + n3) from rfl, show (⟨#[126]⟩ : ByteArray).data.toList = [126] from rfl, HC1.out, HC2.out]) | (go_at_call 86; refine (Tryz.strings_TrimLeft_one ⟨d.toArray⟩ 48 (by decide) _).mono ?_; rintro e w1 ⟨rfl, rfl⟩; rw [bytes_list, HT.out]) | (go_at_call 87; refine (parse_good (x :: r) _ _ (by omega) HP.out).mono ?_; rintro e w1 ⟨sx, ax, nx, cx, fx, rfl, k1, k2, k3, k4, k5, k6, k7⟩; have K5 := hid k5; have K6 := hid k6; clear k5 k6) | (go_at_call 88; refine (neg_any _ _ _ _ _ _ (by omega) (k1.alloc _)).mono ?_; rintro e w2 ⟨sy, ay, ny, cy, fy, rfl, j1, j2, j3, j4, j5, j6, j7⟩; have J5 := hid j5; have J6 := hid j6; clear j5 j6; have B := (Bx.made w1 (.bool sx) (.slice ax nx cx) 72).keep j3; have b0 := B.c0; have b1 := B.c1; have bf := B.fr))
          have hN1 : w1.heap.size < w2.heap.size := by have := j3.size; simp at this; omega
          have hW : w.heap.size ≤ w1.heap.size := by have := k3.size; simpa using this
          have e0 : (w2.setCell ⟨w1.heap.size, 0, none⟩ (.bool sy)).cell? ⟨w1.heap.size, 1, none⟩ = some (.slice ax nx cx) := by rw [World.cell?_setCell_other _ _ _ _ (by intro h; simp at h)]; exact b1
          have bb : Below w.heap.size w ((w2.setCell ⟨w1.heap.size, 0, none⟩ (.bool sy)).setCell ⟨w1.heap.size, 1, none⟩ (.slice ay ny cy)) := ((((drewN_below w _).trans (k3.mono (by simp))).trans (((below_alloc w1 _).mono hW).trans (j3.mono (by simp; omega)))).setCell hW _).setCell hW _; have mg := ((Mg.resP j1 (by first | omega | (simp at k7; omega)) j4 J5.out (J6.out.trans (congrArg (fun t => -t) K6.out))).keep (((UsK.refl w2).set b0 (fun _ h => by cases h) _).set e0 (fun _ h => by cases h) (.slice ay ny cy))); have hst5 := h0.below bb; have HB := hid bb; clear bb
          go_wp2_with (go_at_call 58; refine (tell_st b s p n3 4 0 0 _ _ _ _ _ _ _ ts base _ hs (by omega) (by omega) hst5 mg).mono ?_; rintro e w3 hO; obtain rfl := hO.1; have HT2 := hid hO; clear hO)
          refine bodyPost_ret (results_none rfl _ _ _) rfl ?_; have hx := HT2.out; rw [HR3.out] at hx; exact HO.out _ _ _ HB.out hx
  · have HR2 := HR.out; rw [if_neg (by omega), show p + n3 - p = n3 by omega] at HR2; have hin : ¬ (n3 : Int) = (n1 : Int) := by omega
    have hib : ((n3 : Int) == (n1 : Int)) = false := by simp; omega
    have hl3 := sub_len (s := s) (i := p) (k := p + n3) (by omega) (by omega); clear HR
    by_cases hlong : 100 < n3
    · rw [if_pos hlong] at HR2; have hli : (100 : Int) < (n3 : Int) := by omega
      subst HR2
      go_wp2_with fail
      go_quiet (fail)
      go_wp2_with (go_at_call 48; refine (fail_any b s p la ts.length lc 0 0 _ _ _ base h4 (h1.drewN _)).mono ?_; rintro e w1 ⟨rfl, f1, f2, f3⟩)
      refine bodyPost_ret (results_none rfl _ _ _) rfl ?_; exact ⟨rfl, (below_drewB w _).trans f2, (UsK.below (drewN_below w _)).trans f3, p, la, _, lc, f1⟩
    · rw [if_neg hlong] at HR2; have hli : ¬ (100 : Int) < (n3 : Int) := by omega
      have HR3 := hid HR2; have HPF := hid (HF.out (by omega) (by omega))
      have hcnt : (s.extract p (p + n3)).size + Lib.countB (s.extract p (p + n3)) ⟨#[126]⟩ * (⟨#[45]⟩ : ByteArray).size ≤ 140737488355328 := by
        have h1 : (s.extract p (p + n3)).size = n3 := by rw [sub_size (by omega) (by omega)]; omega
        have h2 := Lib.count_le (s.extract p (p + n3)).data.toList [126]; have h3 : (s.extract p (p + n3)).data.toList.length = n3 := by rw [← Lib.size_eq]; exact h1
        have h4 : (⟨#[45]⟩ : ByteArray).size = 1 := rfl; have h5 : Lib.countB (s.extract p (p + n3)) ⟨#[126]⟩ = Lib.count (s.extract p (p + n3)).data.toList [126] := rfl; rw [h4, h5, Nat.mul_one]; omega
      have HCN := hid hcnt; have hsz : (s.extract p (p + n3)).size = n3 := by rw [sub_size (by omega) (by omega)]; omega
      have HSZ : Hid ((s.extract p (p + n3)).size < 4294967281) := hid (by omega); have HRP : Hid (Lib.replaceAll (s.extract p (p + n3)).data.toList (⟨#[126]⟩ : ByteArray).data.toList (⟨#[45]⟩ : ByteArray).data.toList = realT (sub s p (p + n3))) := hid (rep_real (sub s p (p + n3))); have HMM := hid (fun q => mx_drew hm q); clear HR2 hcnt hsz
      go_wp2_with fail
      go_quiet (fail)
      go_wp2_with (first | (go_at_call 90; refine (Tryz.strings_ReplaceAll _ _ _ m _ HSZ.out (HMM.out _) (by decide) HCN.out).mono ?_; rintro e w1 ⟨rfl, k1⟩; rw [HRP.out]) | (go_at_call 89; refine (HPF.out _ ((below_drewB w _).trans (k1.mono hbw))).mono ?_; rintro e w2 ⟨er, rfl, k2⟩) | (go_at_call 91; refine (float64bits_any _ _).mono ?_; rintro e w3 ⟨rfl, rfl⟩) | (go_at_call 58; refine (tell_st b s p n3 5 _ 0 _ _ _ _ _ _ _ ts base _ hs (by omega) (by omega) (h0.below ((drewN_below w _).trans (k1.trans (k2.mono k1.size)))) (Mg.zero _)).mono ?_; rintro e w3 hO; obtain rfl := hO.1; have HT2 := hid hO; clear hO))
      go_end0; have hx := HT2.out; rw [HR3.out] at hx; exact HO.out _ _ _ ((drewN_below w _).trans (k1.trans (k2.mono k1.size))) hx
def tokV (t : Tok) (sg : Bool) (am : Option Addr) (nm cm : Nat) : Array Value := #[.int .i64 (t.kind : Nat), .string ⟨t.text.toArray⟩, .bool sg, .slice am nm cm, .int .u64 (t.bits : Nat), .int .i64 (t.n : Nat), .int .i64 (t.pos : Nat)]
theorem tokV_one (t : Tok) (sg : Bool) (am : Option Addr) (nm cm : Nat) : ∀ j, j < 7 → ((tokV t sg am nm cm)[j]!).oneCell' = true := fun j hj => by
  match j, hj with
  | 0, _ => rfl
  | 1, _ => rfl
  | 2, _ => rfl
  | 3, _ => rfl
  | 4, _ => rfl
  | 5, _ => rfl
  | 6, _ => rfl
theorem tokV_new (w : World) (t : Tok) (sg : Bool) (am : Option Addr) (nm cm : Nat) (T : TypeId) : ∀ j, j < 7 → ((w.alloc (.cells (tokV t sg am nm cm) T)).drew).cell? ⟨w.heap.size, 0 + j, none⟩ = some ((tokV t sg am nm cm)[j]!) := fun j hj => by
  rw [Nat.zero_add]; refine (World.cell?_alloc_new w _ _ j).trans ?_
  match j, hj with
  | 0, _ => rfl
  | 1, _ => rfl
  | 2, _ => rfl
  | 3, _ => rfl
  | 4, _ => rfl
  | 5, _ => rfl
  | 6, _ => rfl
theorem push_st {W w3 : World} {b : Nat} {s : ByteArray} {p : Nat} {la a' : Option Addr} {lc c' : Nat} {ts : List Tok} {base : Nat} {hh r : Nat → Value} {t : Tok} {sg : Bool} {am : Option Addr} {nm cm : Nat}
    (h : Sc W b s p la ts.length lc 0 0) (hA : ArrS W la ts.length lc 7 hh) (hz0 : ∀ j, ts.length * 7 ≤ j → j < lc * 7 → hh j = zcS tokZ j) (htk : ∀ i t, ts[i]? = some t → TokC W t hh (i * 7))
    (hN : New W base la (lc * 7)) (hb : base ≤ b) (hlb : ∀ x off, la = some ⟨x, off, none⟩ → b < x ∧ x < W.heap.size) (hm : Mg W sg am nm cm t.num)
    (hr : r = hh ∧ a' = la ∧ c' = lc ∨ r = zcS tokZ ∧ a' = some ⟨W.heap.size, 0, none⟩ ∧ W.heap.size < w3.heap.size ∧ ∀ p : Addr, p.block < W.heap.size → w3.cell? p = W.cell? p)
    (A3 : ArrS w3 a' (ts.length + 1) c' 7 (catS hh (ts.length * 7) 7 (fun j => (tokV t sg am nm cm)[j]!) r)) (N3 : New w3 base a' (c' * 7)) (hb3 : Below base W w3) (hk3 : Kp W w3 la (ts.length * 7) ((ts.length + 1) * 7)) :
    let w4 := w3.setCell ⟨b, 2, none⟩ (.slice a' (ts.length + 1) c')
    Sc w4 b s p a' (ts.length + 1) c' 0 0 ∧ Toks w4 a' (ts.length + 1) c' (ts ++ [t]) ∧ New w4 base a' (c' * 7) ∧ (∀ x off, a' = some ⟨x, off, none⟩ → b < x ∧ x < w4.heap.size) ∧ Below base W w4 ∧ UsK W w4 := by
  intro w4; obtain ⟨blt, c0, c1, c2, c3, c4, fr⟩ := h; have k3 : ∀ (q : Addr), q.block = b → w3.cell? q = W.cell? q := fun q hq => hk3.cell q (by omega) (fun x off e hx => by have := hlb x off e; omega); have f3 : ∀ (q : Addr), q.block = b → w3.frozen? q = W.frozen? q := fun q hq => hk3.frozen q (by omega); have hw3 : W.heap.size ≤ w3.heap.size := hk3.size; have hlen7 : (ts.length + 1) * 7 = ts.length * 7 + 7 := Nat.succ_mul _ _
  have ha' : ∀ x off, a' = some ⟨x, off, none⟩ → b < x ∧ x < w3.heap.size := fun x off e => by
    rcases hr with ⟨_, h2, _⟩ | ⟨_, h2, h3, _⟩
    · rw [h2] at e; have := hlb x off e; omega
    · rw [h2] at e; simp only [Option.some.injEq, Addr.mk.injEq, and_true] at e; omega
  have e2 := (k3 ⟨b, 2, none⟩ rfl).trans c2
  have uk3 : UsK W w3 := by
    intro ay ny cy fy uy; refine ⟨uy.le, uy.mx, uy.lm, fun q hq => ?_⟩; obtain ⟨y, oy, ey, hc⟩ := uy.cell q hq; refine ⟨y, oy, ey, ?_⟩; have hlt := World.block_lt_of_cell? W _ hc; rw [← hc]
    rcases hr with ⟨_, _, h5⟩ | ⟨_, _, _, h6⟩
    · refine hk3.cell ⟨y, oy + q, none⟩ hlt (fun x off e hx => ?_); obtain ⟨h1, _, h2, h3⟩ := hx; simp only at h1 h2 h3; have hroom := A3.le; have hm : (ts.length + 1) * 7 ≤ lc * 7 := Nat.mul_le_mul_right _ (by omega); obtain ⟨x', off', e', hcx⟩ := hA.cell (oy + q - off) (by omega); rw [e] at e'; simp only [Option.some.injEq, Addr.mk.injEq, and_true] at e'; obtain ⟨rfl, rfl⟩ := e'; rw [show off + (oy + q - off) = oy + q by omega, ← h1, hc] at hcx; rw [hz0 _ (by omega) (by omega)] at hcx; have := Option.some.inj hcx; exact tokZ_kind _ _ this.symm
    · exact h6 _ hlt
  have u1 : UsK W w4 := uk3.set e2 (fun _ h => by cases h) _; refine ⟨⟨by simpa [w4] using (by omega : b < w3.heap.size), ?_, ?_, ?_, ?_, ?_, fun o => by simpa [w4] using (f3 ⟨b, o, none⟩ rfl).trans (fr o)⟩, ⟨catS hh (ts.length * 7) 7 (fun j => (tokV t sg am nm cm)[j]!) r, ⟨A3.le, A3.mx, fun j hj => ?_⟩, by simp, fun j h1 h2 => ?_, fun i u hu => ?_⟩, N3.set _ _, fun x off e => by simpa [w4] using ha' x off e, hb3.setCell hb _, u1⟩
  · rw [World.cell?_setCell_other _ _ _ _ (by intro h; simp at h)]; exact (k3 ⟨b, 0, none⟩ rfl).trans c0
  · rw [World.cell?_setCell_other _ _ _ _ (by intro h; simp at h)]; exact (k3 ⟨b, 1, none⟩ rfl).trans c1
  · rw [World.cell?_setCell_same _ _ _ e2]
  · rw [World.cell?_setCell_other _ _ _ _ (by intro h; simp at h)]; exact (k3 ⟨b, 3, none⟩ rfl).trans c3
  · rw [World.cell?_setCell_other _ _ _ _ (by intro h; simp at h)]; exact (k3 ⟨b, 4, none⟩ rfl).trans c4
  · obtain ⟨x, off, e, hc⟩ := A3.cell j hj; have hx := (ha' x off e).1; refine ⟨x, off, e, ?_⟩; rw [World.cell?_setCell_other _ _ _ _ (by intro h; simp only [Addr.mk.injEq] at h; omega)]; exact hc
  · unfold catS; rw [if_neg (by omega), if_neg (by omega)]
    rcases hr with ⟨h5, _, h6⟩ | ⟨h5, _⟩
    · rw [h5]; exact hz0 j (by omega) (by omega)
    · rw [h5]
  · by_cases hi : i < ts.length
    · rw [List.getElem?_append_left hi] at hu; refine ((htk i u hu).congr (fun k hk => ?_)).keep u1; unfold catS; rw [if_pos (by omega)]
    · have hi2 : i = ts.length := by
        have := (List.getElem?_eq_some_iff.1 hu).1; simp at this; omega
      subst hi2; rw [List.getElem?_append_right (Nat.le_refl _), Nat.sub_self] at hu; have ht2 := Option.some.inj (show some _ = some u from hu); subst ht2
      have hg7 : ∀ k, k < 7 → catS hh (ts.length * 7) 7 (fun j => (tokV t sg am nm cm)[j]!) r (ts.length * 7 + k) = (tokV t sg am nm cm)[k]! := fun k hk => by
        unfold catS; rw [if_neg (by omega), if_pos (by omega), Nat.add_sub_cancel_left]
      exact ⟨sg, am, nm, cm, hg7 0 (by omega), hg7 1 (by omega), hg7 2 (by omega), hg7 3 (by omega), hg7 4 (by omega), hg7 5 (by omega), hg7 6 (by omega), hm.keep u1⟩
theorem push_out {W w3 : World} {b : Nat} {s : ByteArray} {p k : Nat} {la a' : Option Addr} {lc c' : Nat} {ts : List Tok} {base : Nat} {hh r : Nat → Value} {t : Tok} {sg : Bool} {am : Option Addr} {nm cm : Nat}
    (h : Sc W b s p la ts.length lc 0 0) (hA : ArrS W la ts.length lc 7 hh) (hz0 : ∀ j, ts.length * 7 ≤ j → j < lc * 7 → hh j = zcS tokZ j) (htk : ∀ i t, ts[i]? = some t → TokC W t hh (i * 7))
    (hN : New W base la (lc * 7)) (hb : base ≤ b) (hlb : ∀ x off, la = some ⟨x, off, none⟩ → b < x ∧ x < W.heap.size) (hm : Mg W sg am nm cm t.num) (hk : p < k) (hts : ts.length ≤ p)
    (hr : r = hh ∧ a' = la ∧ c' = lc ∨ r = zcS tokZ ∧ a' = some ⟨W.heap.size, 0, none⟩ ∧ W.heap.size < w3.heap.size ∧ ∀ p : Addr, p.block < W.heap.size → w3.cell? p = W.cell? p)
    (A3 : ArrS w3 a' (ts.length + 1) c' 7 (catS hh (ts.length * 7) 7 (fun j => (tokV t sg am nm cm)[j]!) r)) (N3 : New w3 base a' (c' * 7)) (hb3 : Below base W w3) (hk3 : Kp W w3 la (ts.length * 7) ((ts.length + 1) * 7)) :
    St ((w3.setCell ⟨b, 2, none⟩ (.slice a' (ts.length + 1) c')).setCell ⟨b, 1, none⟩ (.int .i64 (k : Nat))) b s k (ts ++ [t]) base ∧ Below base W ((w3.setCell ⟨b, 2, none⟩ (.slice a' (ts.length + 1) c')).setCell ⟨b, 1, none⟩ (.int .i64 (k : Nat))) ∧ UsK W ((w3.setCell ⟨b, 2, none⟩ (.slice a' (ts.length + 1) c')).setCell ⟨b, 1, none⟩ (.int .i64 (k : Nat))) := by
  obtain ⟨g1, g2, g3, g4, g5, g6⟩ := push_st h hA hz0 htk hN hb hlb hm hr A3 N3 hb3 hk3; generalize w3.setCell ⟨b, 2, none⟩ (.slice a' (ts.length + 1) c') = w4 at g1 g2 g3 g4 g5 g6 ⊢; have c1 := g1.c1; have u : UsK w4 (w4.setCell ⟨b, 1, none⟩ (.int .i64 (k : Nat))) := (UsK.refl w4).set c1 (fun _ h => by cases h) _; refine ⟨⟨a', c', ⟨by simpa using g1.lt, ?_, ?_, ?_, ?_, ?_, fun o => by simpa using g1.fr o⟩, ?_, by simpa using g3.set _ _, hb, fun x off e => by simpa using g4 x off e, by simp; omega⟩, g5.setCell hb _, g6.trans u⟩
  · rw [World.cell?_setCell_other _ _ _ _ (by intro h; simp at h)]; exact g1.c0
  · rw [World.cell?_setCell_same _ _ _ c1]
  · rw [World.cell?_setCell_other _ _ _ _ (by intro h; simp at h)]; simpa using g1.c2
  · rw [World.cell?_setCell_other _ _ _ _ (by intro h; simp at h)]; exact g1.c3
  · rw [World.cell?_setCell_other _ _ _ _ (by intro h; simp at h)]; exact g1.c4
  · obtain ⟨hh, A, e, z, tk⟩ := g2; refine ⟨hh, ⟨by simpa using A.le, A.mx, fun j hj => ?_⟩, by simp, by simpa using z, fun i t ht => (tk i t ht).keep u⟩; obtain ⟨x, off, ea, hc⟩ := A.cell j hj; refine ⟨x, off, ea, ?_⟩; have := (g4 x off ea).1; rw [World.cell?_setCell_other _ _ _ _ (by intro h; simp only [Addr.mk.injEq] at h; omega)]; exact hc
end Go.Proofs.YtkblonfmjlopaaaGreatDoor
