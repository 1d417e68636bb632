/-
  The reference's word, walked.
-/
import Derived.Test.YtajpeeccomgnnaaGreatDoorLxR3
import Derived.Test.YtajpeeccomgnnaaGreatDoorLxR4
import Derived.Test.YtajpeeccomgnnaaGreatDoorLxWord
namespace Go.Proofs.YtajpeeccomgnnaaGreatDoor
set_option linter.all false
open Go Go.RowKit

theorem runE_unfold {p : Nat → Bool} {s : ByteArray} {q : Nat} (_ : q ≤ s.size) : runE p s q = if q < s.size ∧ p (bt s q) = true then runE p s (q + 1) else q := by
  by_cases h : q < s.size ∧ p (bt s q) = true
  · rw [if_pos h, runE_step h.1 h.2]
  · rw [if_neg h, runE_stop h]
theorem ResW.bad {w w3 : World} (E : Rb w w3) {c q : Nat} (k0 : Int) : ResW w (put9 w w3 (.int .i64 k0) (.string ⟨#[]⟩) (.bool false) (.slice none 0 0) (.int .u64 0) (.int .i64 0) (.int .i64 0) (.int .i64 (c : Nat)) (.int .i64 (q : Nat))) (.returned (.tuple #[.agg #[.int .i64 k0, .string ⟨#[]⟩, .bool false, .slice none 0 0, .int .u64 0, .int .i64 0, .int .i64 0], .int .i64 0, .agg #[.int .i64 (c : Nat), .int .i64 (q : Nat)]])) (.error (c, q)) :=
  ⟨E.put _ _ _ _ _ _ _ _ _, k0, 0, rfl⟩
theorem ResW.badd {w w3 : World} (E : Rb w w3) {c q : Nat} (k0 : Int) : ResW w (put9 w w3 (.int .i64 k0) (.string ⟨#[]⟩) (.bool false) (.slice none 0 0) (.int .u64 0) (.int .i64 0) (.int .i64 0) (.int .i64 (c : Nat)) (.int .i64 (q : Nat))).drew (.returned (.tuple #[.agg #[.int .i64 k0, .string ⟨#[]⟩, .bool false, .slice none 0 0, .int .u64 0, .int .i64 0, .int .i64 0], .int .i64 0, .agg #[.int .i64 (c : Nat), .int .i64 (q : Nat)]])) (.error (c, q)) :=
  ⟨(E.put _ _ _ _ _ _ _ _ _).drew, k0, 0, rfl⟩
theorem ResW.fin0 {w w3 : World} (E : Rb w w3) {sg : Bool} {a : Option Addr} {nn c k b m n p : Nat} {z nv : Int} {x : ByteArray} {l : List UInt8} (mg : Mg w3 sg a nn c z) (hx : x = ⟨l.toArray⟩) (hn : nv = (n : Int)) :
    ResW w (put9 w w3 (.int .i64 (k : Nat)) (.string x) (.bool sg) (.slice a nn c) (.int .u64 (b : Nat)) (.int .i64 (m : Nat)) (.int .i64 0) (.int .i64 0) (.int .i64 0)) (.returned (.tuple #[.agg #[.int .i64 (k : Nat), .string x, .bool sg, .slice a nn c, .int .u64 (b : Nat), .int .i64 (m : Nat), .int .i64 0], .int .i64 nv, .agg #[.int .i64 0, .int .i64 0]])) (.ok (⟨k, l, z, b, m, p⟩, n)) := by
  subst hx hn
  have u := E.usk (.int .i64 (k : Nat)) (.string ⟨l.toArray⟩) (.bool sg) (.slice a nn c) (.int .u64 (b : Nat)) (.int .i64 (m : Nat)) (.int .i64 0) (.int .i64 0) (.int .i64 0)
  have b9 := E.put (.int .i64 (k : Nat)) (.string ⟨l.toArray⟩) (.bool sg) (.slice a nn c) (.int .u64 (b : Nat)) (.int .i64 (m : Nat)) (.int .i64 0) (.int .i64 0) (.int .i64 0)
  generalize put9 w w3 (.int .i64 (k : Nat)) (.string ⟨l.toArray⟩) (.bool sg) (.slice a nn c) (.int .u64 (b : Nat)) (.int .i64 (m : Nat)) (.int .i64 0) (.int .i64 0) (.int .i64 0) = W at u b9 ⊢
  exact ⟨b9, sg, a, nn, c, rfl, mg.keep u⟩
set_option maxRecDepth 100000 in
set_option maxHeartbeats 16000000 in
theorem rword_any (F : List UInt8 → Nat) (s : ByteArray) (p : Nat) (base : Nat) (w : World) (hs : s.size ≤ 65536) (hp : p < s.size) (hbw : base ≤ w.heap.size) (hF : PFs F base w s) :
    Calls Tryz.prog 18 #[.string s, .int .i64 (p : Nat)] w fun e w' => ResW w w' e (wordS F s p) := by
  obtain ⟨R, HE⟩ : ∃ R, Hid (wordS F s p = R) := ⟨_, hid rfl⟩
  rw [HE.out]
  have HF := hid hF
  clear hF
  have B0 := Rb.made w
  obtain ⟨c, hc⟩ : ∃ c, bt s p = c := ⟨_, rfl⟩
  have hc6 : c < 256 := hc ▸ bt_lt s _
  have hix : ∀ w, (Instr.index 9 (.string s) (.int .i64 (p : Int))).run Tryz.prog w = .ok (.int .u8 (c : Nat)) w := fun w => hc ▸ run_bt Tryz.underlying9 hp rfl
  have HC := hid hc
  have h2 := HE.out
  unfold wordS at h2
  simp only [hc] at h2
  clear HE
  go_enter Tryz.func18, Tryz.ntmps18
  go_upto_region 2 with fail
  generalize (w.alloc (.cells #[.int .i64 0, .string ⟨#[]⟩, .bool false, .slice none 0 0, .int .u64 0, .int .i64 0, .int .i64 0] 39)).alloc (.cells #[.int .i64 0, .int .i64 0] 26) = W1 at B0 ⊢
  have HFW : Hid (PFs F base W1 s) := hid (fun i hi h1 h2 wx hx => HF.out i hi h1 h2 wx ((B0.bl.mono hbw).trans hx))
  have hbW : base ≤ W1.heap.size := Nat.le_trans hbw B0.bl.size
  clear HF
  have tk1 : True := trivial
  have tk2 : True := trivial
  have tk3 : True := trivial
  rcases hl : isLet c with _ | _
  rotate_left 1
  · rw [hl, if_pos rfl] at h2
    have HL := hid hl
    have HR := hid h2
    have HLET := hid (show isLet (bt s p) = true from hc ▸ hl)
    clear h2 hl hc
    go_wp2_with (first | (have _t := tk1; go_at_call 37; refine (rletter_any _ _ hc6).mono ?_; rintro e w2 ⟨rfl, hw⟩; obtain rfl := hw.symm; rw [HL.out]; clear tk1) | (go_at_call 38; refine (rname_any s p _ hs HLET.out).mono ?_; intro e w2 hO; obtain ⟨x0, x1, x2, x3, x4, x5, x6, x7, x8, xn, u0, u1, rfl, hb, CC⟩ := hO.open; have CC := hid CC; clear hO; have E := B0.keep hb; have f0 := E.t0; have f1 := E.t1; have f2 := E.t2; have f3 := E.t3; have f4 := E.t4; have f5 := E.t5; have f6 := E.t6; have g0 := E.m0; have g1 := E.m1; have hft := E.ft; have hfm := E.fm))
    refine bodyPost_ret (v := .tuple #[.agg #[.int .i64 x0, .string x1, .bool x2, .slice x3 x4 x5, .int .u64 x6, .int .i64 x7, .int .i64 x8], .int .i64 xn, .agg #[.int .i64 u0, .int .i64 u1]]) (by simp [results, Tryz.results18, go_sem, f0, f1, f2, f3, f4, f5, f6, g0, g1]) rfl ?_
    exact HR.out ▸ CC.out w _ (E.put _ _ _ _ _ _ _ _ _) (E.usk _ _ _ _ _ _ _ _ _)
  rw [hl, if_neg (by simp)] at h2
  have HL := hid hl
  clear hl
  by_cases hdg : isDig c = true
  · rw [if_pos (Or.inl hdg)] at h2
    have HD := hid hdg
    have HDD := hid (show isDig (bt s p) = true from hc ▸ hdg)
    have HR := hid h2
    clear h2 hdg hc
    go_wp2_with (first | (have _t := tk1; go_at_call 37; refine (rletter_any _ _ hc6).mono ?_; rintro e w2 ⟨rfl, hw⟩; obtain rfl := hw.symm; rw [HL.out]; clear tk1) | (have _t := tk2; go_at_call 39; refine (rdigit_any _ _ hc6).mono ?_; rintro e w2 ⟨rfl, hw⟩; obtain rfl := hw.symm; rw [HD.out]; clear tk2) | (go_at_call 40; refine (rnumber_any F s p base _ hs (Or.inl HDD.out) hbW HFW.out).mono ?_; intro e w2 hO; obtain ⟨x0, x1, x2, x3, x4, x5, x6, x7, x8, xn, u0, u1, rfl, hb, CC⟩ := hO.open; have CC := hid CC; clear hO; have E := B0.keep hb; have f0 := E.t0; have f1 := E.t1; have f2 := E.t2; have f3 := E.t3; have f4 := E.t4; have f5 := E.t5; have f6 := E.t6; have g0 := E.m0; have g1 := E.m1; have hft := E.ft; have hfm := E.fm))
    refine bodyPost_ret (v := .tuple #[.agg #[.int .i64 x0, .string x1, .bool x2, .slice x3 x4 x5, .int .u64 x6, .int .i64 x7, .int .i64 x8], .int .i64 xn, .agg #[.int .i64 u0, .int .i64 u1]]) (by simp [results, Tryz.results18, go_sem, f0, f1, f2, f3, f4, f5, f6, g0, g1]) rfl ?_
    exact HR.out ▸ CC.out w _ (E.put _ _ _ _ _ _ _ _ _) (E.usk _ _ _ _ _ _ _ _ _)
  have hdg' : isDig c = false := by simpa using hdg
  have HD := hid hdg'
  obtain ⟨c1, hc1⟩ : ∃ c1, bt s (p + 1) = c1 := ⟨_, rfl⟩
  have hc16 : c1 < 256 := hc1 ▸ bt_lt s _
  have HC1 := hid hc1
  rw [hc1] at h2
  by_cases ht : c = 126 ∧ isDig c1 = true
  · rw [if_pos (Or.inr ht)] at h2
    obtain ⟨rfl, ht⟩ := ht
    have HT := hid ht
    have HDD := hid (show bt s p = 126 ∧ isDig (bt s (p + 1)) = true from ⟨hc, hc1 ▸ ht⟩)
    have HR := hid h2
    clear h2 hdg hc ht hc1 hdg'
    go_wp2_with (first | (have _t := tk1; go_at_call 37; refine (rletter_any _ _ hc6).mono ?_; rintro e w2 ⟨rfl, hw⟩; obtain rfl := hw.symm; rw [HL.out]; clear tk1) | (have _t := tk2; go_at_call 39; refine (rdigit_any _ _ hc6).mono ?_; rintro e w2 ⟨rfl, hw⟩; obtain rfl := hw.symm; rw [HD.out]; clear tk2) | (go_at_call 36; refine (rat_any s (p + 1) _ (by omega) (by omega)).mono ?_; rintro e w2 ⟨rfl, hw⟩; obtain rfl := hw.symm; rw [HC1.out]) | (go_at_call 39; refine (rdigit_any _ _ hc16).mono ?_; rintro e w2 ⟨rfl, hw⟩; obtain rfl := hw.symm; rw [HT.out]) | (go_at_call 40; refine (rnumber_any F s p base _ hs (Or.inr HDD.out) hbW HFW.out).mono ?_; intro e w2 hO; obtain ⟨x0, x1, x2, x3, x4, x5, x6, x7, x8, xn, u0, u1, rfl, hb, CC⟩ := hO.open; have CC := hid CC; clear hO; have E := B0.keep hb; have f0 := E.t0; have f1 := E.t1; have f2 := E.t2; have f3 := E.t3; have f4 := E.t4; have f5 := E.t5; have f6 := E.t6; have g0 := E.m0; have g1 := E.m1; have hft := E.ft; have hfm := E.fm))
    refine bodyPost_ret (v := .tuple #[.agg #[.int .i64 x0, .string x1, .bool x2, .slice x3 x4 x5, .int .u64 x6, .int .i64 x7, .int .i64 x8], .int .i64 xn, .agg #[.int .i64 u0, .int .i64 u1]]) (by simp [results, Tryz.results18, go_sem, f0, f1, f2, f3, f4, f5, f6, g0, g1]) rfl ?_
    exact HR.out ▸ CC.out w _ (E.put _ _ _ _ _ _ _ _ _) (E.usk _ _ _ _ _ _ _ _ _)
  rw [if_neg (by rintro (h | h); exact hdg h; exact ht h)] at h2
  clear hdg hdg'
  by_cases htl : c = 126
  · subst htl
    have hT : isDig c1 = false := by simpa using fun e => ht ⟨rfl, e⟩
    have HT := hid hT
    rw [if_neg (by omega), if_neg (by omega), if_neg (by omega), if_neg (by decide), if_pos (by decide)] at h2
    have hsyc : isSym (bt s p) = true := by rw [hc]; decide
    have HSYC : Hid (isSym 126 = true) := hid (by decide)
    have hk1 := runE_lt (p := isSym) hp hsyc
    have hk2 := runE_size (p := isSym) (s := s) (i := p) (by omega)
    obtain ⟨k, hk⟩ : ∃ k, runE isSym s p = k := ⟨_, rfl⟩
    rw [hk] at h2 hk1 hk2
    have HK := hid hk
    clear hsyc hk hc hc1
    rcases hrs : rsv (sub s p k) with _ | _
    all_goals
      rw [hrs] at h2
      have HRS := hid hrs
      have HR := hid h2
      clear h2 hrs
      go_wp2_with (first | (have _t := tk1; go_at_call 37; refine (rletter_any _ _ hc6).mono ?_; rintro e w2 ⟨rfl, hw⟩; obtain rfl := hw.symm; rw [HL.out]; clear tk1) | (have _t := tk2; go_at_call 39; refine (rdigit_any _ _ hc6).mono ?_; rintro e w2 ⟨rfl, hw⟩; obtain rfl := hw.symm; rw [HD.out]; clear tk2) | (go_at_call 36; refine (rat_any s (p + 1) _ (by omega) (by omega)).mono ?_; rintro e w2 ⟨rfl, hw⟩; obtain rfl := hw.symm; rw [HC1.out]) | (go_at_call 39; refine (rdigit_any _ _ hc16).mono ?_; rintro e w2 ⟨rfl, hw⟩; obtain rfl := hw.symm; rw [HT.out]) | (go_at_call 44; refine (rone_any _ _ (by omega)).mono ?_; rintro e w2 ⟨rfl, hw⟩; obtain rfl := hw.symm; rw [show isOne 126 = false by decide]) | (have _t := tk3; go_at_call 45; refine (rsym_any _ _ (by omega)).mono ?_; rintro e w2 ⟨rfl, hw⟩; obtain rfl := hw.symm; rw [HSYC.out]; clear tk3))
      go_loopw [15] (fun iv wr => wr = W1 ∧ ∃ q : Nat, iv = .int .i64 (q : Nat) ∧ p ≤ q ∧ q ≤ s.size ∧ Hid (runE isSym s q = k)) (fun iv _ => s.size - (intOf iv).toNat)
      case atStart => exact ⟨rfl, p, rfl, Nat.le_refl _, by omega, HK⟩
      case round =>
        obtain ⟨hw, q, rfl, hpq, hq, HN⟩ := hrel
        obtain rfl := hw.symm
        have HU := runE_unfold (p := isSym) (s := s) hq
        by_cases hlt : q < s.size
        rotate_left 1
        · have hqe : q = s.size := by omega
          have hqk : q = k := by rw [← HN.out, HU, if_neg (by omega)]
          have hni : ¬ (q : Int) < (s.size : Int) := by omega
          subst hqk
          clear HU hqe hlt
          go_wp2_with (first | (go_at_call 12; rw [ext_sub s p q]; refine (rreserved_any (sub s p q) _).mono ?_; rintro e w2 ⟨rfl, hw⟩; obtain rfl := hw.symm; rw [HRS.out]) | (go_at_call 42; refine (rshort_any s p q _ _ hs (by omega) (by omega)).mono ?_; intro e w2 hO; obtain ⟨x0, x1, x2, x3, x4, x5, x6, x7, x8, xn, u0, u1, rfl, hb, CC⟩ := hO.open; have CC := hid CC; clear hO; have E := B0.keep hb; have f0 := E.t0; have f1 := E.t1; have f2 := E.t2; have f3 := E.t3; have f4 := E.t4; have f5 := E.t5; have f6 := E.t6; have g0 := E.m0; have g1 := E.m1; have hft := E.ft; have hfm := E.fm))
          refine bodyPost_ret (v := .tuple #[.agg #[.int .i64 x0, .string x1, .bool x2, .slice x3 x4 x5, .int .u64 x6, .int .i64 x7, .int .i64 x8], .int .i64 xn, .agg #[.int .i64 u0, .int .i64 u1]]) (by simp [results, Tryz.results18, go_sem, f0, f1, f2, f3, f4, f5, f6, g0, g1]) rfl ?_
          exact HR.out ▸ CC.out w _ (E.put _ _ _ _ _ _ _ _ _) (E.usk _ _ _ _ _ _ _ _ _)
        have hlti : (q : Int) < (s.size : Int) := by omega
        have hixq : ∀ w, (Instr.index 9 (.string s) (.int .i64 (q : Int))).run Tryz.prog w = .ok (.int .u8 (bt s q : Nat)) w := fun w => run_bt Tryz.underlying9 hlt rfl
        obtain ⟨c2, hc2⟩ : ∃ c2, bt s q = c2 := ⟨_, rfl⟩
        have hc26 : c2 < 256 := hc2 ▸ bt_lt s _
        rw [hc2] at hixq HU
        clear hc2
        rcases hs2 : isSym c2 with _ | _
        · have hqk : q = k := by rw [← HN.out, HU, if_neg (by rw [hs2]; simp)]
          have HS2 := hid hs2
          subst hqk
          clear HU hs2
          go_wp2_with (first | (go_at_call 45; refine (rsym_any _ _ hc26).mono ?_; rintro e w2 ⟨rfl, hw⟩; obtain rfl := hw.symm; rw [HS2.out]) | (go_at_call 12; rw [ext_sub s p q]; refine (rreserved_any (sub s p q) _).mono ?_; rintro e w2 ⟨rfl, hw⟩; obtain rfl := hw.symm; rw [HRS.out]) | (go_at_call 42; refine (rshort_any s p q _ _ hs (by omega) (by omega)).mono ?_; intro e w2 hO; obtain ⟨x0, x1, x2, x3, x4, x5, x6, x7, x8, xn, u0, u1, rfl, hb, CC⟩ := hO.open; have CC := hid CC; clear hO; have E := B0.keep hb; have f0 := E.t0; have f1 := E.t1; have f2 := E.t2; have f3 := E.t3; have f4 := E.t4; have f5 := E.t5; have f6 := E.t6; have g0 := E.m0; have g1 := E.m1; have hft := E.ft; have hfm := E.fm))
          refine bodyPost_ret (v := .tuple #[.agg #[.int .i64 x0, .string x1, .bool x2, .slice x3 x4 x5, .int .u64 x6, .int .i64 x7, .int .i64 x8], .int .i64 xn, .agg #[.int .i64 u0, .int .i64 u1]]) (by simp [results, Tryz.results18, go_sem, f0, f1, f2, f3, f4, f5, f6, g0, g1]) rfl ?_
          exact HR.out ▸ CC.out w _ (E.put _ _ _ _ _ _ _ _ _) (E.usk _ _ _ _ _ _ _ _ _)
        · have HS2 := hid hs2
          rw [if_pos ⟨hlt, hs2⟩, HN.out] at HU
          have HN2 := hid HU.symm
          clear HU hs2
          go_wp2_with (go_at_call 45; refine (rsym_any _ _ hc26).mono ?_; rintro e w2 ⟨rfl, hw⟩; obtain rfl := hw.symm; rw [HS2.out])
          exact ⟨⟨trivial, q + 1, rfl, by omega, by omega, HN2⟩, by simp [intOf]; omega⟩
  have cn126 : ¬ (c : Int) = 126 := by omega
  have cb126 : ((c : Int) == 126) = false := by simp; omega
  clear ht
  by_cases h34 : c = 34
  · subst h34
    rw [if_pos rfl] at h2
    obtain ⟨Q, hQ⟩ : ∃ Q, quotedS s p = Q := ⟨_, rfl⟩
    rw [hQ] at h2
    clear hc hc1
    have HQ := hid hQ
    clear hQ
    rcases Q with ⟨cc, qq⟩ | ⟨x, k⟩
    · simp only at h2
      have HR := hid h2
      clear h2
      go_wp2_with (first | (have _t := tk1; go_at_call 37; refine (rletter_any _ _ hc6).mono ?_; rintro e w2 ⟨rfl, hw⟩; obtain rfl := hw.symm; rw [HL.out]; clear tk1) | (have _t := tk2; go_at_call 39; refine (rdigit_any _ _ hc6).mono ?_; rintro e w2 ⟨rfl, hw⟩; obtain rfl := hw.symm; rw [HD.out]; clear tk2) | (go_at_call 41; refine (rquoted_any s (p) _ hs (by omega)).mono ?_; intro e w2 hQ; obtain ⟨hb, hQ⟩ := hQ; rw [HQ.out] at hQ; obtain rfl := hQ))
      have Bq := Bx.made w2 (.int .i64 (cc : Nat)) (.int .i64 (qq : Nat)) 26
      have q0 := Bq.c0
      have q1 := Bq.c1
      have qf := Bq.fr
      have E := (B0.keep hb).keep (below_alloc w2 (.cells #[.int .i64 (cc : Nat), .int .i64 (qq : Nat)] 26))
      generalize w2.alloc (.cells #[.int .i64 (cc : Nat), .int .i64 (qq : Nat)] 26) = w3 at q0 q1 qf E ⊢
      clear Bq
      have hs2 := hb.size
      have hl0 := B0.lt
      have n1 : ¬ w2.heap.size = w.heap.size := by omega
      have n2 : ¬ w.heap.size = w2.heap.size := by omega
      have n3 : ¬ w2.heap.size = w.heap.size + 1 := by omega
      have n4 : ¬ w.heap.size + 1 = w2.heap.size := by omega
      have f0 := E.t0
      have f1 := E.t1
      have f2 := E.t2
      have f3 := E.t3
      have f4 := E.t4
      have f5 := E.t5
      have f6 := E.t6
      have g0 := E.m0
      have g1 := E.m1
      have hft := E.ft
      have hfm := E.fm
      go_region
      go_wp2_with fail
      refine bodyPost_ret (v := .tuple #[.agg #[.int .i64 7, .string ⟨#[]⟩, .bool false, .slice none 0 0, .int .u64 0, .int .i64 0, .int .i64 0], .int .i64 0, .agg #[.int .i64 (cc : Nat), .int .i64 (qq : Nat)]]) (by simp [results, Tryz.results18, go_sem, f0, f1, f2, f3, f4, f5, f6, g0, g1]) rfl ?_
      rw [← HR.out]
      exact ResW.badd E 7
    · simp only at h2
      have HR := hid h2
      clear h2
      go_wp2_with (first | (have _t := tk1; go_at_call 37; refine (rletter_any _ _ hc6).mono ?_; rintro e w2 ⟨rfl, hw⟩; obtain rfl := hw.symm; rw [HL.out]; clear tk1) | (have _t := tk2; go_at_call 39; refine (rdigit_any _ _ hc6).mono ?_; rintro e w2 ⟨rfl, hw⟩; obtain rfl := hw.symm; rw [HD.out]; clear tk2) | (go_at_call 41; refine (rquoted_any s (p) _ hs (by omega)).mono ?_; intro e w2 hQ; obtain ⟨hb, hQ⟩ := hQ; rw [HQ.out] at hQ; obtain rfl := hQ))
      have Bq := Bx.made w2 (.int .i64 0) (.int .i64 0) 26
      have q0 := Bq.c0
      have q1 := Bq.c1
      have qf := Bq.fr
      have E := (B0.keep hb).keep (below_alloc w2 (.cells #[.int .i64 0, .int .i64 0] 26))
      generalize w2.alloc (.cells #[.int .i64 0, .int .i64 0] 26) = w3 at q0 q1 qf E ⊢
      clear Bq
      have hs2 := hb.size
      have hl0 := B0.lt
      have n1 : ¬ w2.heap.size = w.heap.size := by omega
      have n2 : ¬ w.heap.size = w2.heap.size := by omega
      have n3 : ¬ w2.heap.size = w.heap.size + 1 := by omega
      have n4 : ¬ w.heap.size + 1 = w2.heap.size := by omega
      have f0 := E.t0
      have f1 := E.t1
      have f2 := E.t2
      have f3 := E.t3
      have f4 := E.t4
      have f5 := E.t5
      have f6 := E.t6
      have g0 := E.m0
      have g1 := E.m1
      have hft := E.ft
      have hfm := E.fm
      go_region
      go_wp2_with fail
      refine bodyPost_ret (v := .tuple #[.agg #[.int .i64 7, .string ⟨x.toArray⟩, .bool false, .slice none 0 0, .int .u64 0, .int .i64 0, .int .i64 0], .int .i64 (k : Nat), .agg #[.int .i64 0, .int .i64 0]]) (by simp [results, Tryz.results18, go_sem, f0, f1, f2, f3, f4, f5, f6, g0, g1]) rfl ?_
      rw [← HR.out]
      exact ResW.fin E (Mg.zero _) rfl rfl
  rw [if_neg h34] at h2
  have cn34 : ¬ (c : Int) = 34 := by omega
  have cb34 : ((c : Int) == 34) = false := by simp; omega
  by_cases h35 : c = 35 ∧ c1 = 34
  · rw [if_pos h35] at h2
    obtain ⟨rfl, rfl⟩ := h35
    have hp1 := bt_in2 hc1 (by omega)
    obtain ⟨Q, hQ⟩ : ∃ Q, quotedS s (p + 1) = Q := ⟨_, rfl⟩
    rw [hQ] at h2
    clear hc hc1
    have HQ := hid hQ
    rcases Q with ⟨cc, qq⟩ | ⟨x, k⟩
    · simp only at h2
      have hcc := quo_err s _ _ _ _ _ hQ
      have ccn : ¬ (cc : Int) = 0 := by omega
      have ccb : ((cc : Int) == 0) = false := by simp; omega
      have HR := hid h2
      clear h2 hQ hcc
      go_wp2_with (first | (have _t := tk1; go_at_call 37; refine (rletter_any _ _ hc6).mono ?_; rintro e w2 ⟨rfl, hw⟩; obtain rfl := hw.symm; rw [HL.out]; clear tk1) | (have _t := tk2; go_at_call 39; refine (rdigit_any _ _ hc6).mono ?_; rintro e w2 ⟨rfl, hw⟩; obtain rfl := hw.symm; rw [HD.out]; clear tk2) | (go_at_call 36; refine (rat_any s (p + 1) _ (by omega) (by omega)).mono ?_; rintro e w2 ⟨rfl, hw⟩; obtain rfl := hw.symm; rw [HC1.out]) | (go_at_call 41; refine (rquoted_any s (p + 1) _ hs (by omega)).mono ?_; intro e w2 hQ; obtain ⟨hb, hQ⟩ := hQ; rw [HQ.out] at hQ; obtain rfl := hQ))
      have Bq := Bx.made w2 (.int .i64 (cc : Nat)) (.int .i64 (qq : Nat)) 26
      have q0 := Bq.c0
      have q1 := Bq.c1
      have qf := Bq.fr
      have E := (B0.keep hb).keep (below_alloc w2 (.cells #[.int .i64 (cc : Nat), .int .i64 (qq : Nat)] 26))
      generalize w2.alloc (.cells #[.int .i64 (cc : Nat), .int .i64 (qq : Nat)] 26) = w3 at q0 q1 qf E ⊢
      clear Bq
      have hs2 := hb.size
      have hl0 := B0.lt
      have n1 : ¬ w2.heap.size = w.heap.size := by omega
      have n2 : ¬ w.heap.size = w2.heap.size := by omega
      have n3 : ¬ w2.heap.size = w.heap.size + 1 := by omega
      have n4 : ¬ w.heap.size + 1 = w2.heap.size := by omega
      have f0 := E.t0
      have f1 := E.t1
      have f2 := E.t2
      have f3 := E.t3
      have f4 := E.t4
      have f5 := E.t5
      have f6 := E.t6
      have g0 := E.m0
      have g1 := E.m1
      have hft := E.ft
      have hfm := E.fm
      go_wp2_with fail
      go_region
      go_wp2_with fail
      refine bodyPost_ret (v := .tuple #[.agg #[.int .i64 0, .string ⟨#[]⟩, .bool false, .slice none 0 0, .int .u64 0, .int .i64 0, .int .i64 0], .int .i64 0, .agg #[.int .i64 (cc : Nat), .int .i64 (qq : Nat)]]) (by simp [results, Tryz.results18, go_sem, f0, f1, f2, f3, f4, f5, f6, g0, g1]) rfl ?_
      rw [← HR.out]
      exact ResW.badd E 0
    · simp only at h2
      clear hQ
      by_cases hx1 : x.length = 1
      · rw [if_neg (by omega)] at h2
        obtain ⟨y, rfl⟩ := List.length_eq_one_iff.1 hx1
        have hiy := one_str (x := [y]) rfl
        have hy := y.toNat_lt
        have HWY : IntKind.i64.wrap (y.toNat : Int) = (y.toNat : Int) := IntWalk.i64_in _ (by omega)
        have HR := hid h2
        clear h2
        go_wp2_with (first | (have _t := tk1; go_at_call 37; refine (rletter_any _ _ hc6).mono ?_; rintro e w2 ⟨rfl, hw⟩; obtain rfl := hw.symm; rw [HL.out]; clear tk1) | (have _t := tk2; go_at_call 39; refine (rdigit_any _ _ hc6).mono ?_; rintro e w2 ⟨rfl, hw⟩; obtain rfl := hw.symm; rw [HD.out]; clear tk2) | (go_at_call 36; refine (rat_any s (p + 1) _ (by omega) (by omega)).mono ?_; rintro e w2 ⟨rfl, hw⟩; obtain rfl := hw.symm; rw [HC1.out]) | (go_at_call 41; refine (rquoted_any s (p + 1) _ hs (by omega)).mono ?_; intro e w2 hQ; obtain ⟨hb, hQ⟩ := hQ; rw [HQ.out] at hQ; obtain rfl := hQ))
        have Bq := Bx.made w2 (.int .i64 0) (.int .i64 0) 26
        have q0 := Bq.c0
        have q1 := Bq.c1
        have qf := Bq.fr
        have E := (B0.keep hb).keep (below_alloc w2 (.cells #[.int .i64 0, .int .i64 0] 26))
        generalize w2.alloc (.cells #[.int .i64 0, .int .i64 0] 26) = w3 at q0 q1 qf E ⊢
        clear Bq
        have hs2 := hb.size
        have hl0 := B0.lt
        have n1 : ¬ w2.heap.size = w.heap.size := by omega
        have n2 : ¬ w.heap.size = w2.heap.size := by omega
        have n3 : ¬ w2.heap.size = w.heap.size + 1 := by omega
        have n4 : ¬ w.heap.size + 1 = w2.heap.size := by omega
        have f0 := E.t0
        have f1 := E.t1
        have f2 := E.t2
        have f3 := E.t3
        have f4 := E.t4
        have f5 := E.t5
        have f6 := E.t6
        have g0 := E.m0
        have g1 := E.m1
        have hft := E.ft
        have hfm := E.fm
        go_wp2_with fail
        go_region
        go_wp2_with fail
        refine bodyPost_ret (v := .tuple #[.agg #[.int .i64 6, .string ⟨#[y]⟩, .bool false, .slice none 0 0, .int .u64 0, .int .i64 (y.toNat : Nat), .int .i64 0], .int .i64 (k : Nat), .agg #[.int .i64 0, .int .i64 0]]) (by simp [results, Tryz.results18, go_sem, f0, f1, f2, f3, f4, f5, f6, g0, g1]) rfl ?_
        rw [← HR.out]
        exact ResW.fin E (Mg.zero _) rfl rfl
      · rw [if_pos hx1] at h2
        have hxi : ¬ ((x.length : Nat) : Int) = 1 := by omega
        have hxb : (((x.length : Nat) : Int) == 1) = false := by simp; omega
        have HR := hid h2
        clear h2
        go_wp2_with (first | (have _t := tk1; go_at_call 37; refine (rletter_any _ _ hc6).mono ?_; rintro e w2 ⟨rfl, hw⟩; obtain rfl := hw.symm; rw [HL.out]; clear tk1) | (have _t := tk2; go_at_call 39; refine (rdigit_any _ _ hc6).mono ?_; rintro e w2 ⟨rfl, hw⟩; obtain rfl := hw.symm; rw [HD.out]; clear tk2) | (go_at_call 36; refine (rat_any s (p + 1) _ (by omega) (by omega)).mono ?_; rintro e w2 ⟨rfl, hw⟩; obtain rfl := hw.symm; rw [HC1.out]) | (go_at_call 41; refine (rquoted_any s (p + 1) _ hs (by omega)).mono ?_; intro e w2 hQ; obtain ⟨hb, hQ⟩ := hQ; rw [HQ.out] at hQ; obtain rfl := hQ))
        have Bq := Bx.made w2 (.int .i64 0) (.int .i64 0) 26
        have q0 := Bq.c0
        have q1 := Bq.c1
        have qf := Bq.fr
        have E := (B0.keep hb).keep (below_alloc w2 (.cells #[.int .i64 0, .int .i64 0] 26))
        generalize w2.alloc (.cells #[.int .i64 0, .int .i64 0] 26) = w3 at q0 q1 qf E ⊢
        clear Bq
        have hs2 := hb.size
        have hl0 := B0.lt
        have n1 : ¬ w2.heap.size = w.heap.size := by omega
        have n2 : ¬ w.heap.size = w2.heap.size := by omega
        have n3 : ¬ w2.heap.size = w.heap.size + 1 := by omega
        have n4 : ¬ w.heap.size + 1 = w2.heap.size := by omega
        have f0 := E.t0
        have f1 := E.t1
        have f2 := E.t2
        have f3 := E.t3
        have f4 := E.t4
        have f5 := E.t5
        have f6 := E.t6
        have g0 := E.m0
        have g1 := E.m1
        have hft := E.ft
        have hfm := E.fm
        go_wp2_with (go_at_call 16; refine (bad_any 32 p _).mono ?_; rintro e w4 ⟨rfl, hb4⟩; have E := E.keep hb4; have f0 := E.t0; have f1 := E.t1; have f2 := E.t2; have f3 := E.t3; have f4 := E.t4; have f5 := E.t5; have f6 := E.t6; have g0 := E.m0; have g1 := E.m1; have hft := E.ft; have hfm := E.fm)
        refine bodyPost_ret (v := .tuple #[.agg #[.int .i64 0, .string ⟨#[]⟩, .bool false, .slice none 0 0, .int .u64 0, .int .i64 0, .int .i64 0], .int .i64 0, .agg #[.int .i64 32, .int .i64 (p : Nat)]]) (by simp [results, Tryz.results18, go_sem, f0, f1, f2, f3, f4, f5, f6, g0, g1]) rfl ?_
        rw [← HR.out]
        exact ResW.bad E 0
  rw [if_neg h35] at h2
  by_cases h39 : c = 39
  · subst h39
    rw [if_pos rfl] at h2
    by_cases hq : c1 = 39
    · subst hq
      rw [if_pos rfl] at h2
      have hp1 := bt_in2 hc1 (by omega)
      obtain ⟨c2, hc2⟩ : ∃ c2, bt s (p + 2) = c2 := ⟨_, rfl⟩
      have hc26 : c2 < 256 := hc2 ▸ bt_lt s _
      rw [hc2] at h2
      rcases hl2 : isLet c2 with _ | _
      · rw [hl2, if_neg (by simp)] at h2
        have HL2 := hid hl2
        have HC2 := hid hc2
        have HR := hid h2
        clear hl2 hc hc1 hc2 h2
        go_wp2_with (first | (have _t := tk1; go_at_call 37; refine (rletter_any _ _ hc6).mono ?_; rintro e w2 ⟨rfl, hw⟩; obtain rfl := hw.symm; rw [HL.out]; clear tk1) | (have _t := tk2; go_at_call 39; refine (rdigit_any _ _ hc6).mono ?_; rintro e w2 ⟨rfl, hw⟩; obtain rfl := hw.symm; rw [HD.out]; clear tk2) | (have _t := tk3; go_at_call 36; refine (rat_any s (p + 1) _ (by omega) (by omega)).mono ?_; rintro e w2 ⟨rfl, hw⟩; obtain rfl := hw.symm; rw [HC1.out]; clear tk3) | (go_at_call 36; refine (rat_any s (p + 2) _ (by omega) (by omega)).mono ?_; rintro e w2 ⟨rfl, hw⟩; obtain rfl := hw.symm; rw [HC2.out]) | (go_at_call 37; refine (rletter_any _ _ hc26).mono ?_; rintro e w2 ⟨rfl, hw⟩; obtain rfl := hw.symm; rw [HL2.out]) | (go_at_call 16; refine (bad_any 30 p _).mono ?_; rintro e w4 ⟨rfl, hb4⟩; have E := B0.keep hb4; have f0 := E.t0; have f1 := E.t1; have f2 := E.t2; have f3 := E.t3; have f4 := E.t4; have f5 := E.t5; have f6 := E.t6; have g0 := E.m0; have g1 := E.m1; have hft := E.ft; have hfm := E.fm))
        refine bodyPost_ret (v := .tuple #[.agg #[.int .i64 0, .string ⟨#[]⟩, .bool false, .slice none 0 0, .int .u64 0, .int .i64 0, .int .i64 0], .int .i64 0, .agg #[.int .i64 30, .int .i64 (p : Nat)]]) (by simp [results, Tryz.results18, go_sem, f0, f1, f2, f3, f4, f5, f6, g0, g1]) rfl ?_
        rw [← HR.out]
        exact ResW.bad E 0
      · rw [hl2, if_pos rfl] at h2
        have hlt := let_in (s := s) (i := p + 2) (by rw [hc2]; exact hl2)
        have hk1 := runE_lt (p := isNam) hlt (by rw [hc2]; exact let_nam hl2)
        have hk2 := runE_size (p := isNam) (s := s) (i := p + 2) (by omega)
        obtain ⟨k, hk⟩ : ∃ k, runE isNam s (p + 2) = k := ⟨_, rfl⟩
        rw [hk] at h2 hk1 hk2
        have HK := hid hk
        have HL2 := hid hl2
        have HC2 := hid hc2
        have HR := hid h2
        clear hl2 hk hc hc1 hc2 h2
        go_wp2_with (first | (have _t := tk1; go_at_call 37; refine (rletter_any _ _ hc6).mono ?_; rintro e w2 ⟨rfl, hw⟩; obtain rfl := hw.symm; rw [HL.out]; clear tk1) | (have _t := tk2; go_at_call 39; refine (rdigit_any _ _ hc6).mono ?_; rintro e w2 ⟨rfl, hw⟩; obtain rfl := hw.symm; rw [HD.out]; clear tk2) | (have _t := tk3; go_at_call 36; refine (rat_any s (p + 1) _ (by omega) (by omega)).mono ?_; rintro e w2 ⟨rfl, hw⟩; obtain rfl := hw.symm; rw [HC1.out]; clear tk3) | (go_at_call 36; refine (rat_any s (p + 2) _ (by omega) (by omega)).mono ?_; rintro e w2 ⟨rfl, hw⟩; obtain rfl := hw.symm; rw [HC2.out]) | (go_at_call 37; refine (rletter_any _ _ hc26).mono ?_; rintro e w2 ⟨rfl, hw⟩; obtain rfl := hw.symm; rw [HL2.out]) | (go_at_call 43; refine (rnames_any s (p + 2) _ (by omega) (by omega)).mono ?_; rintro e w2 ⟨rfl, hw⟩; obtain rfl := hw.symm; rw [HK.out]) | (go_at_call 42; refine (rshort_any s p k 3 _ hs (by omega) (by omega)).mono ?_; intro e w2 hO; obtain ⟨x0, x1, x2, x3, x4, x5, x6, x7, x8, xn, u0, u1, rfl, hb, CC⟩ := hO.open; have CC := hid CC; clear hO; have E := B0.keep hb; have f0 := E.t0; have f1 := E.t1; have f2 := E.t2; have f3 := E.t3; have f4 := E.t4; have f5 := E.t5; have f6 := E.t6; have g0 := E.m0; have g1 := E.m1; have hft := E.ft; have hfm := E.fm))
        refine bodyPost_ret (v := .tuple #[.agg #[.int .i64 x0, .string x1, .bool x2, .slice x3 x4 x5, .int .u64 x6, .int .i64 x7, .int .i64 x8], .int .i64 xn, .agg #[.int .i64 u0, .int .i64 u1]]) (by simp [results, Tryz.results18, go_sem, f0, f1, f2, f3, f4, f5, f6, g0, g1]) rfl ?_
        exact HR.out ▸ CC.out w _ (E.put _ _ _ _ _ _ _ _ _) (E.usk _ _ _ _ _ _ _ _ _)
    · rw [if_neg hq] at h2
      have c1n39 : ¬ (c1 : Int) = 39 := by omega
      have c1b39 : ((c1 : Int) == 39) = false := by simp; omega
      have hc26 := hc16
      rw [hc1] at h2
      rcases hl2 : isLet c1 with _ | _
      · rw [hl2, if_neg (by simp)] at h2
        have HL2 := hid hl2
        have HC2 := hid hc1
        have HR := hid h2
        clear hl2 hc hc1 h2
        go_wp2_with (first | (have _t := tk1; go_at_call 37; refine (rletter_any _ _ hc6).mono ?_; rintro e w2 ⟨rfl, hw⟩; obtain rfl := hw.symm; rw [HL.out]; clear tk1) | (have _t := tk2; go_at_call 39; refine (rdigit_any _ _ hc6).mono ?_; rintro e w2 ⟨rfl, hw⟩; obtain rfl := hw.symm; rw [HD.out]; clear tk2) | (go_at_call 36; refine (rat_any s (p + 1) _ (by omega) (by omega)).mono ?_; rintro e w2 ⟨rfl, hw⟩; obtain rfl := hw.symm; rw [HC1.out]) | (go_at_call 37; refine (rletter_any _ _ hc26).mono ?_; rintro e w2 ⟨rfl, hw⟩; obtain rfl := hw.symm; rw [HL2.out]) | (go_at_call 16; refine (bad_any 30 p _).mono ?_; rintro e w4 ⟨rfl, hb4⟩; have E := B0.keep hb4; have f0 := E.t0; have f1 := E.t1; have f2 := E.t2; have f3 := E.t3; have f4 := E.t4; have f5 := E.t5; have f6 := E.t6; have g0 := E.m0; have g1 := E.m1; have hft := E.ft; have hfm := E.fm))
        refine bodyPost_ret (v := .tuple #[.agg #[.int .i64 0, .string ⟨#[]⟩, .bool false, .slice none 0 0, .int .u64 0, .int .i64 0, .int .i64 0], .int .i64 0, .agg #[.int .i64 30, .int .i64 (p : Nat)]]) (by simp [results, Tryz.results18, go_sem, f0, f1, f2, f3, f4, f5, f6, g0, g1]) rfl ?_
        rw [← HR.out]
        exact ResW.bad E 0
      · rw [hl2, if_pos rfl] at h2
        have hlt := let_in (s := s) (i := p + 1) (by rw [hc1]; exact hl2)
        have hk1 := runE_lt (p := isNam) hlt (by rw [hc1]; exact let_nam hl2)
        have hk2 := runE_size (p := isNam) (s := s) (i := p + 1) (by omega)
        obtain ⟨k, hk⟩ : ∃ k, runE isNam s (p + 1) = k := ⟨_, rfl⟩
        rw [hk] at h2 hk1 hk2
        have HK := hid hk
        have HL2 := hid hl2
        have HC2 := hid hc1
        have HR := hid h2
        clear hl2 hk hc hc1 h2
        go_wp2_with (first | (have _t := tk1; go_at_call 37; refine (rletter_any _ _ hc6).mono ?_; rintro e w2 ⟨rfl, hw⟩; obtain rfl := hw.symm; rw [HL.out]; clear tk1) | (have _t := tk2; go_at_call 39; refine (rdigit_any _ _ hc6).mono ?_; rintro e w2 ⟨rfl, hw⟩; obtain rfl := hw.symm; rw [HD.out]; clear tk2) | (go_at_call 36; refine (rat_any s (p + 1) _ (by omega) (by omega)).mono ?_; rintro e w2 ⟨rfl, hw⟩; obtain rfl := hw.symm; rw [HC1.out]) | (go_at_call 37; refine (rletter_any _ _ hc26).mono ?_; rintro e w2 ⟨rfl, hw⟩; obtain rfl := hw.symm; rw [HL2.out]) | (go_at_call 43; refine (rnames_any s (p + 1) _ (by omega) (by omega)).mono ?_; rintro e w2 ⟨rfl, hw⟩; obtain rfl := hw.symm; rw [HK.out]) | (go_at_call 42; refine (rshort_any s p k 3 _ hs (by omega) (by omega)).mono ?_; intro e w2 hO; obtain ⟨x0, x1, x2, x3, x4, x5, x6, x7, x8, xn, u0, u1, rfl, hb, CC⟩ := hO.open; have CC := hid CC; clear hO; have E := B0.keep hb; have f0 := E.t0; have f1 := E.t1; have f2 := E.t2; have f3 := E.t3; have f4 := E.t4; have f5 := E.t5; have f6 := E.t6; have g0 := E.m0; have g1 := E.m1; have hft := E.ft; have hfm := E.fm))
        refine bodyPost_ret (v := .tuple #[.agg #[.int .i64 x0, .string x1, .bool x2, .slice x3 x4 x5, .int .u64 x6, .int .i64 x7, .int .i64 x8], .int .i64 xn, .agg #[.int .i64 u0, .int .i64 u1]]) (by simp [results, Tryz.results18, go_sem, f0, f1, f2, f3, f4, f5, f6, g0, g1]) rfl ?_
        exact HR.out ▸ CC.out w _ (E.put _ _ _ _ _ _ _ _ _) (E.usk _ _ _ _ _ _ _ _ _)
  rw [if_neg h39] at h2
  have cn39 : ¬ (c : Int) = 39 := by omega
  have cb39 : ((c : Int) == 39) = false := by simp; omega
  by_cases he35 : c = 35
  · subst he35
    have h134 : ¬ c1 = 34 := fun e => h35 ⟨rfl, e⟩
    have c1n34 : ¬ (c1 : Int) = 34 := by omega
    have c1b34 : ((c1 : Int) == 34) = false := by simp; omega
    rw [if_neg (by decide), if_pos (by decide)] at h2
    clear h35
    have hsyc : isSym (bt s p) = true := by rw [hc]; decide
    have HSYC : Hid (isSym 35 = true) := hid (by decide)
    have hk1 := runE_lt (p := isSym) hp hsyc
    have hk2 := runE_size (p := isSym) (s := s) (i := p) (by omega)
    obtain ⟨k, hk⟩ : ∃ k, runE isSym s p = k := ⟨_, rfl⟩
    rw [hk] at h2 hk1 hk2
    have HK := hid hk
    clear hsyc hk hc hc1
    rcases hrs : rsv (sub s p k) with _ | _
    all_goals
      rw [hrs] at h2
      have HRS := hid hrs
      have HR := hid h2
      clear h2 hrs
      go_wp2_with (first | (have _t := tk1; go_at_call 37; refine (rletter_any _ _ hc6).mono ?_; rintro e w2 ⟨rfl, hw⟩; obtain rfl := hw.symm; rw [HL.out]; clear tk1) | (have _t := tk2; go_at_call 39; refine (rdigit_any _ _ hc6).mono ?_; rintro e w2 ⟨rfl, hw⟩; obtain rfl := hw.symm; rw [HD.out]; clear tk2) | (go_at_call 36; refine (rat_any s (p + 1) _ (by omega) (by omega)).mono ?_; rintro e w2 ⟨rfl, hw⟩; obtain rfl := hw.symm; rw [HC1.out]) | (go_at_call 44; refine (rone_any _ _ (by omega)).mono ?_; rintro e w2 ⟨rfl, hw⟩; obtain rfl := hw.symm; rw [show isOne 35 = false by decide]) | (have _t := tk3; go_at_call 45; refine (rsym_any _ _ (by omega)).mono ?_; rintro e w2 ⟨rfl, hw⟩; obtain rfl := hw.symm; rw [HSYC.out]; clear tk3))
      go_loopw [15] (fun iv wr => wr = W1 ∧ ∃ q : Nat, iv = .int .i64 (q : Nat) ∧ p ≤ q ∧ q ≤ s.size ∧ Hid (runE isSym s q = k)) (fun iv _ => s.size - (intOf iv).toNat)
      case atStart => exact ⟨rfl, p, rfl, Nat.le_refl _, by omega, HK⟩
      case round =>
        obtain ⟨hw, q, rfl, hpq, hq, HN⟩ := hrel
        obtain rfl := hw.symm
        have HU := runE_unfold (p := isSym) (s := s) hq
        by_cases hlt : q < s.size
        rotate_left 1
        · have hqe : q = s.size := by omega
          have hqk : q = k := by rw [← HN.out, HU, if_neg (by omega)]
          have hni : ¬ (q : Int) < (s.size : Int) := by omega
          subst hqk
          clear HU hqe hlt
          go_wp2_with (first | (go_at_call 12; rw [ext_sub s p q]; refine (rreserved_any (sub s p q) _).mono ?_; rintro e w2 ⟨rfl, hw⟩; obtain rfl := hw.symm; rw [HRS.out]) | (go_at_call 42; refine (rshort_any s p q _ _ hs (by omega) (by omega)).mono ?_; intro e w2 hO; obtain ⟨x0, x1, x2, x3, x4, x5, x6, x7, x8, xn, u0, u1, rfl, hb, CC⟩ := hO.open; have CC := hid CC; clear hO; have E := B0.keep hb; have f0 := E.t0; have f1 := E.t1; have f2 := E.t2; have f3 := E.t3; have f4 := E.t4; have f5 := E.t5; have f6 := E.t6; have g0 := E.m0; have g1 := E.m1; have hft := E.ft; have hfm := E.fm))
          refine bodyPost_ret (v := .tuple #[.agg #[.int .i64 x0, .string x1, .bool x2, .slice x3 x4 x5, .int .u64 x6, .int .i64 x7, .int .i64 x8], .int .i64 xn, .agg #[.int .i64 u0, .int .i64 u1]]) (by simp [results, Tryz.results18, go_sem, f0, f1, f2, f3, f4, f5, f6, g0, g1]) rfl ?_
          exact HR.out ▸ CC.out w _ (E.put _ _ _ _ _ _ _ _ _) (E.usk _ _ _ _ _ _ _ _ _)
        have hlti : (q : Int) < (s.size : Int) := by omega
        have hixq : ∀ w, (Instr.index 9 (.string s) (.int .i64 (q : Int))).run Tryz.prog w = .ok (.int .u8 (bt s q : Nat)) w := fun w => run_bt Tryz.underlying9 hlt rfl
        obtain ⟨c2, hc2⟩ : ∃ c2, bt s q = c2 := ⟨_, rfl⟩
        have hc26 : c2 < 256 := hc2 ▸ bt_lt s _
        rw [hc2] at hixq HU
        clear hc2
        rcases hs2 : isSym c2 with _ | _
        · have hqk : q = k := by rw [← HN.out, HU, if_neg (by rw [hs2]; simp)]
          have HS2 := hid hs2
          subst hqk
          clear HU hs2
          go_wp2_with (first | (go_at_call 45; refine (rsym_any _ _ hc26).mono ?_; rintro e w2 ⟨rfl, hw⟩; obtain rfl := hw.symm; rw [HS2.out]) | (go_at_call 12; rw [ext_sub s p q]; refine (rreserved_any (sub s p q) _).mono ?_; rintro e w2 ⟨rfl, hw⟩; obtain rfl := hw.symm; rw [HRS.out]) | (go_at_call 42; refine (rshort_any s p q _ _ hs (by omega) (by omega)).mono ?_; intro e w2 hO; obtain ⟨x0, x1, x2, x3, x4, x5, x6, x7, x8, xn, u0, u1, rfl, hb, CC⟩ := hO.open; have CC := hid CC; clear hO; have E := B0.keep hb; have f0 := E.t0; have f1 := E.t1; have f2 := E.t2; have f3 := E.t3; have f4 := E.t4; have f5 := E.t5; have f6 := E.t6; have g0 := E.m0; have g1 := E.m1; have hft := E.ft; have hfm := E.fm))
          refine bodyPost_ret (v := .tuple #[.agg #[.int .i64 x0, .string x1, .bool x2, .slice x3 x4 x5, .int .u64 x6, .int .i64 x7, .int .i64 x8], .int .i64 xn, .agg #[.int .i64 u0, .int .i64 u1]]) (by simp [results, Tryz.results18, go_sem, f0, f1, f2, f3, f4, f5, f6, g0, g1]) rfl ?_
          exact HR.out ▸ CC.out w _ (E.put _ _ _ _ _ _ _ _ _) (E.usk _ _ _ _ _ _ _ _ _)
        · have HS2 := hid hs2
          rw [if_pos ⟨hlt, hs2⟩, HN.out] at HU
          have HN2 := hid HU.symm
          clear HU hs2
          go_wp2_with (go_at_call 45; refine (rsym_any _ _ hc26).mono ?_; rintro e w2 ⟨rfl, hw⟩; obtain rfl := hw.symm; rw [HS2.out])
          exact ⟨⟨trivial, q + 1, rfl, by omega, by omega, HN2⟩, by simp [intOf]; omega⟩
  have cn35 : ¬ (c : Int) = 35 := by omega
  have cb35 : ((c : Int) == 35) = false := by simp; omega
  clear h35
  rcases ho : isOne c with _ | _
  rotate_left 1
  · rw [ho, if_pos rfl] at h2
    have HON := hid ho
    have HR := hid h2
    clear h2 ho hc hc1
    have E := B0
    have f0 := E.t0
    have f1 := E.t1
    have f2 := E.t2
    have f3 := E.t3
    have f4 := E.t4
    have f5 := E.t5
    have f6 := E.t6
    have g0 := E.m0
    have g1 := E.m1
    have hft := E.ft
    have hfm := E.fm
    go_wp2_with (first | (have _t := tk1; go_at_call 37; refine (rletter_any _ _ hc6).mono ?_; rintro e w2 ⟨rfl, hw⟩; obtain rfl := hw.symm; rw [HL.out]; clear tk1) | (have _t := tk2; go_at_call 39; refine (rdigit_any _ _ hc6).mono ?_; rintro e w2 ⟨rfl, hw⟩; obtain rfl := hw.symm; rw [HD.out]; clear tk2) | (go_at_call 44; refine (rone_any _ _ hc6).mono ?_; rintro e w2 ⟨rfl, hw⟩; obtain rfl := hw.symm; rw [HON.out]))
    refine bodyPost_ret (v := .tuple #[.agg #[.int .i64 8, .string (s.extract p (p + 1)), .bool false, .slice none 0 0, .int .u64 0, .int .i64 0, .int .i64 0], .int .i64 ((p : Int) + 1), .agg #[.int .i64 0, .int .i64 0]]) (by simp [results, Tryz.results18, go_sem, f0, f1, f2, f3, f4, f5, f6, g0, g1]) rfl ?_
    rw [← HR.out]
    exact ResW.fin0 E (Mg.zero _) (ext_sub _ _ _) (by omega)
  rw [ho, if_neg (by simp)] at h2
  have HON := hid ho
  clear ho
  rcases hsy : isSym c with _ | _
  · rw [hsy, if_neg (by simp)] at h2
    have HSY := hid hsy
    have HR := hid h2
    clear h2 hsy hc hc1
    go_wp2_with (first | (have _t := tk1; go_at_call 37; refine (rletter_any _ _ hc6).mono ?_; rintro e w2 ⟨rfl, hw⟩; obtain rfl := hw.symm; rw [HL.out]; clear tk1) | (have _t := tk2; go_at_call 39; refine (rdigit_any _ _ hc6).mono ?_; rintro e w2 ⟨rfl, hw⟩; obtain rfl := hw.symm; rw [HD.out]; clear tk2) | (go_at_call 44; refine (rone_any _ _ hc6).mono ?_; rintro e w2 ⟨rfl, hw⟩; obtain rfl := hw.symm; rw [HON.out]) | (go_at_call 45; refine (rsym_any _ _ hc6).mono ?_; rintro e w2 ⟨rfl, hw⟩; obtain rfl := hw.symm; rw [HSY.out]) | (go_at_call 16; refine (bad_any 30 p _).mono ?_; rintro e w4 ⟨rfl, hb4⟩; have E := B0.keep hb4; have f0 := E.t0; have f1 := E.t1; have f2 := E.t2; have f3 := E.t3; have f4 := E.t4; have f5 := E.t5; have f6 := E.t6; have g0 := E.m0; have g1 := E.m1; have hft := E.ft; have hfm := E.fm))
    refine bodyPost_ret (v := .tuple #[.agg #[.int .i64 0, .string ⟨#[]⟩, .bool false, .slice none 0 0, .int .u64 0, .int .i64 0, .int .i64 0], .int .i64 0, .agg #[.int .i64 30, .int .i64 (p : Nat)]]) (by simp [results, Tryz.results18, go_sem, f0, f1, f2, f3, f4, f5, f6, g0, g1]) rfl ?_
    rw [← HR.out]
    exact ResW.bad E 0
  rw [hsy, if_pos rfl] at h2
  have hsyc : isSym (bt s p) = true := by rw [hc]; exact hsy
  have HSYC : Hid (isSym c = true) := hid (by exact hsy)
  have hk1 := runE_lt (p := isSym) hp hsyc
  have hk2 := runE_size (p := isSym) (s := s) (i := p) (by omega)
  obtain ⟨k, hk⟩ : ∃ k, runE isSym s p = k := ⟨_, rfl⟩
  rw [hk] at h2 hk1 hk2
  have HK := hid hk
  clear hsyc hk hc hc1
  rcases hrs : rsv (sub s p k) with _ | _
  all_goals
    rw [hrs] at h2
    have HRS := hid hrs
    have HR := hid h2
    clear h2 hrs
    go_wp2_with (first | (have _t := tk1; go_at_call 37; refine (rletter_any _ _ hc6).mono ?_; rintro e w2 ⟨rfl, hw⟩; obtain rfl := hw.symm; rw [HL.out]; clear tk1) | (have _t := tk2; go_at_call 39; refine (rdigit_any _ _ hc6).mono ?_; rintro e w2 ⟨rfl, hw⟩; obtain rfl := hw.symm; rw [HD.out]; clear tk2) | (go_at_call 44; refine (rone_any _ _ hc6).mono ?_; rintro e w2 ⟨rfl, hw⟩; obtain rfl := hw.symm; rw [HON.out]) | (have _t := tk3; go_at_call 45; refine (rsym_any _ _ (by omega)).mono ?_; rintro e w2 ⟨rfl, hw⟩; obtain rfl := hw.symm; rw [HSYC.out]; clear tk3))
    go_loopw [15] (fun iv wr => wr = W1 ∧ ∃ q : Nat, iv = .int .i64 (q : Nat) ∧ p ≤ q ∧ q ≤ s.size ∧ Hid (runE isSym s q = k)) (fun iv _ => s.size - (intOf iv).toNat)
    case atStart => exact ⟨rfl, p, rfl, Nat.le_refl _, by omega, HK⟩
    case round =>
      obtain ⟨hw, q, rfl, hpq, hq, HN⟩ := hrel
      obtain rfl := hw.symm
      have HU := runE_unfold (p := isSym) (s := s) hq
      by_cases hlt : q < s.size
      rotate_left 1
      · have hqe : q = s.size := by omega
        have hqk : q = k := by rw [← HN.out, HU, if_neg (by omega)]
        have hni : ¬ (q : Int) < (s.size : Int) := by omega
        subst hqk
        clear HU hqe hlt
        go_wp2_with (first | (go_at_call 12; rw [ext_sub s p q]; refine (rreserved_any (sub s p q) _).mono ?_; rintro e w2 ⟨rfl, hw⟩; obtain rfl := hw.symm; rw [HRS.out]) | (go_at_call 42; refine (rshort_any s p q _ _ hs (by omega) (by omega)).mono ?_; intro e w2 hO; obtain ⟨x0, x1, x2, x3, x4, x5, x6, x7, x8, xn, u0, u1, rfl, hb, CC⟩ := hO.open; have CC := hid CC; clear hO; have E := B0.keep hb; have f0 := E.t0; have f1 := E.t1; have f2 := E.t2; have f3 := E.t3; have f4 := E.t4; have f5 := E.t5; have f6 := E.t6; have g0 := E.m0; have g1 := E.m1; have hft := E.ft; have hfm := E.fm))
        refine bodyPost_ret (v := .tuple #[.agg #[.int .i64 x0, .string x1, .bool x2, .slice x3 x4 x5, .int .u64 x6, .int .i64 x7, .int .i64 x8], .int .i64 xn, .agg #[.int .i64 u0, .int .i64 u1]]) (by simp [results, Tryz.results18, go_sem, f0, f1, f2, f3, f4, f5, f6, g0, g1]) rfl ?_
        exact HR.out ▸ CC.out w _ (E.put _ _ _ _ _ _ _ _ _) (E.usk _ _ _ _ _ _ _ _ _)
      have hlti : (q : Int) < (s.size : Int) := by omega
      have hixq : ∀ w, (Instr.index 9 (.string s) (.int .i64 (q : Int))).run Tryz.prog w = .ok (.int .u8 (bt s q : Nat)) w := fun w => run_bt Tryz.underlying9 hlt rfl
      obtain ⟨c2, hc2⟩ : ∃ c2, bt s q = c2 := ⟨_, rfl⟩
      have hc26 : c2 < 256 := hc2 ▸ bt_lt s _
      rw [hc2] at hixq HU
      clear hc2
      rcases hs2 : isSym c2 with _ | _
      · have hqk : q = k := by rw [← HN.out, HU, if_neg (by rw [hs2]; simp)]
        have HS2 := hid hs2
        subst hqk
        clear HU hs2
        go_wp2_with (first | (go_at_call 45; refine (rsym_any _ _ hc26).mono ?_; rintro e w2 ⟨rfl, hw⟩; obtain rfl := hw.symm; rw [HS2.out]) | (go_at_call 12; rw [ext_sub s p q]; refine (rreserved_any (sub s p q) _).mono ?_; rintro e w2 ⟨rfl, hw⟩; obtain rfl := hw.symm; rw [HRS.out]) | (go_at_call 42; refine (rshort_any s p q _ _ hs (by omega) (by omega)).mono ?_; intro e w2 hO; obtain ⟨x0, x1, x2, x3, x4, x5, x6, x7, x8, xn, u0, u1, rfl, hb, CC⟩ := hO.open; have CC := hid CC; clear hO; have E := B0.keep hb; have f0 := E.t0; have f1 := E.t1; have f2 := E.t2; have f3 := E.t3; have f4 := E.t4; have f5 := E.t5; have f6 := E.t6; have g0 := E.m0; have g1 := E.m1; have hft := E.ft; have hfm := E.fm))
        refine bodyPost_ret (v := .tuple #[.agg #[.int .i64 x0, .string x1, .bool x2, .slice x3 x4 x5, .int .u64 x6, .int .i64 x7, .int .i64 x8], .int .i64 xn, .agg #[.int .i64 u0, .int .i64 u1]]) (by simp [results, Tryz.results18, go_sem, f0, f1, f2, f3, f4, f5, f6, g0, g1]) rfl ?_
        exact HR.out ▸ CC.out w _ (E.put _ _ _ _ _ _ _ _ _) (E.usk _ _ _ _ _ _ _ _ _)
      · have HS2 := hid hs2
        rw [if_pos ⟨hlt, hs2⟩, HN.out] at HU
        have HN2 := hid HU.symm
        clear HU hs2
        go_wp2_with (go_at_call 45; refine (rsym_any _ _ hc26).mono ?_; rintro e w2 ⟨rfl, hw⟩; obtain rfl := hw.symm; rw [HS2.out])
        exact ⟨⟨trivial, q + 1, rfl, by omega, by omega, HN2⟩, by simp [intOf]; omega⟩
end Go.Proofs.YtajpeeccomgnnaaGreatDoor
