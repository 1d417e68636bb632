/-
  word, walked.
-/
import Derived.Test.YtkblonfmjlopaaaGreatDoorLxNumP
import Derived.Test.YtkblonfmjlopaaaGreatDoorLxPush
set_option linter.all false
set_option maxRecDepth 1000000
set_option maxHeartbeats 16000000
namespace Go.Proofs.YtkblonfmjlopaaaGreatDoor
open Go Go.RowKit
theorem quo_ok (s : ByteArray) : ∀ m k out x k', quoS s m k out = .ok (x, k') → k < k' ∧ k' ≤ s.size := by
  intro m
  induction m with
  | zero => intro k out x k' h; simp [quoS] at h
  | succ m ih =>
    intro k out x k' h; unfold quoS at h
    split at h
    · cases h
    · split at h
      · simp only [Except.ok.injEq, Prod.mk.injEq] at h; omega
      · split at h
        · cases h
        · split at h
          · have := ih _ _ _ _ h; omega
          · split at h
            · cases h
            · have := ih _ _ _ _ h; omega
theorem quo_err (s : ByteArray) : ∀ m k out c q, quoS s m k out = .error (c, q) → c = 31 ∨ c = 32 := by
  intro m
  induction m with
  | zero => intro k out c q h; simp [quoS] at h; omega
  | succ m ih =>
    intro k out c q h; unfold quoS at h
    split at h
    · simp only [Except.error.injEq, Prod.mk.injEq] at h; omega
    · split at h
      · cases h
      · split at h
        · simp only [Except.error.injEq, Prod.mk.injEq] at h; omega
        · split at h
          · exact ih _ _ _ _ h
          · split at h
            · simp only [Except.error.injEq, Prod.mk.injEq] at h; omega
            · exact ih _ _ _ _ h
theorem one_str {x : List UInt8} {y : UInt8} (h : x = [y]) : ∀ w, (Instr.index 9 (.string ⟨x.toArray⟩) (.int .i64 0)).run Tryz.prog w = .ok (.int .u8 (y.toNat : Nat)) w := by
  subst h; intro w; have := run_bt (t := 9) (w := w) (s := ⟨#[y]⟩) (k := .i64) (z := 0) (i := 0) Tryz.underlying9 (by show 0 < 1; decide) rfl; exact this
theorem word_any (F : List UInt8 → Nat) (b : Nat) (s : ByteArray) (p : Nat) (ts : List Tok) (base : Nat) (m : Int) (w : World) (hs : s.size ≤ 65536) (hp : p < s.size) (h : St w b s p ts base) (hbw : base ≤ w.heap.size) (hb1 : 3 < base) (hm : w.cell? ⟨3, 0, none⟩ = some (.int .i64 m)) (hF : PFs F base w s) :
    Calls Tryz.prog 18 #[.pointer (some ⟨b, 0, none⟩)] w fun e w' => Out w w' b s ts base e (wordS F s p) := by
  obtain ⟨R, HE⟩ : ∃ R, Hid (wordS F s p = R) := ⟨_, hid rfl⟩; rw [HE.out]; have hb := h.base; have h0 := h; have HF := hid hF; clear hF; obtain ⟨la, lc, h1, h2, h3, h4, h5, h6⟩ := h; have s0 := h1.c0; have s1 := h1.c1; have s3 := h1.c3; clear h2 h3 h5; obtain ⟨c, hc⟩ : ∃ c, bt s (p + 0) = c := ⟨_, rfl⟩; have hc6 : c < 256 := hc ▸ bt_lt s _; have HC := hid hc; have HU : Hid (wordS F s p = R) := HE; have h2 := HE.out; unfold wordS at h2; simp only [show bt s p = c from hc] at h2; clear HE HU; have tk1 : True := trivial; have tk2 : True := trivial; have tk3 : True := trivial; have tk4 : True := trivial; have tk5 : True := trivial; have hout : ∀ (w' : World) (e : Ending) (q : Nat), Out (w.drewN q) w' b s ts base e R → Out w w' b s ts base e R := fun _ _ _ o => Out.drewN o; have HO := hid hout
  have hfail : ∀ (w' : World) (la' : Option Addr) (ln' lc' cc qq q : Nat), R = .error (cc, qq) → Sc w' b s p la' ln' lc' (cc : Nat) (qq : Nat) → Below base (w.drewN q) w' → UsK (w.drewN q) w' → Out w w' b s ts base (.returned (.tuple #[])) R := fun w' la' ln' lc' cc qq q hR f1 f2 f3 => by
    rw [hR]; exact ⟨rfl, (below_drewB w _).trans f2, (UsK.below (drewN_below w _)).trans f3, p, _, _, _, f1⟩
  have HFL := hid hfail; clear hout hfail; have hm2 : ∀ q, (w.drewN q).cell? ⟨3, 0, none⟩ = some (.int .i64 m) := fun q => mx_drew hm q; have HM := hid hm2; clear hm2
  rcases hl : isLet c with _ | _
  rotate_left 1
  · rw [hl, if_pos rfl] at h2; have HL := hid hl; have HR := hid h2; have HLET := hid (show isLet (bt s p) = true from hc ▸ hl); clear h2 hl hc; go_enter Tryz.func18, Tryz.ntmps18
    go_wp2_with (first | (have _t := tk1; go_at_call 47; refine (peek_any b s p 0 la ts.length lc 0 0 _ (by omega) (by omega) (by omega) h1).mono ?_; rintro e w1 ⟨rfl, q1, rfl⟩; rw [HC.out]; clear tk1) | (go_at_call 49; refine (letter_any _ _ hc6).mono ?_; rintro e w1 ⟨rfl, rfl⟩; rw [HL.out]) | (go_at_call 50; refine (name_any b s p ts base m _ hs HLET.out (h0.drewN _) (by simpa using hbw) hb1 (HM.out _)).mono ?_; rintro e w1 hO; obtain rfl := hO.1; have HX := hid hO; clear hO))
    go_end0; exact HO.out _ _ _ (HR.out ▸ HX.out)
  rw [hl, if_neg (by simp)] at h2; have HL := hid hl; clear hl
  by_cases hdg : isDig c = true
  · rw [if_pos (Or.inl hdg)] at h2; have HD := hid hdg; have HDD := hid (show isDig (bt s p) = true from hc ▸ hdg); have HR := hid h2; clear h2 hdg hc; go_enter Tryz.func18, Tryz.ntmps18
    go_wp2_with (first | (have _t := tk1; go_at_call 47; refine (peek_any b s p 0 la ts.length lc 0 0 _ (by omega) (by omega) (by omega) h1).mono ?_; rintro e w1 ⟨rfl, q1, rfl⟩; rw [HC.out]; clear tk1) | (go_at_call 49; refine (letter_any _ _ hc6).mono ?_; rintro e w1 ⟨rfl, rfl⟩; rw [HL.out]) | (have _t := tk2; go_at_call 51; refine (digit_any _ _ hc6).mono ?_; rintro e w1 ⟨rfl, rfl⟩; rw [HD.out]; clear tk2) | (go_at_call 52; refine (number_any F b s p ts base m _ hs (Or.inl HDD.out) (h0.drewN _) (by simpa using hbw) hb1 (HM.out _) (fun i hi h1 h2 wx hx => HF.out i hi h1 h2 wx ((below_drewB w _).trans hx))).mono ?_; rintro e w1 hO; obtain rfl := hO.1; have HX := hid hO; clear hO))
    go_end0; exact HO.out _ _ _ (HR.out ▸ HX.out)
  have hdg' : isDig c = false := by simpa using hdg
  have HD := hid hdg'; obtain ⟨c1, hc1⟩ : ∃ c1, bt s (p + 1) = c1 := ⟨_, rfl⟩; have hc16 : c1 < 256 := hc1 ▸ bt_lt s _; have HC1 := hid hc1; rw [hc1] at h2
  by_cases ht : c = 126 ∧ isDig c1 = true
  · rw [if_pos (Or.inr ht)] at h2; obtain ⟨rfl, ht⟩ := ht; have HT := hid ht; have HDD := hid (show bt s p = 126 ∧ isDig (bt s (p + 1)) = true from ⟨hc, hc1 ▸ ht⟩); have HR := hid h2; clear h2 hdg hc ht hc1 hdg'; go_enter Tryz.func18, Tryz.ntmps18
    go_wp2_with (first | (have _t := tk1; go_at_call 47; refine (peek_any b s p 0 la ts.length lc 0 0 _ (by omega) (by omega) (by omega) h1).mono ?_; rintro e w1 ⟨rfl, q1, rfl⟩; rw [HC.out]; clear tk1) | (go_at_call 49; refine (letter_any _ _ hc6).mono ?_; rintro e w1 ⟨rfl, rfl⟩; rw [HL.out]) | (have _t := tk2; go_at_call 51; refine (digit_any _ _ hc6).mono ?_; rintro e w1 ⟨rfl, rfl⟩; rw [HD.out]; clear tk2) | (have _t := tk3; go_at_call 47; refine (peek_any b s p 1 la ts.length lc 0 0 _ (by omega) (by omega) (by omega) (h1.drewN _)).mono ?_; rintro e w1 ⟨rfl, _, rfl⟩; rw [HC1.out]; clear tk3) | (go_at_call 51; refine (digit_any _ _ hc16).mono ?_; rintro e w1 ⟨rfl, rfl⟩; rw [HT.out]) | (go_at_call 52; refine (number_any F b s p ts base m _ hs (Or.inr HDD.out) (h0.drewN _) (by simpa using hbw) hb1 (HM.out _) (fun i hi h1 h2 wx hx => HF.out i hi h1 h2 wx ((below_drewB w _).trans hx))).mono ?_; rintro e w1 hO; obtain rfl := hO.1; have HX := hid hO; clear hO))
    go_end0; exact HO.out _ _ _ (HR.out ▸ HX.out)
  rw [if_neg (by rintro (h | h); exact hdg h; exact ht h)] at h2; clear hdg hdg'
  -- the other words: the tests on '~' ahead of them
  by_cases htl : c = 126
  · subst htl; have hT : isDig c1 = false := by simpa using fun e => ht ⟨rfl, e⟩
    have HT := hid hT; rw [if_neg (by omega), if_neg (by omega), if_neg (by omega), if_neg (by decide), if_pos (by decide)] at h2; have hsyc : isSym (bt s p) = true := by rw [show bt s p = _ from hc]; decide
    have hk1 := runE_lt (p := isSym) hp hsyc; have hk2 := runE_size (p := isSym) (s := s) (i := p) (by omega); obtain ⟨k, hk⟩ : ∃ k, runE isSym s (p + 0) = k := ⟨_, rfl⟩; rw [show runE isSym s p = k from hk] at h2 hk1 hk2; have hlen := sub_len (s := s) (i := p) (k := k) (by omega) hk2; have HK := hid hk; have hpk : p + (k - p) = k := by omega
    clear hsyc hk hc hc1
    rcases hrs : rsv (sub s p k) with _ | _
    all_goals
      rw [hrs] at h2; have HRS := hid hrs; have HR := hid h2; clear h2 hrs; go_enter Tryz.func18, Tryz.ntmps18
      go_wp2_with (first | (have _t := tk1; go_at_call 47; refine (peek_any b s p 0 la ts.length lc 0 0 _ (by omega) (by omega) (by omega) h1).mono ?_; rintro e w1 ⟨rfl, q1, rfl⟩; rw [HC.out]; clear tk1) | (go_at_call 49; refine (letter_any _ _ hc6).mono ?_; rintro e w1 ⟨rfl, rfl⟩; rw [HL.out]) | (have _t := tk2; go_at_call 51; refine (digit_any _ _ hc6).mono ?_; rintro e w1 ⟨rfl, rfl⟩; rw [HD.out]; clear tk2) | (have _t := tk3; go_at_call 47; refine (peek_any b s p 1 la ts.length lc 0 0 _ (by omega) (by omega) (by omega) (h1.drewN _)).mono ?_; rintro e w1 ⟨rfl, _, rfl⟩; rw [HC1.out]; clear tk3) | (go_at_call 51; refine (digit_any _ _ hc16).mono ?_; rintro e w1 ⟨rfl, rfl⟩; rw [HT.out]) | (have _t := tk4; go_at_call 57; refine (Tryz.strings_IndexByte ⟨oneL.toArray⟩ 126 _).mono ?_; rintro e w1 ⟨rfl, rfl⟩; clear tk4) | (go_at_call 57; refine (Tryz.strings_IndexByte ⟨symL.toArray⟩ 126 _).mono ?_; rintro e w1 ⟨rfl, rfl⟩) | (go_at_call 55; refine (while_sy b s p 0 la ts.length lc 0 0 _ (by omega) (by omega) (h1.drewN _)).mono ?_; rintro e w1 ⟨rfl, _, rfl⟩; rw [HK.out]) | (go_at_call 60; refine (reserved_any (sub s p k) m _ (HM.out _) (by omega)).mono ?_; rintro e w1 ⟨rfl, rfl⟩; rw [HRS.out]) | (go_at_call 54; refine (x_short_any b s p (k - p) _ ts base _ hs (by omega) (by omega) (h0.drewN _) (by simpa using hbw)).mono ?_; rintro e w1 hO; obtain rfl := hO.1; have HX := hid hO; clear hO))
      go_end0; have h := HX.out; rw [hpk] at h; exact HO.out _ _ _ (HR.out ▸ h)
  have cn126 : ¬ (c : Int) = 126 := by omega
  have cb126 : ((c : Int) == 126) = false := by simp; omega
  clear ht
  by_cases h34 : c = 34
  · subst h34; rw [if_pos rfl] at h2; obtain ⟨Q, hQ⟩ : ∃ Q, quotedS s (p + 0) = Q := ⟨_, rfl⟩; rw [show quotedS s p = Q from hQ] at h2; clear hc hc1; have HQ := hid hQ
    rcases Q with ⟨cc, qq⟩ | ⟨x, k⟩
    · simp only at h2; have hcc := quo_err s _ _ _ _ _ hQ; clear hQ; go_enter Tryz.func18, Tryz.ntmps18
      rcases hcc with rfl | rfl
      all_goals
        go_wp2_with (first | (have _t := tk1; go_at_call 47; refine (peek_any b s p 0 la ts.length lc 0 0 _ (by omega) (by omega) (by omega) h1).mono ?_; rintro e w1 ⟨rfl, q1, rfl⟩; rw [HC.out]; clear tk1) | (go_at_call 49; refine (letter_any _ _ hc6).mono ?_; rintro e w1 ⟨rfl, rfl⟩; rw [HL.out]) | (have _t := tk2; go_at_call 51; refine (digit_any _ _ hc6).mono ?_; rintro e w1 ⟨rfl, rfl⟩; rw [HD.out]; clear tk2) | (go_at_call 53; refine (quoted_any b s p 0 ts base _ hs (by omega) (h0.drewN _) (by simpa using hbw)).mono ?_; intro e w1 hQ; rw [HQ.out] at hQ; obtain ⟨qb, qu, rfl, la1, ln1, lc1, g1⟩ := hQ; have g13 := g1.c3))
        go_end0; exact HFL.out _ _ _ _ _ _ _ h2.symm g1 qb qu
    · simp only at h2; have hk := quo_ok s _ _ _ _ _ hQ; clear hQ; have HR := hid h2; clear h2; go_enter Tryz.func18, Tryz.ntmps18
      go_wp2_with (first | (have _t := tk1; go_at_call 47; refine (peek_any b s p 0 la ts.length lc 0 0 _ (by omega) (by omega) (by omega) h1).mono ?_; rintro e w1 ⟨rfl, q1, rfl⟩; rw [HC.out]; clear tk1) | (go_at_call 49; refine (letter_any _ _ hc6).mono ?_; rintro e w1 ⟨rfl, rfl⟩; rw [HL.out]) | (have _t := tk2; go_at_call 51; refine (digit_any _ _ hc6).mono ?_; rintro e w1 ⟨rfl, rfl⟩; rw [HD.out]; clear tk2) | (go_at_call 53; refine (quoted_any b s p 0 ts base _ hs (by omega) (h0.drewN _) (by simpa using hbw)).mono ?_; intro e w1 hQ; rw [HQ.out] at hQ; obtain ⟨qb0, qu0, rfl, q3⟩ := hQ; have qb := hid ((below_drewB w _).trans qb0); have qu := hid ((UsK.below (drewN_below w _)).trans qu0); clear qb0 qu0; obtain ⟨la1, lc1, g1, g2, g3, g4, g5, g6⟩ := q3; have g10 := g1.c0; have g11 := g1.c1; have g13 := g1.c3; have hsw := qb.out.size))
      have hbb := g1.lt; have x2 := g1.c2; have x1 := g1.c1; obtain ⟨hh, hA, _, hz0, htk⟩ := g2; refine region_T (S := fun wx => wx.cell? ⟨b, 2, none⟩ = some (.slice la1 ts.length lc1) ∧ wx.cell? ⟨b, 1, none⟩ = some (.int .i64 (p : Nat))) (T := fun j => j == 15) (by kernel_rfl) ?_; have hS0 := And.intro x2 x1; refine tq 0 hS0 ?_; refine tq 1 hS0 ?_; refine tq 2 hS0 ?_; refine tq 3 hS0 ?_; refine tq 4 hS0 ?_; refine tq 5 hS0 ?_; refine tq 6 hS0 ?_; refine tq 7 hS0 ?_; refine tq 8 hS0 ?_; refine tq 9 hS0 ?_; refine tq 10 hS0 ?_; refine on1 11 fun K hK => ?_; go_simp; have hgN := tokV_new w1 ⟨7, x, 0, 0, 0, p⟩ false none 0 0 75; have hal : Below w1.heap.size w1 (w1.alloc (.cells (tokV ⟨7, x, 0, 0, 0, p⟩ false none 0 0) 75)).drew := (below_alloc _ _).drew; have hsz2 : (w1.alloc (.cells (tokV ⟨7, x, 0, 0, 0, p⟩ false none 0 0) 75)).drew.heap.size = w1.heap.size + 1 := by simp
      have y2 := (hal.cell (p := ⟨b, 2, none⟩) hbb).trans x2; have y1 := (hal.cell (p := ⟨b, 1, none⟩) hbb).trans x1; refine hK.out _ (w1.alloc (.cells (tokV ⟨7, x, 0, 0, 0, p⟩ false none 0 0) 75)).drew (fun _ => ⟨y2, y1⟩) ?_; clear hK K; generalize (w1.alloc (.cells (tokV ⟨7, x, 0, 0, 0, p⟩ false none 0 0) 75)).drew = W2 at hgN hal hsz2 y2 y1 ⊢; have G1 := g1.below hal
      have A2 : ArrS W2 la1 ts.length lc1 7 hh := ⟨hA.le, hA.mx, fun j hj => by
        obtain ⟨x, off, e, hc⟩ := hA.cell j hj
        exact ⟨x, off, e, (hal.cell (p := ⟨x, off + j, none⟩) (World.block_lt_of_cell? w1 _ hc)).trans hc⟩⟩
      have N2 : New W2 base la1 (lc1 * 7) := fun j hj => by
        obtain ⟨x, off, e, h1, h2⟩ := g3 j hj; exact ⟨x, off, e, h1, (hal.frozen (p := ⟨x, off + j, none⟩) (g5 x off e).2).trans h2⟩
      have hlb2 : ∀ x off, la1 = some ⟨x, off, none⟩ → b < x ∧ x < W2.heap.size := fun x off e => by have := g5 x off e; omega
      try simp only [Act.put, List.setIfInBounds_toArray, List.set_cons_zero, List.set_cons_succ]
      refine on1 12 fun K hK => ?_; rw [if_pos (by rfl)]; refine oper_append_one W2 (some 61) rfl _ _ 46 46 rfl 75 75 tokZ 7 80 Tryz.underlying46 Tryz.underlying46 Tryz.info75 rfl (by omega) base (by omega) la1 ts.length lc1 hh (fun j => (tokV ⟨7, x, 0, 0, 0, p⟩ false none 0 0)[j]!) w1.heap.size 0 1 rfl rfl A2 N2 hgN (tokV_one _ _ _ _ _) (by omega) (by omega) ?_; intro a' c' r w3 hr A3 N3 hb3 hk3; have k3 : ∀ (q : Addr), q.block = b → w3.cell? q = W2.cell? q := fun q hq => hk3.cell q (by omega) (fun x off e hx => by have := hlb2 x off e; omega); have f3 : ∀ (q : Addr), q.block = b → w3.frozen? q = W2.frozen? q := fun q hq => hk3.frozen q (by omega); have z2 := (k3 ⟨b, 2, none⟩ rfl).trans y2; have z1 := (k3 ⟨b, 1, none⟩ rfl).trans y1; refine hK.out _ _ (fun _ => ⟨z2, z1⟩) ?_; clear hK K; have fr3 : ∀ o, w3.frozen? ⟨b, o, none⟩ = false := fun o => (f3 _ rfl).trans (G1.fr o); clear k3 f3
      try simp only [Act.put, List.setIfInBounds_toArray, List.set_cons_zero, List.set_cons_succ]
      refine on1 13 fun K hK => ?_; go_simp; refine hK.out _ _ (fun _ => ⟨z2, z1⟩) ?_; clear hK K
      try simp only [Act.put, List.setIfInBounds_toArray, List.set_cons_zero, List.set_cons_succ]
      refine on1 14 fun K hK => ?_; go_simp; refine hK.out _ _ (fun _ => ⟨z2, z1⟩) ?_; clear hK K
      try simp only [Act.put, List.setIfInBounds_toArray, List.set_cons_zero, List.set_cons_succ]
      refine on1 15 fun K hK => ?_; go_simp; refine nxT hK ?_; clear hK K; refine anyT_done (by kernel_rfl) ?_ _; have PO := hid (push_out (k := k) (t := ⟨7, x, 0, 0, 0, p⟩) G1 A2 hz0 (fun i u hu => (htk i u hu).keep (UsK.below hal)) N2 hb hlb2 (Mg.zero W2) (by omega) h6 hr A3 N3 hb3 hk3); clear hr A3 N3 hk3 A2 N2 hgN hlb2
      go_wp2
      go_end0; obtain ⟨P1, P2, P3⟩ := PO.out; have e : ((k : Nat) : Int) = (p : Int) + ((k - p - 0 : Nat) : Int) := by omega
      rw [e] at P1 P2 P3; refine HO.out _ _ 0 ?_; rw [← HR.out]; exact ⟨rfl, (qb.out.trans (hal.mono (by omega))).trans P2, (qu.out.trans (UsK.below hal)).trans P3, P1⟩
  rw [if_neg h34] at h2; have cn34 : ¬ (c : Int) = 34 := by omega
  have cb34 : ((c : Int) == 34) = false := by simp; omega
  by_cases h35 : c = 35 ∧ c1 = 34
  · rw [if_pos h35] at h2; obtain ⟨rfl, rfl⟩ := h35; have hp1 := bt_in2 hc1 (by omega); obtain ⟨Q, hQ⟩ : ∃ Q, quotedS s (p + 1) = Q := ⟨_, rfl⟩; rw [hQ] at h2; clear hc hc1; have HQ := hid hQ
    rcases Q with ⟨cc, qq⟩ | ⟨x, k⟩
    · simp only at h2; have hcc := quo_err s _ _ _ _ _ hQ; clear hQ; go_enter Tryz.func18, Tryz.ntmps18
      rcases hcc with rfl | rfl
      all_goals
        go_wp2_with (first | (have _t := tk1; go_at_call 47; refine (peek_any b s p 0 la ts.length lc 0 0 _ (by omega) (by omega) (by omega) h1).mono ?_; rintro e w1 ⟨rfl, q1, rfl⟩; rw [HC.out]; clear tk1) | (go_at_call 49; refine (letter_any _ _ hc6).mono ?_; rintro e w1 ⟨rfl, rfl⟩; rw [HL.out]) | (have _t := tk2; go_at_call 51; refine (digit_any _ _ hc6).mono ?_; rintro e w1 ⟨rfl, rfl⟩; rw [HD.out]; clear tk2) | (have _t := tk3; go_at_call 47; refine (peek_any b s p 1 la ts.length lc 0 0 _ (by omega) (by omega) (by omega) (h1.drewN _)).mono ?_; rintro e w1 ⟨rfl, _, rfl⟩; rw [HC1.out]; clear tk3) | (go_at_call 53; refine (quoted_any b s p 1 ts base _ hs (by omega) (h0.drewN _) (by simpa using hbw)).mono ?_; intro e w1 hQ; rw [HQ.out] at hQ; obtain ⟨qb, qu, rfl, la1, ln1, lc1, g1⟩ := hQ; have g13 := g1.c3))
        go_end0; exact HFL.out _ _ _ _ _ _ _ h2.symm g1 qb qu
    · simp only at h2; have hk := quo_ok s _ _ _ _ _ hQ; clear hQ
      by_cases hx1 : x.length = 1
      · rw [if_neg (by omega)] at h2; obtain ⟨y, rfl⟩ := List.length_eq_one_iff.1 hx1; have hix := one_str (x := [y]) rfl; have hy := y.toNat_lt; have HWY : Hid (IntKind.i64.wrap (y.toNat : Int) = (y.toNat : Int)) := hid (IntWalk.i64_in _ (by omega)); have HR := hid h2; clear h2; go_enter Tryz.func18, Tryz.ntmps18
        go_wp2_with (first | (have _t := tk1; go_at_call 47; refine (peek_any b s p 0 la ts.length lc 0 0 _ (by omega) (by omega) (by omega) h1).mono ?_; rintro e w1 ⟨rfl, q1, rfl⟩; rw [HC.out]; clear tk1) | (go_at_call 49; refine (letter_any _ _ hc6).mono ?_; rintro e w1 ⟨rfl, rfl⟩; rw [HL.out]) | (have _t := tk2; go_at_call 51; refine (digit_any _ _ hc6).mono ?_; rintro e w1 ⟨rfl, rfl⟩; rw [HD.out]; clear tk2) | (have _t := tk3; go_at_call 47; refine (peek_any b s p 1 la ts.length lc 0 0 _ (by omega) (by omega) (by omega) (h1.drewN _)).mono ?_; rintro e w1 ⟨rfl, _, rfl⟩; rw [HC1.out]; clear tk3) | (go_at_call 53; refine (quoted_any b s p 1 ts base _ hs (by omega) (h0.drewN _) (by simpa using hbw)).mono ?_; intro e w1 hQ; rw [HQ.out] at hQ; obtain ⟨qb0, qu0, rfl, q3⟩ := hQ; have qb := hid ((below_drewB w _).trans qb0); have qu := hid ((UsK.below (drewN_below w _)).trans qu0); clear qb0 qu0; obtain ⟨la1, lc1, g1, g2, g3, g4, g5, g6⟩ := q3; have g10 := g1.c0; have g11 := g1.c1; have g13 := g1.c3; have hsw := qb.out.size))
        have hbb := g1.lt; have x2 := g1.c2; have x1 := g1.c1; obtain ⟨hh, hA, _, hz0, htk⟩ := g2; refine region_T (S := fun wx => wx.cell? ⟨b, 2, none⟩ = some (.slice la1 ts.length lc1) ∧ wx.cell? ⟨b, 1, none⟩ = some (.int .i64 (p : Nat))) (T := fun j => j == 18) (by kernel_rfl) ?_; have hS0 := And.intro x2 x1; refine tq 0 hS0 ?_; refine tq 1 hS0 ?_; refine tq 2 hS0 ?_; refine tq 3 hS0 ?_; refine tq 4 hS0 ?_; refine tq 5 hS0 ?_; refine tq 6 hS0 ?_; refine tq 7 hS0 ?_; refine tq 8 hS0 ?_; refine tq 9 hS0 ?_; refine tq 10 hS0 ?_; refine tq 11 hS0 ?_; refine tq 12 hS0 ?_; refine tq 13 hS0 ?_; refine on1 14 fun K hK => ?_; go_simp; rw [HWY.out]; have hgN := tokV_new w1 ⟨6, [y], 0, 0, y.toNat, p⟩ false none 0 0 75; have hal : Below w1.heap.size w1 (w1.alloc (.cells (tokV ⟨6, [y], 0, 0, y.toNat, p⟩ false none 0 0) 75)).drew := (below_alloc _ _).drew; have hsz2 : (w1.alloc (.cells (tokV ⟨6, [y], 0, 0, y.toNat, p⟩ false none 0 0) 75)).drew.heap.size = w1.heap.size + 1 := by simp
        have y2 := (hal.cell (p := ⟨b, 2, none⟩) hbb).trans x2; have y1 := (hal.cell (p := ⟨b, 1, none⟩) hbb).trans x1; refine hK.out _ (w1.alloc (.cells (tokV ⟨6, [y], 0, 0, y.toNat, p⟩ false none 0 0) 75)).drew (fun _ => ⟨y2, y1⟩) ?_; clear hK K; generalize (w1.alloc (.cells (tokV ⟨6, [y], 0, 0, y.toNat, p⟩ false none 0 0) 75)).drew = W2 at hgN hal hsz2 y2 y1 ⊢; have G1 := g1.below hal
        have A2 : ArrS W2 la1 ts.length lc1 7 hh := ⟨hA.le, hA.mx, fun j hj => by
          obtain ⟨x, off, e, hc⟩ := hA.cell j hj
          exact ⟨x, off, e, (hal.cell (p := ⟨x, off + j, none⟩) (World.block_lt_of_cell? w1 _ hc)).trans hc⟩⟩
        have N2 : New W2 base la1 (lc1 * 7) := fun j hj => by
          obtain ⟨x, off, e, h1, h2⟩ := g3 j hj; exact ⟨x, off, e, h1, (hal.frozen (p := ⟨x, off + j, none⟩) (g5 x off e).2).trans h2⟩
        have hlb2 : ∀ x off, la1 = some ⟨x, off, none⟩ → b < x ∧ x < W2.heap.size := fun x off e => by have := g5 x off e; omega
        try simp only [Act.put, List.setIfInBounds_toArray, List.set_cons_zero, List.set_cons_succ]
        refine on1 15 fun K hK => ?_; rw [if_pos (by rfl)]; refine oper_append_one W2 (some 123) rfl _ _ 46 46 rfl 75 75 tokZ 7 80 Tryz.underlying46 Tryz.underlying46 Tryz.info75 rfl (by omega) base (by omega) la1 ts.length lc1 hh (fun j => (tokV ⟨6, [y], 0, 0, y.toNat, p⟩ false none 0 0)[j]!) w1.heap.size 0 1 rfl rfl A2 N2 hgN (tokV_one _ _ _ _ _) (by omega) (by omega) ?_; intro a' c' r w3 hr A3 N3 hb3 hk3; have k3 : ∀ (q : Addr), q.block = b → w3.cell? q = W2.cell? q := fun q hq => hk3.cell q (by omega) (fun x off e hx => by have := hlb2 x off e; omega); have f3 : ∀ (q : Addr), q.block = b → w3.frozen? q = W2.frozen? q := fun q hq => hk3.frozen q (by omega); have z2 := (k3 ⟨b, 2, none⟩ rfl).trans y2; have z1 := (k3 ⟨b, 1, none⟩ rfl).trans y1; refine hK.out _ _ (fun _ => ⟨z2, z1⟩) ?_; clear hK K; have fr3 : ∀ o, w3.frozen? ⟨b, o, none⟩ = false := fun o => (f3 _ rfl).trans (G1.fr o); clear k3 f3
        try simp only [Act.put, List.setIfInBounds_toArray, List.set_cons_zero, List.set_cons_succ]
        refine on1 16 fun K hK => ?_; go_simp; refine hK.out _ _ (fun _ => ⟨z2, z1⟩) ?_; clear hK K
        try simp only [Act.put, List.setIfInBounds_toArray, List.set_cons_zero, List.set_cons_succ]
        refine on1 17 fun K hK => ?_; go_simp; refine hK.out _ _ (fun _ => ⟨z2, z1⟩) ?_; clear hK K
        try simp only [Act.put, List.setIfInBounds_toArray, List.set_cons_zero, List.set_cons_succ]
        refine on1 18 fun K hK => ?_; go_simp; refine nxT hK ?_; clear hK K; refine anyT_done (by kernel_rfl) ?_ _; have PO := hid (push_out (k := k) (t := ⟨6, [y], 0, 0, y.toNat, p⟩) G1 A2 hz0 (fun i u hu => (htk i u hu).keep (UsK.below hal)) N2 hb hlb2 (Mg.zero W2) (by omega) h6 hr A3 N3 hb3 hk3); clear hr A3 N3 hk3 A2 N2 hgN hlb2
        go_wp2
        go_end0; obtain ⟨P1, P2, P3⟩ := PO.out; have e : ((k : Nat) : Int) = (p : Int) + (((k - p - 1 : Nat) : Int) + 1) := by omega
        rw [e] at P1 P2 P3; refine HO.out _ _ 0 ?_; rw [← HR.out]; exact ⟨rfl, (qb.out.trans (hal.mono (by omega))).trans P2, (qu.out.trans (UsK.below hal)).trans P3, P1⟩
      · rw [if_pos hx1] at h2; have hxi : ¬ ((x.length : Nat) : Int) = 1 := by omega
        have hxb : (((x.length : Nat) : Int) == 1) = false := by simp; omega
        go_enter Tryz.func18, Tryz.ntmps18
        go_wp2_with (first | (have _t := tk1; go_at_call 47; refine (peek_any b s p 0 la ts.length lc 0 0 _ (by omega) (by omega) (by omega) h1).mono ?_; rintro e w1 ⟨rfl, q1, rfl⟩; rw [HC.out]; clear tk1) | (go_at_call 49; refine (letter_any _ _ hc6).mono ?_; rintro e w1 ⟨rfl, rfl⟩; rw [HL.out]) | (have _t := tk2; go_at_call 51; refine (digit_any _ _ hc6).mono ?_; rintro e w1 ⟨rfl, rfl⟩; rw [HD.out]; clear tk2) | (have _t := tk3; go_at_call 47; refine (peek_any b s p 1 la ts.length lc 0 0 _ (by omega) (by omega) (by omega) (h1.drewN _)).mono ?_; rintro e w1 ⟨rfl, _, rfl⟩; rw [HC1.out]; clear tk3) | (go_at_call 53; refine (quoted_any b s p 1 ts base _ hs (by omega) (h0.drewN _) (by simpa using hbw)).mono ?_; intro e w1 hQ; rw [HQ.out] at hQ; obtain ⟨qb0, qu0, rfl, q3⟩ := hQ; have qb := hid ((below_drewB w _).trans qb0); have qu := hid ((UsK.below (drewN_below w _)).trans qu0); clear qb0 qu0; obtain ⟨la1, lc1, g1, g2, g3, g4, g5, g6⟩ := q3; have g10 := g1.c0; have g11 := g1.c1; have g13 := g1.c3; have hsw := qb.out.size) | (go_at_call 48; refine (fail_any b s p la1 ts.length lc1 0 0 _ _ _ base g4 g1).mono ?_; rintro e w2 ⟨rfl, f1, f2, f3⟩; have f13 := f1.c3))
        go_end0; exact HFL.out _ _ _ _ _ _ 0 h2.symm f1 (qb.out.trans f2) (qu.out.trans f3)
  rw [if_neg h35] at h2
  by_cases h39 : c = 39
  · subst h39; rw [if_pos rfl] at h2
    by_cases hq : c1 = 39
    · subst hq; rw [if_pos rfl] at h2; obtain ⟨c2, hc2⟩ : ∃ c2, bt s (p + 2) = c2 := ⟨_, rfl⟩; have hc26 : c2 < 256 := hc2 ▸ bt_lt s _; rw [hc2] at h2
      rcases hl2 : isLet c2 with _ | _
      · rw [hl2, if_neg (by simp)] at h2; have HL2 := hid hl2; have HC2 := hid hc2; clear hl2 hc hc1 hc2; go_enter Tryz.func18, Tryz.ntmps18
        go_wp2_with (first | (have _t := tk1; go_at_call 47; refine (peek_any b s p 0 la ts.length lc 0 0 _ (by omega) (by omega) (by omega) h1).mono ?_; rintro e w1 ⟨rfl, q1, rfl⟩; rw [HC.out]; clear tk1) | (have _t := tk5; go_at_call 49; refine (letter_any _ _ hc6).mono ?_; rintro e w1 ⟨rfl, rfl⟩; rw [HL.out]; clear tk5) | (have _t := tk2; go_at_call 51; refine (digit_any _ _ hc6).mono ?_; rintro e w1 ⟨rfl, rfl⟩; rw [HD.out]; clear tk2) | (have _t := tk3; go_at_call 47; refine (peek_any b s p 1 la ts.length lc 0 0 _ (by omega) (by omega) (by omega) (h1.drewN _)).mono ?_; rintro e w1 ⟨rfl, _, rfl⟩; rw [HC1.out]; clear tk3) | (go_at_call 47; refine (peek_any b s p 2 la ts.length lc 0 0 _ (by omega) (by omega) (by omega) (h1.drewN _)).mono ?_; rintro e w1 ⟨rfl, _, rfl⟩; rw [HC2.out]) | (go_at_call 49; refine (letter_any _ _ hc26).mono ?_; rintro e w1 ⟨rfl, rfl⟩; rw [HL2.out]) | (go_at_call 48; refine (fail_any b s p la ts.length lc 0 0 _ _ _ base h4 (h1.drewN _)).mono ?_; rintro e w1 ⟨rfl, f1, f2, f3⟩))
        refine bodyPost_ret (results_none rfl _ _ _) rfl ?_; exact HFL.out _ _ _ _ _ _ _ h2.symm f1 f2 f3
      · rw [hl2, if_pos rfl] at h2; have hlt := let_in (s := s) (i := p + 2) (by rw [hc2]; exact hl2); have hk1 := runE_lt (p := isNam) hlt (by rw [hc2]; exact let_nam hl2); have hk2 := runE_size (p := isNam) (s := s) (i := p + 2) (by omega); obtain ⟨k, hk⟩ : ∃ k, runE isNam s (p + 2) = k := ⟨_, rfl⟩; rw [hk] at h2 hk1 hk2; have hlen := sub_len (s := s) (i := p + 2) (k := k) (by omega) hk2; have HK := hid hk; have HL2 := hid hl2; have HC2 := hid hc2; have HR := hid h2; have hpk : p + (2 + (k - (p + 2))) = k := by omega
        clear hl2 hk hc hc1 hc2 h2; go_enter Tryz.func18, Tryz.ntmps18
        go_wp2_with (first | (have _t := tk1; go_at_call 47; refine (peek_any b s p 0 la ts.length lc 0 0 _ (by omega) (by omega) (by omega) h1).mono ?_; rintro e w1 ⟨rfl, q1, rfl⟩; rw [HC.out]; clear tk1) | (have _t := tk5; go_at_call 49; refine (letter_any _ _ hc6).mono ?_; rintro e w1 ⟨rfl, rfl⟩; rw [HL.out]; clear tk5) | (have _t := tk2; go_at_call 51; refine (digit_any _ _ hc6).mono ?_; rintro e w1 ⟨rfl, rfl⟩; rw [HD.out]; clear tk2) | (have _t := tk3; go_at_call 47; refine (peek_any b s p 1 la ts.length lc 0 0 _ (by omega) (by omega) (by omega) (h1.drewN _)).mono ?_; rintro e w1 ⟨rfl, _, rfl⟩; rw [HC1.out]; clear tk3) | (go_at_call 47; refine (peek_any b s p 2 la ts.length lc 0 0 _ (by omega) (by omega) (by omega) (h1.drewN _)).mono ?_; rintro e w1 ⟨rfl, _, rfl⟩; rw [HC2.out]) | (go_at_call 49; refine (letter_any _ _ hc26).mono ?_; rintro e w1 ⟨rfl, rfl⟩; rw [HL2.out]) | (go_at_call 55; refine (while_nam b s p 2 la ts.length lc 0 0 _ (by omega) (by omega) (h1.drewN _)).mono ?_; rintro e w1 ⟨rfl, _, rfl⟩; rw [HK.out]) | (go_at_call 54; refine (x_short_any b s p (2 + (k - (p + 2))) 3 ts base _ hs (by omega) (by omega) (h0.drewN _) (by simpa using hbw)).mono ?_; rintro e w1 hO; obtain rfl := hO.1; have HX := hid hO; clear hO))
        go_end0; have h := HX.out; rw [hpk] at h; exact HO.out _ _ _ (HR.out ▸ h)
    · rw [if_neg hq] at h2; have c1n39 : ¬ (c1 : Int) = 39 := by omega
      have c1b39 : ((c1 : Int) == 39) = false := by simp; omega
      obtain ⟨c2, hc2⟩ : ∃ c2, bt s (p + 1) = c2 := ⟨_, rfl⟩; have hc26 : c2 < 256 := hc2 ▸ bt_lt s _; rw [hc2] at h2
      rcases hl2 : isLet c2 with _ | _
      · rw [hl2, if_neg (by simp)] at h2; have HL2 := hid hl2; have HC2 := hid hc2; clear hl2 hc hc1 hc2; go_enter Tryz.func18, Tryz.ntmps18
        go_wp2_with (first | (have _t := tk1; go_at_call 47; refine (peek_any b s p 0 la ts.length lc 0 0 _ (by omega) (by omega) (by omega) h1).mono ?_; rintro e w1 ⟨rfl, q1, rfl⟩; rw [HC.out]; clear tk1) | (have _t := tk5; go_at_call 49; refine (letter_any _ _ hc6).mono ?_; rintro e w1 ⟨rfl, rfl⟩; rw [HL.out]; clear tk5) | (have _t := tk2; go_at_call 51; refine (digit_any _ _ hc6).mono ?_; rintro e w1 ⟨rfl, rfl⟩; rw [HD.out]; clear tk2) | (have _t := tk3; go_at_call 47; refine (peek_any b s p 1 la ts.length lc 0 0 _ (by omega) (by omega) (by omega) (h1.drewN _)).mono ?_; rintro e w1 ⟨rfl, _, rfl⟩; rw [HC1.out]; clear tk3) | (go_at_call 47; refine (peek_any b s p 1 la ts.length lc 0 0 _ (by omega) (by omega) (by omega) (h1.drewN _)).mono ?_; rintro e w1 ⟨rfl, _, rfl⟩; rw [HC2.out]) | (go_at_call 49; refine (letter_any _ _ hc26).mono ?_; rintro e w1 ⟨rfl, rfl⟩; rw [HL2.out]) | (go_at_call 48; refine (fail_any b s p la ts.length lc 0 0 _ _ _ base h4 (h1.drewN _)).mono ?_; rintro e w1 ⟨rfl, f1, f2, f3⟩))
        refine bodyPost_ret (results_none rfl _ _ _) rfl ?_; exact HFL.out _ _ _ _ _ _ _ h2.symm f1 f2 f3
      · rw [hl2, if_pos rfl] at h2; have hlt := let_in (s := s) (i := p + 1) (by rw [hc2]; exact hl2); have hk1 := runE_lt (p := isNam) hlt (by rw [hc2]; exact let_nam hl2); have hk2 := runE_size (p := isNam) (s := s) (i := p + 1) (by omega); obtain ⟨k, hk⟩ : ∃ k, runE isNam s (p + 1) = k := ⟨_, rfl⟩; rw [hk] at h2 hk1 hk2; have hlen := sub_len (s := s) (i := p + 1) (k := k) (by omega) hk2; have HK := hid hk; have HL2 := hid hl2; have HC2 := hid hc2; have HR := hid h2; have hpk : p + (1 + (k - (p + 1))) = k := by omega
        clear hl2 hk hc hc1 hc2 h2; go_enter Tryz.func18, Tryz.ntmps18
        go_wp2_with (first | (have _t := tk1; go_at_call 47; refine (peek_any b s p 0 la ts.length lc 0 0 _ (by omega) (by omega) (by omega) h1).mono ?_; rintro e w1 ⟨rfl, q1, rfl⟩; rw [HC.out]; clear tk1) | (have _t := tk5; go_at_call 49; refine (letter_any _ _ hc6).mono ?_; rintro e w1 ⟨rfl, rfl⟩; rw [HL.out]; clear tk5) | (have _t := tk2; go_at_call 51; refine (digit_any _ _ hc6).mono ?_; rintro e w1 ⟨rfl, rfl⟩; rw [HD.out]; clear tk2) | (have _t := tk3; go_at_call 47; refine (peek_any b s p 1 la ts.length lc 0 0 _ (by omega) (by omega) (by omega) (h1.drewN _)).mono ?_; rintro e w1 ⟨rfl, _, rfl⟩; rw [HC1.out]; clear tk3) | (go_at_call 47; refine (peek_any b s p 1 la ts.length lc 0 0 _ (by omega) (by omega) (by omega) (h1.drewN _)).mono ?_; rintro e w1 ⟨rfl, _, rfl⟩; rw [HC2.out]) | (go_at_call 49; refine (letter_any _ _ hc26).mono ?_; rintro e w1 ⟨rfl, rfl⟩; rw [HL2.out]) | (go_at_call 55; refine (while_nam b s p 1 la ts.length lc 0 0 _ (by omega) (by omega) (h1.drewN _)).mono ?_; rintro e w1 ⟨rfl, _, rfl⟩; rw [HK.out]) | (go_at_call 54; refine (x_short_any b s p (1 + (k - (p + 1))) 3 ts base _ hs (by omega) (by omega) (h0.drewN _) (by simpa using hbw)).mono ?_; rintro e w1 hO; obtain rfl := hO.1; have HX := hid hO; clear hO))
        go_end0; have h := HX.out; rw [hpk] at h; exact HO.out _ _ _ (HR.out ▸ h)
  rw [if_neg h39] at h2; have cn39 : ¬ (c : Int) = 39 := by omega
  have cb39 : ((c : Int) == 39) = false := by simp; omega
  by_cases he35 : c = 35
  · subst he35; have h134 : ¬ c1 = 34 := fun e => h35 ⟨rfl, e⟩; have c1n34 : ¬ (c1 : Int) = 34 := by omega
    have c1b34 : ((c1 : Int) == 34) = false := by simp; omega
    rw [if_neg (by decide), if_pos (by decide)] at h2; clear h35; have hsyc : isSym (bt s p) = true := by rw [show bt s p = _ from hc]; decide
    have hk1 := runE_lt (p := isSym) hp hsyc; have hk2 := runE_size (p := isSym) (s := s) (i := p) (by omega); obtain ⟨k, hk⟩ : ∃ k, runE isSym s (p + 0) = k := ⟨_, rfl⟩; rw [show runE isSym s p = k from hk] at h2 hk1 hk2; have hlen := sub_len (s := s) (i := p) (k := k) (by omega) hk2; have HK := hid hk; have hpk : p + (k - p) = k := by omega
    clear hsyc hk hc hc1
    rcases hrs : rsv (sub s p k) with _ | _
    all_goals
      rw [hrs] at h2; have HRS := hid hrs; have HR := hid h2; clear h2 hrs; go_enter Tryz.func18, Tryz.ntmps18
      go_wp2_with (first | (have _t := tk1; go_at_call 47; refine (peek_any b s p 0 la ts.length lc 0 0 _ (by omega) (by omega) (by omega) h1).mono ?_; rintro e w1 ⟨rfl, q1, rfl⟩; rw [HC.out]; clear tk1) | (go_at_call 49; refine (letter_any _ _ hc6).mono ?_; rintro e w1 ⟨rfl, rfl⟩; rw [HL.out]) | (have _t := tk2; go_at_call 51; refine (digit_any _ _ hc6).mono ?_; rintro e w1 ⟨rfl, rfl⟩; rw [HD.out]; clear tk2) | (have _t := tk3; go_at_call 47; refine (peek_any b s p 1 la ts.length lc 0 0 _ (by omega) (by omega) (by omega) (h1.drewN _)).mono ?_; rintro e w1 ⟨rfl, _, rfl⟩; rw [HC1.out]; clear tk3) | (have _t := tk4; go_at_call 57; refine (Tryz.strings_IndexByte ⟨oneL.toArray⟩ 35 _).mono ?_; rintro e w1 ⟨rfl, rfl⟩; clear tk4) | (go_at_call 57; refine (Tryz.strings_IndexByte ⟨symL.toArray⟩ 35 _).mono ?_; rintro e w1 ⟨rfl, rfl⟩) | (go_at_call 55; refine (while_sy b s p 0 la ts.length lc 0 0 _ (by omega) (by omega) (h1.drewN _)).mono ?_; rintro e w1 ⟨rfl, _, rfl⟩; rw [HK.out]) | (go_at_call 60; refine (reserved_any (sub s p k) m _ (HM.out _) (by omega)).mono ?_; rintro e w1 ⟨rfl, rfl⟩; rw [HRS.out]) | (go_at_call 54; refine (x_short_any b s p (k - p) _ ts base _ hs (by omega) (by omega) (h0.drewN _) (by simpa using hbw)).mono ?_; rintro e w1 hO; obtain rfl := hO.1; have HX := hid hO; clear hO))
      go_end0; have h := HX.out; rw [hpk] at h; exact HO.out _ _ _ (HR.out ▸ h)
  have cn35 : ¬ (c : Int) = 35 := by omega
  have cb35 : ((c : Int) == 35) = false := by simp; omega
  clear h35
  rcases ho : isOne c with _ | _
  rotate_left 1
  · rw [ho, if_pos rfl] at h2; have HON := hid (show decide (0 ≤ Lib.indexByte oneL c.toUInt8) = true from ho); have HR := hid h2; clear h2 ho hc hc1; go_enter Tryz.func18, Tryz.ntmps18
    go_wp2_with (first | (have _t := tk1; go_at_call 47; refine (peek_any b s p 0 la ts.length lc 0 0 _ (by omega) (by omega) (by omega) h1).mono ?_; rintro e w1 ⟨rfl, q1, rfl⟩; rw [HC.out]; clear tk1) | (go_at_call 49; refine (letter_any _ _ hc6).mono ?_; rintro e w1 ⟨rfl, rfl⟩; rw [HL.out]) | (have _t := tk2; go_at_call 51; refine (digit_any _ _ hc6).mono ?_; rintro e w1 ⟨rfl, rfl⟩; rw [HD.out]; clear tk2) | (have _t := tk4; go_at_call 57; refine (Tryz.strings_IndexByte ⟨oneL.toArray⟩ (c : Nat) _).mono ?_; rintro e w1 ⟨rfl, rfl⟩; have ho := HON.out; clear tk4) | (go_at_call 58; refine (tell_st b s p 1 8 0 0 _ _ _ _ _ _ _ ts base _ hs (by omega) (by omega) (h0.drewN _) (Mg.zero _)).mono ?_; rintro e w1 hO; obtain rfl := hO.1; have HX := hid hO; clear hO))
    go_end0; exact HO.out _ _ _ (HR.out ▸ HX.out)
  rw [ho, if_neg (by simp)] at h2; have HON := hid (show decide (0 ≤ Lib.indexByte oneL c.toUInt8) = false from ho); clear ho
  rcases hsy : isSym c with _ | _
  · rw [hsy, if_neg (by simp)] at h2; have HSY := hid (show decide (0 ≤ Lib.indexByte symL c.toUInt8) = false from hsy); clear hsy hc hc1; go_enter Tryz.func18, Tryz.ntmps18
    go_wp2_with (first | (have _t := tk1; go_at_call 47; refine (peek_any b s p 0 la ts.length lc 0 0 _ (by omega) (by omega) (by omega) h1).mono ?_; rintro e w1 ⟨rfl, q1, rfl⟩; rw [HC.out]; clear tk1) | (go_at_call 49; refine (letter_any _ _ hc6).mono ?_; rintro e w1 ⟨rfl, rfl⟩; rw [HL.out]) | (have _t := tk2; go_at_call 51; refine (digit_any _ _ hc6).mono ?_; rintro e w1 ⟨rfl, rfl⟩; rw [HD.out]; clear tk2) | (have _t := tk4; go_at_call 57; refine (Tryz.strings_IndexByte ⟨oneL.toArray⟩ (c : Nat) _).mono ?_; rintro e w1 ⟨rfl, rfl⟩; have ho := HON.out; clear tk4) | (go_at_call 57; refine (Tryz.strings_IndexByte ⟨symL.toArray⟩ (c : Nat) _).mono ?_; rintro e w1 ⟨rfl, rfl⟩; have hsy := HSY.out) | (go_at_call 48; refine (fail_any b s p la ts.length lc 0 0 _ _ _ base h4 (h1.drewN _)).mono ?_; rintro e w1 ⟨rfl, f1, f2, f3⟩))
    go_end0; exact HFL.out _ _ _ _ _ _ _ h2.symm f1 f2 f3
  rw [hsy, if_pos rfl] at h2; have HSY := hid (show decide (0 ≤ Lib.indexByte symL c.toUInt8) = true from hsy); have hsyc : isSym (bt s p) = true := by rw [show bt s p = _ from hc]; exact hsy
  have hk1 := runE_lt (p := isSym) hp hsyc; have hk2 := runE_size (p := isSym) (s := s) (i := p) (by omega); obtain ⟨k, hk⟩ : ∃ k, runE isSym s (p + 0) = k := ⟨_, rfl⟩; rw [show runE isSym s p = k from hk] at h2 hk1 hk2; have hlen := sub_len (s := s) (i := p) (k := k) (by omega) hk2; have HK := hid hk; have hpk : p + (k - p) = k := by omega
  clear hsyc hk hc hc1
  rcases hrs : rsv (sub s p k) with _ | _
  all_goals
    rw [hrs] at h2; have HRS := hid hrs; have HR := hid h2; clear h2 hrs; go_enter Tryz.func18, Tryz.ntmps18
    go_wp2_with (first | (have _t := tk1; go_at_call 47; refine (peek_any b s p 0 la ts.length lc 0 0 _ (by omega) (by omega) (by omega) h1).mono ?_; rintro e w1 ⟨rfl, q1, rfl⟩; rw [HC.out]; clear tk1) | (go_at_call 49; refine (letter_any _ _ hc6).mono ?_; rintro e w1 ⟨rfl, rfl⟩; rw [HL.out]) | (have _t := tk2; go_at_call 51; refine (digit_any _ _ hc6).mono ?_; rintro e w1 ⟨rfl, rfl⟩; rw [HD.out]; clear tk2) | (have _t := tk4; go_at_call 57; refine (Tryz.strings_IndexByte ⟨oneL.toArray⟩ (c : Nat) _).mono ?_; rintro e w1 ⟨rfl, rfl⟩; have ho := HON.out; clear tk4) | (go_at_call 57; refine (Tryz.strings_IndexByte ⟨symL.toArray⟩ (c : Nat) _).mono ?_; rintro e w1 ⟨rfl, rfl⟩; have hsy := HSY.out) | (go_at_call 55; refine (while_sy b s p 0 la ts.length lc 0 0 _ (by omega) (by omega) (h1.drewN _)).mono ?_; rintro e w1 ⟨rfl, _, rfl⟩; rw [HK.out]) | (go_at_call 60; refine (reserved_any (sub s p k) m _ (HM.out _) (by omega)).mono ?_; rintro e w1 ⟨rfl, rfl⟩; rw [HRS.out]) | (go_at_call 54; refine (x_short_any b s p (k - p) _ ts base _ hs (by omega) (by omega) (h0.drewN _) (by simpa using hbw)).mono ?_; rintro e w1 hO; obtain rfl := hO.1; have HX := hid hO; clear hO))
    go_end0; have h := HX.out; rw [hpk] at h; exact HO.out _ _ _ (HR.out ▸ h)
end Go.Proofs.YtkblonfmjlopaaaGreatDoor
