/-
  The reference's Tokens, walked.
-/
import Derived.Test.YtajpeeccomgnnaaGreatDoorLxR5
import Derived.Test.YtajpeeccomgnnaaGreatDoorLxToks
import Derived.Test.YtajpeeccomgnnaaGreatDoorLxAwk
import Derived.Test.YtajpeeccomgnnaaGreatDoorLxPF
namespace Go.Proofs.YtajpeeccomgnnaaGreatDoor
set_option linter.all false
open Go Go.RowKit

theorem short_pos {s : ByteArray} {i k kind n : Nat} {t : Tok} (h : shortS s i k kind = .ok (t, n)) : t.pos = i := by
  unfold shortS at h; split at h
  · cases h
  · simp only [Except.ok.injEq, Prod.mk.injEq] at h; rw [← h.1]
theorem long_pos (s : ByteArray) (i : Nat) : ∀ m k t n, longS s m i k = .ok (t, n) → t.pos = i := by
  intro m
  induction m with
  | zero => intro k t n h; exact short_pos (show shortS s i k 1 = _ from h)
  | succ m ih =>
    intro k t n h
    unfold longS at h
    split at h
    · split at h
      · cases h
      · exact ih _ _ _ h
    · exact short_pos h
theorem word_pos {F : List UInt8 → Nat} {s : ByteArray} {i n : Nat} {t : Tok} (h : wordS F s i = .ok (t, n)) : t.pos = i := by
  unfold wordS at h
  simp only at h
  split at h
  · unfold nameS at h
    split at h
    · simp only [Except.ok.injEq, Prod.mk.injEq] at h; rw [← h.1]
    · exact long_pos s i _ _ _ _ h
  · split at h
    · unfold numberS at h
      simp only at h
      split at h
      · split at h
        · cases h
        · simp only [Except.ok.injEq, Prod.mk.injEq] at h; rw [← h.1]
      · split at h
        · cases h
        · simp only [Except.ok.injEq, Prod.mk.injEq] at h; rw [← h.1]
    · split at h
      · split at h
        · cases h
        · simp only [Except.ok.injEq, Prod.mk.injEq] at h; rw [← h.1]
      · split at h
        · split at h
          · cases h
          · split at h
            · cases h
            · simp only [Except.ok.injEq, Prod.mk.injEq] at h; rw [← h.1]
        · split at h
          · split at h
            · split at h
              · exact short_pos h
              · cases h
            · split at h
              · exact short_pos h
              · cases h
          · split at h
            · simp only [Except.ok.injEq, Prod.mk.injEq] at h; rw [← h.1]
            · split at h
              · exact short_pos h
              · cases h
theorem Tryz.info39 : (Tryz.prog.info? 39).map (fun i => (i.zero, i.size, i.bytes)) = some (some tokZ, 7, 80) := by kernel_rfl
theorem Tryz.und29 : Tryz.prog.underlying 29 = some (.slice 39) := by kernel_rfl
theorem tokV_nw (w : World) (t : Tok) (sg : Bool) (am : Option Addr) (nm cm : Nat) (T : TypeId) : ∀ j, j < 7 → (w.alloc (.cells (tokV t sg am nm cm) T)).cell? ⟨w.heap.size, 0 + j, none⟩ = some ((tokV t sg am nm cm)[j]!) := tokV_new w t sg am nm cm T
theorem below_set2 (wx : World) (b : Nat) (y0 y1 : Value) : Below b wx ((wx.setCell ⟨b, 0, none⟩ y0).setCell ⟨b, 1, none⟩ y1) :=
  ((Below.refl b wx).setCell (p := ⟨b, 0, none⟩) (Nat.le_refl _) y0).setCell (p := ⟨b, 1, none⟩) (Nat.le_refl _) y1
theorem Bx.set2 {wx : World} {b : Nat} {x0 x1 : Value} (k : Bx wx b x0 x1) (y0 y1 : Value) : Bx ((wx.setCell ⟨b, 0, none⟩ y0).setCell ⟨b, 1, none⟩ y1) b y0 y1 := by
  have h1 : (wx.setCell ⟨b, 0, none⟩ y0).cell? ⟨b, 1, none⟩ = some x1 := by rw [World.cell?_setCell_other _ _ _ _ (by intro h; simp at h)]; exact k.c1
  refine ⟨by simpa using k.lt, ?_, ?_, fun o => by simpa using k.fr o⟩
  · rw [World.cell?_setCell_other _ _ _ _ (by intro h; simp at h)]; exact World.cell?_setCell_same _ _ _ k.c0
  · exact World.cell?_setCell_same _ _ _ h1
theorem setb_other (wx : World) {b b' : Nat} (o : Nat) (y0 y1 : Value) (h : b' ≠ b) : ((wx.setCell ⟨b, 0, none⟩ y0).setCell ⟨b, 1, none⟩ y1).cell? ⟨b', o, none⟩ = wx.cell? ⟨b', o, none⟩ := by
  rw [World.cell?_setCell_other _ _ _ _ (by intro e; simp only [Addr.mk.injEq] at e; exact h e.1.symm), World.cell?_setCell_other _ _ _ _ (by intro e; simp only [Addr.mk.injEq] at e; exact h e.1.symm)]
theorem UsK.set2 {wx : World} {b : Nat} {x0 x1 : Int} (k : Bx wx b (.int .i64 x0) (.int .i64 x1)) (y0 y1 : Value) : UsK wx ((wx.setCell ⟨b, 0, none⟩ y0).setCell ⟨b, 1, none⟩ y1) := by
  have h1 : (wx.setCell ⟨b, 0, none⟩ y0).cell? ⟨b, 1, none⟩ = some (.int .i64 x1) := by rw [World.cell?_setCell_other _ _ _ _ (by intro h; simp at h)]; exact k.c1
  exact ((UsK.refl wx).set k.c0 (fun _ h => by cases h) y0).set h1 (fun _ h => by cases h) y1
theorem push_tk {W w3 : World} {la a' : Option Addr} {lc c' : Nat} {ts : List Tok} {hh r : Nat → Value} {t : Tok} {sg : Bool} {am : Option Addr} {nm cm : Nat}
    (hA : ArrS W la ts.length lc 7 hh) (hz0 : ∀ j, ts.length * 7 ≤ j → j < lc * 7 → hh j = zcS tokZ j) (htk : ∀ i t, ts[i]? = some t → TokC W t hh (i * 7))
    (hlb : ∀ x off, la = some ⟨x, off, none⟩ → x < W.heap.size) (hm : Mg W sg am nm cm t.num)
    (hr : r = hh ∧ a' = la ∧ c' = lc ∨ r = zcS tokZ ∧ a' = some ⟨W.heap.size, 0, none⟩ ∧ W.heap.size < w3.heap.size ∧ ∀ p : Addr, p.block < W.heap.size → w3.cell? p = W.cell? p)
    (A3 : ArrS w3 a' (ts.length + 1) c' 7 (catS hh (ts.length * 7) 7 (fun j => (tokV t sg am nm cm)[j]!) r)) (hk3 : Kp W w3 la (ts.length * 7) ((ts.length + 1) * 7)) :
    Toks w3 a' (ts ++ [t]).length c' (ts ++ [t]) ∧ (∀ x off, a' = some ⟨x, off, none⟩ → x < w3.heap.size) ∧ UsK W w3 := by
  have hw3 : W.heap.size ≤ w3.heap.size := hk3.size
  have hlen7 : (ts.length + 1) * 7 = ts.length * 7 + 7 := Nat.succ_mul _ _
  have ha' : ∀ x off, a' = some ⟨x, off, none⟩ → x < w3.heap.size := fun x off e => by
    rcases hr with ⟨_, h2, _⟩ | ⟨_, h2, h3, _⟩
    · rw [h2] at e
      have := hlb x off e
      omega
    · rw [h2] at e
      simp only [Option.some.injEq, Addr.mk.injEq, and_true] at e
      omega
  have uk3 : UsK W w3 := by
    intro ay ny cy fy uy
    refine ⟨uy.le, uy.mx, uy.lm, fun q hq => ?_⟩
    obtain ⟨y, oy, ey, hc⟩ := uy.cell q hq
    refine ⟨y, oy, ey, ?_⟩
    have hlt := World.block_lt_of_cell? W _ hc
    rw [← hc]
    rcases hr with ⟨_, _, h5⟩ | ⟨_, _, _, h6⟩
    · refine hk3.cell ⟨y, oy + q, none⟩ hlt (fun x off e hx => ?_)
      obtain ⟨h1, _, h2, h3⟩ := hx
      simp only at h1 h2 h3
      have hroom := A3.le
      have hm : (ts.length + 1) * 7 ≤ lc * 7 := Nat.mul_le_mul_right _ (by omega)
      obtain ⟨x', off', e', hcx⟩ := hA.cell (oy + q - off) (by omega)
      rw [e] at e'
      simp only [Option.some.injEq, Addr.mk.injEq, and_true] at e'
      obtain ⟨rfl, rfl⟩ := e'
      rw [show off + (oy + q - off) = oy + q by omega, ← h1, hc] at hcx
      rw [hz0 _ (by omega) (by omega)] at hcx
      have := Option.some.inj hcx
      exact tokZ_kind _ _ this.symm
    · exact h6 _ hlt
  refine ⟨⟨catS hh (ts.length * 7) 7 (fun j => (tokV t sg am nm cm)[j]!) r, ⟨by simpa using A3.le, A3.mx, fun j hj => A3.cell j hj⟩, rfl, fun j h1 h2 => ?_, fun i u hu => ?_⟩, ha', uk3⟩
  · simp only [List.length_append, List.length_cons, List.length_nil] at h1
    unfold catS
    rw [if_neg (by omega), if_neg (by omega)]
    rcases hr with ⟨h5, _, h6⟩ | ⟨h5, _⟩
    · rw [h5]; exact hz0 j (by omega) (by omega)
    · rw [h5]
  · by_cases hi : i < ts.length
    · rw [List.getElem?_append_left hi] at hu
      refine ((htk i u hu).congr (fun k hk => ?_)).keep uk3
      unfold catS
      rw [if_pos (by omega)]
    · have hi2 : i = ts.length := by
        have := (List.getElem?_eq_some_iff.1 hu).1
        simp at this; omega
      subst hi2
      rw [List.getElem?_append_right (Nat.le_refl _), Nat.sub_self] at hu
      have ht2 := Option.some.inj (show some _ = some u from hu)
      subst ht2
      have hg7 : ∀ k, k < 7 → catS hh (ts.length * 7) 7 (fun j => (tokV t sg am nm cm)[j]!) r (ts.length * 7 + k) = (tokV t sg am nm cm)[k]! := fun k hk => by
        unfold catS
        rw [if_neg (by omega), if_pos (by omega), Nat.add_sub_cancel_left]
      exact ⟨sg, am, nm, cm, hg7 0 (by omega), hg7 1 (by omega), hg7 2 (by omega), hg7 3 (by omega), hg7 4 (by omega), hg7 5 (by omega), hg7 6 (by omega), hm.keep uk3⟩

set_option maxRecDepth 100000 in
set_option maxHeartbeats 16000000 in
theorem rtokens_any (F : List UInt8 → Nat) (s : ByteArray) (w : World) (hF : PFs F w.heap.size w s) :
    Calls Tryz.prog 9 #[.string s] w fun e w' => OutT w w' e (lexS F s) := by
  obtain ⟨R, HE⟩ : ∃ R, Hid (lexS F s = R) := ⟨_, hid rfl⟩
  rw [HE.out]
  have B0 := Bx.made w (.int .i64 0) (.int .i64 0) 26
  have hal := below_alloc w (.cells #[.int .i64 0, .int .i64 0] 26)
  by_cases hlong : 65536 < s.size
  · have hli : (65536 : Int) < (s.size : Int) := by omega
    have h := HE.out
    unfold lexS at h
    rw [if_pos hlong] at h
    subst h
    clear hF HE
    go_enter Tryz.func9, Tryz.ntmps9
    go_wp2_with (go_at_call 16; refine (bad_any 2 0 _).mono ?_; rintro e w2 ⟨rfl, hb2⟩; have E := B0.keep hb2; have e0 := E.c0; have e1 := E.c1; have ef := E.fr)
    refine bodyPost_ret (v := .tuple #[.slice none 0 0, .agg #[.int .i64 2, .int .i64 0]]) (by simp [results, Tryz.results9, go_sem, e0, e1]) rfl ?_
    exact ⟨((hal.trans (hb2.mono hal.size)).setCell (Nat.le_refl _) _).setCell (Nat.le_refl _) _, rfl⟩
  have hs : s.size ≤ 65536 := by omega
  have hli : ¬ (65536 : Int) < (s.size : Int) := by omega
  have HT : Hid (toksE F s 0 [] = R) := hid (by
    have h := HE.out
    unfold lexS at h
    rw [if_neg hlong] at h
    exact h)
  clear hlong HE
  have HF := hid hF
  clear hF
  go_enter Tryz.func9, Tryz.ntmps9
  go_wp2_with fail
  generalize w.alloc (.cells #[.int .i64 0, .int .i64 0] 26) = W1 at B0 hal ⊢
  have hl0 := B0.lt
  go_loopw [4, 5] (fun tv iv wr => ∃ (q : Nat) (ts : List Tok) (la : Option Addr) (lc : Nat), iv = .int .i64 (q : Nat) ∧ tv = .slice la ts.length lc ∧ Below (w.heap.size + 1) W1 wr ∧ Hid (Toks wr la ts.length lc ts ∧ New wr (w.heap.size + 1) la (lc * 7) ∧ (∀ x off, la = some ⟨x, off, none⟩ → x < wr.heap.size)) ∧ q ≤ s.size ∧ ts.length ≤ q ∧ Hid (toksE F s q ts = R)) (fun _ iv _ => s.size - (intOf iv).toNat)
  case atStart => exact ⟨0, [], none, 0, rfl, rfl, Below.refl _ _, hid ⟨Toks.nil _, New.nil _ _ _, fun x off e => by cases e⟩, Nat.zero_le _, Nat.le_refl _, HT⟩
  case round =>
    obtain ⟨q, ts, la, lc, rfl, rfl, hbl, HTK, hq, htq, HN⟩ := hrel
    have E0 := bx_below B0 hbl (by omega)
    have hblw : Below w.heap.size w wr := hal.trans (hbl.mono (Nat.le_succ _))
    have hsr := hblw.size
    have hsr1 := E0.lt
    have HU := toksE_unfold (F := F) (ts := ts) hq
    rw [HN.out] at HU
    rcases hbk : blankE s 0 q with _ | k
    · rw [hbk] at HU
      have HR := hid (show R = .error (31, s.size) from HU)
      have HB := hid hbk
      clear HU hbk
      go_wp2_with (go_at_call 17; refine (rblank_any s q _ hs hq).mono ?_; intro e w2 hO; rw [HB.out] at hO; obtain ⟨hb2, hO⟩ := hO; obtain rfl := hO; (have Bq := Bx.made w2 (.int .i64 31) (.int .i64 (s.size : Nat)) 26; have q0 := Bq.c0; have q1 := Bq.c1; have qf := Bq.fr; have q9 := Bq.lt; have E := E0.keep (hb2.trans ((below_alloc w2 (.cells #[.int .i64 31, .int .i64 (s.size : Nat)] 26)).mono hb2.size)); have hb3 := hblw.trans ((hb2.trans ((below_alloc w2 (.cells #[.int .i64 31, .int .i64 (s.size : Nat)] 26)).mono hb2.size)).mono hsr); have hs2 := hb2.size; have n1 : ¬ w2.heap.size = w.heap.size := (by omega); have n2 : ¬ w.heap.size = w2.heap.size := (by omega); have e0 := E.c0; have e1 := E.c1; have ef := E.fr))
      go_region
      go_wp2_with fail
      refine bodyPost_ret (v := .tuple #[.slice none 0 0, .agg #[.int .i64 31, .int .i64 (s.size : Nat)]]) (by simp [results, Tryz.results9, go_sem, e0, e1]) rfl ?_
      rw [HR.out]
      exact ⟨(hb3.drew.setCell (Nat.le_refl _) _).setCell (Nat.le_refl _) _, rfl⟩
    rw [hbk] at HU
    have HB := hid hbk
    have hk := blankE_ok hbk hq
    clear hbk
    unfold afterB at HU
    simp only at HU
    by_cases hend : s.size ≤ k
    · rw [if_pos hend] at HU
      have HR := hid HU
      clear HU
      have hki : (s.size : Int) ≤ (k : Int) := by omega
      go_wp2_with (go_at_call 17; refine (rblank_any s q _ hs hq).mono ?_; intro e w2 hO; rw [HB.out] at hO; obtain ⟨hb2, hO⟩ := hO; obtain rfl := hO; (have Bq := Bx.made w2 (.int .i64 0) (.int .i64 0) 26; have q0 := Bq.c0; have q1 := Bq.c1; have qf := Bq.fr; have q9 := Bq.lt; have E := E0.keep (hb2.trans ((below_alloc w2 (.cells #[.int .i64 0, .int .i64 0] 26)).mono hb2.size)); have hb3 := hblw.trans ((hb2.trans ((below_alloc w2 (.cells #[.int .i64 0, .int .i64 0] 26)).mono hb2.size)).mono hsr); have hs2 := hb2.size; have n1 : ¬ w2.heap.size = w.heap.size := (by omega); have n2 : ¬ w.heap.size = w2.heap.size := (by omega); have e0 := E.c0; have e1 := E.c1; have ef := E.fr))
      refine bodyPost_ret (v := .tuple #[.slice la ts.length lc, .agg #[.int .i64 0, .int .i64 0]]) (by simp [results, Tryz.results9, go_sem, e0, e1]) rfl ?_
      rw [HR.out]
      have hz := hb2.trans ((below_alloc w2 (.cells #[.int .i64 0, .int .i64 0] 26)).mono hb2.size)
      generalize w2.alloc (.cells #[.int .i64 0, .int .i64 0] 26) = w3 at hb3 hz E ⊢
      obtain ⟨g1, g2, g3⟩ := HTK.out
      have g2' := g1.below hz
      have g3' : New w3 w.heap.size la (lc * 7) := fun i hi => by
        obtain ⟨x, off, e, h1, h2⟩ := g2 i hi
        exact ⟨x, off, e, by omega, (hz.frozen (p := ⟨x, off + i, none⟩) (g3 x off e)).trans h2⟩
      have c0 := E.c0
      have c1 : (w3.setCell ⟨w.heap.size, 0, none⟩ (.int .i64 0)).cell? ⟨w.heap.size, 1, none⟩ = some (.int .i64 0) := by rw [World.cell?_setCell_other _ _ _ _ (by intro h; simp at h)]; exact E.c1
      refine ⟨(hb3.setCell (Nat.le_refl _) _).setCell (Nat.le_refl _) _, la, lc, rfl, ?_, (g3'.set _ _).set _ _⟩
      by_cases hlc : lc * 7 = 0
      · obtain ⟨hh, A, _, z, tk⟩ := g2'
        have := A.le
        refine ⟨hh, ⟨A.le, A.mx, fun j hj => by omega⟩, rfl, fun j h1 h2 => by omega, fun i t ht => ?_⟩
        have := (List.getElem?_eq_some_iff.1 ht).1
        omega
      · have hne : ∀ x off, la = some ⟨x, off, none⟩ → w.heap.size ≠ x := fun x off e => by
          obtain ⟨x', off', e', h1, h2⟩ := g2 0 (by omega)
          rw [e] at e'
          simp only [Option.some.injEq, Addr.mk.injEq, and_true] at e'
          omega
        exact (g2'.other c0 (fun _ h => by cases h) hne _).other c1 (fun _ h => by cases h) hne _
    rw [if_neg hend] at HU
    have hki : ¬ (s.size : Int) ≤ (k : Int) := by omega
    rcases hw : wordS F s k with ⟨c, qq⟩ | ⟨t, n⟩
    · rw [hw] at HU
      simp only at HU
      have hc0 := word_er hw
      have HW := hid hw
      have HR := hid HU
      clear hw HU
      have cn : ¬ (c : Int) = 0 := by omega
      have cb : ((c : Int) == 0) = false := by simp; omega
      go_upto_region 11 with (first | (go_at_call 17; refine (rblank_any s q _ hs hq).mono ?_; intro e w2 hO; rw [HB.out] at hO; obtain ⟨hb2, hO⟩ := hO; obtain rfl := hO; (have Bq := Bx.made w2 (.int .i64 0) (.int .i64 0) 26; have q0 := Bq.c0; have q1 := Bq.c1; have qf := Bq.fr; have q9 := Bq.lt; have E := E0.keep (hb2.trans ((below_alloc w2 (.cells #[.int .i64 0, .int .i64 0] 26)).mono hb2.size)); have hb3 := hblw.trans ((hb2.trans ((below_alloc w2 (.cells #[.int .i64 0, .int .i64 0] 26)).mono hb2.size)).mono hsr); have hs2 := hb2.size; have n1 : ¬ w2.heap.size = w.heap.size := (by omega); have n2 : ¬ w.heap.size = w2.heap.size := (by omega); have e0 := E.c0; have e1 := E.c1; have ef := E.fr)) | (go_at_call 18; refine (rword_any F s _ w.heap.size _ hs (by omega) hb3.size (fun i hi h1 h2 wx hx => HF.out i hi h1 h2 wx (hb3.trans hx))).mono ?_; intro e w4 hO; rw [HW.out] at hO; obtain ⟨hb4, k0, n0, hO⟩ := hO; obtain rfl := hO; have bz := hb4.trans ((below_alloc w4 (.cells #[.int .i64 k0, .string ⟨#[]⟩, .bool false, .slice none 0 0, .int .u64 0, .int .i64 0, .int .i64 0] 39)).mono hb4.size); have bz0 := (below_alloc w2 (.cells #[.int .i64 0, .int .i64 0] 26)).trans (bz.mono (below_alloc w2 (.cells #[.int .i64 0, .int .i64 0] 26)).size); have D := Bq.keep bz; have E := E.keep bz; have hb5 := hb3.trans (bz.mono hb3.size); have z4 := hb4.size; have n3 : ¬ w4.heap.size = w2.heap.size := (by omega); have n4 : ¬ w2.heap.size = w4.heap.size := (by omega); have d0 := D.c0; have d1 := D.c1; have df := D.fr; have e0 := E.c0; have e1 := E.c1; have ef := E.fr))
      have D := D.set2 (.int .i64 (c : Nat)) (.int .i64 (qq : Nat))
      have hx : Below w2.heap.size (w4.alloc (.cells #[.int .i64 k0, .string ⟨#[]⟩, .bool false, .slice none 0 0, .int .u64 0, .int .i64 0, .int .i64 0] 39)) (((w4.alloc (.cells #[.int .i64 k0, .string ⟨#[]⟩, .bool false, .slice none 0 0, .int .u64 0, .int .i64 0, .int .i64 0] 39)).setCell ⟨w2.heap.size, 0, none⟩ (.int .i64 (c : Nat))).setCell ⟨w2.heap.size, 1, none⟩ (.int .i64 (qq : Nat))) := below_set2 _ _ _ _
      have E := bx_below E hx (by omega)
      have hb6 := hb5.trans (hx.mono (by omega))
      generalize ((w4.alloc (.cells #[.int .i64 k0, .string ⟨#[]⟩, .bool false, .slice none 0 0, .int .u64 0, .int .i64 0, .int .i64 0] 39)).setCell ⟨w2.heap.size, 0, none⟩ (.int .i64 (c : Nat))).setCell ⟨w2.heap.size, 1, none⟩ (.int .i64 (qq : Nat)) = w5 at D E hb6 ⊢
      clear hx hb5 hb4 hb3 hb2 bz0
      clear q0 q1 qf d0 d1 df e0 e1 ef
      have d0 := D.c0
      have d1 := D.c1
      have df := D.fr
      have e0 := E.c0
      have e1 := E.c1
      have ef := E.fr
      go_wp2_with fail
      go_region
      go_wp2_with fail
      refine bodyPost_ret (v := .tuple #[.slice none 0 0, .agg #[.int .i64 (c : Nat), .int .i64 (qq : Nat)]]) (by simp [results, Tryz.results9, go_sem, e0, e1]) rfl ?_
      rw [HR.out]
      exact ⟨(hb6.drew.setCell (Nat.le_refl _) _).setCell (Nat.le_refl _) _, rfl⟩
    · rw [hw] at HU
      simp only at HU
      have hn := word_ok hw (by omega)
      have hpos := word_pos hw
      subst hpos
      have HW := hid hw
      have HR := hid HU
      clear hw HU
      go_upto_region 11 with (first | (go_at_call 17; refine (rblank_any s q _ hs hq).mono ?_; intro e w2 hO; rw [HB.out] at hO; obtain ⟨hb2, hO⟩ := hO; obtain rfl := hO; (have Bq := Bx.made w2 (.int .i64 0) (.int .i64 0) 26; have q0 := Bq.c0; have q1 := Bq.c1; have qf := Bq.fr; have q9 := Bq.lt; have E := E0.keep (hb2.trans ((below_alloc w2 (.cells #[.int .i64 0, .int .i64 0] 26)).mono hb2.size)); have hb3 := hblw.trans ((hb2.trans ((below_alloc w2 (.cells #[.int .i64 0, .int .i64 0] 26)).mono hb2.size)).mono hsr); have hs2 := hb2.size; have n1 : ¬ w2.heap.size = w.heap.size := (by omega); have n2 : ¬ w.heap.size = w2.heap.size := (by omega); have e0 := E.c0; have e1 := E.c1; have ef := E.fr)) | (go_at_call 18; refine (rword_any F s _ w.heap.size _ hs (by omega) hb3.size (fun i hi h1 h2 wx hx => HF.out i hi h1 h2 wx (hb3.trans hx))).mono ?_; intro e w4 hO; rw [HW.out] at hO; obtain ⟨hb4, sg, am, nm, cm, hO, mg⟩ := hO; obtain rfl := hO; have bz := hb4.trans ((below_alloc w4 (.cells #[.int .i64 (t.kind : Nat), .string ⟨t.text.toArray⟩, .bool sg, .slice am nm cm, .int .u64 (t.bits : Nat), .int .i64 (t.n : Nat), .int .i64 0] 39)).mono hb4.size); have bz0 := (below_alloc w2 (.cells #[.int .i64 0, .int .i64 0] 26)).trans (bz.mono (below_alloc w2 (.cells #[.int .i64 0, .int .i64 0] 26)).size); have D := Bq.keep bz; have E := E.keep bz; have hb5 := hb3.trans (bz.mono hb3.size); have z4 := hb4.size; have n3 : ¬ w4.heap.size = w2.heap.size := (by omega); have n4 : ¬ w2.heap.size = w4.heap.size := (by omega); have d0 := D.c0; have d1 := D.c1; have df := D.fr; have e0 := E.c0; have e1 := E.c1; have ef := E.fr))
      have D5 := D.set2 (.int .i64 0) (.int .i64 0)
      have u5 := (UsK.below (below_alloc w4 (.cells #[.int .i64 (t.kind : Nat), .string ⟨t.text.toArray⟩, .bool sg, .slice am nm cm, .int .u64 (t.bits : Nat), .int .i64 (t.n : Nat), .int .i64 0] 39))).trans (UsK.set2 D (.int .i64 0) (.int .i64 0))
      have hx : Below w2.heap.size (w4.alloc (.cells #[.int .i64 (t.kind : Nat), .string ⟨t.text.toArray⟩, .bool sg, .slice am nm cm, .int .u64 (t.bits : Nat), .int .i64 (t.n : Nat), .int .i64 0] 39)) (((w4.alloc (.cells #[.int .i64 (t.kind : Nat), .string ⟨t.text.toArray⟩, .bool sg, .slice am nm cm, .int .u64 (t.bits : Nat), .int .i64 (t.n : Nat), .int .i64 0] 39)).setCell ⟨w2.heap.size, 0, none⟩ (.int .i64 0)).setCell ⟨w2.heap.size, 1, none⟩ (.int .i64 0)) := below_set2 _ _ _ _
      have E5 := bx_below E hx (by omega)
      have hz := hb2.trans (bz0.mono hb2.size)
      have hz5 := hz.trans (hx.mono hb2.size)
      have cells5 := fun j => setb_other (w4.alloc (.cells #[.int .i64 (t.kind : Nat), .string ⟨t.text.toArray⟩, .bool sg, .slice am nm cm, .int .u64 (t.bits : Nat), .int .i64 (t.n : Nat), .int .i64 0] 39)) (b := w2.heap.size) (b' := w4.heap.size) j (.int .i64 0) (.int .i64 0) (by omega)
      have fr5 : ∀ o, (((w4.alloc (.cells #[.int .i64 (t.kind : Nat), .string ⟨t.text.toArray⟩, .bool sg, .slice am nm cm, .int .u64 (t.bits : Nat), .int .i64 (t.n : Nat), .int .i64 0] 39)).setCell ⟨w2.heap.size, 0, none⟩ (.int .i64 0)).setCell ⟨w2.heap.size, 1, none⟩ (.int .i64 0)).frozen? ⟨w4.heap.size, o, none⟩ = false := fun o => by simp [World.frozen?_alloc_new]
      have s5 : w4.heap.size < (((w4.alloc (.cells #[.int .i64 (t.kind : Nat), .string ⟨t.text.toArray⟩, .bool sg, .slice am nm cm, .int .u64 (t.bits : Nat), .int .i64 (t.n : Nat), .int .i64 0] 39)).setCell ⟨w2.heap.size, 0, none⟩ (.int .i64 0)).setCell ⟨w2.heap.size, 1, none⟩ (.int .i64 0)).heap.size := by simp
      refine gen_world _ (fun W5 hW5 => ?_)
      rw [← hW5] at D5 u5 E5 hz5 cells5 fr5 s5
      clear hW5
      have x0 : W5.cell? ⟨w4.heap.size, 0, none⟩ = some (.int .i64 (t.kind : Nat)) := (cells5 0).trans (World.cell?_alloc_new w4 _ _ 0)
      have x1 : W5.cell? ⟨w4.heap.size, 1, none⟩ = some (.string ⟨t.text.toArray⟩) := (cells5 1).trans (World.cell?_alloc_new w4 _ _ 1)
      have x2 : W5.cell? ⟨w4.heap.size, 2, none⟩ = some (.bool sg) := (cells5 2).trans (World.cell?_alloc_new w4 _ _ 2)
      have x3 : W5.cell? ⟨w4.heap.size, 3, none⟩ = some (.slice am nm cm) := (cells5 3).trans (World.cell?_alloc_new w4 _ _ 3)
      have x4 : W5.cell? ⟨w4.heap.size, 4, none⟩ = some (.int .u64 (t.bits : Nat)) := (cells5 4).trans (World.cell?_alloc_new w4 _ _ 4)
      have x5 : W5.cell? ⟨w4.heap.size, 5, none⟩ = some (.int .i64 (t.n : Nat)) := (cells5 5).trans (World.cell?_alloc_new w4 _ _ 5)
      have x6 : W5.cell? ⟨w4.heap.size, 6, none⟩ = some (.int .i64 0) := (cells5 6).trans (World.cell?_alloc_new w4 _ _ 6)
      clear cells5 hx hb5 bz0 q0 q1 qf d0 d1 df e0 e1 ef
      have d0 := D5.c0
      have e0 := E5.c0
      go_upto_region 14 with fail
      have oth6 : ∀ j, j ≠ 6 → (W5.setCell ⟨w4.heap.size, 6, none⟩ (.int .i64 (t.pos : Nat))).cell? ⟨w4.heap.size, j, none⟩ = W5.cell? ⟨w4.heap.size, j, none⟩ := fun j hj => World.cell?_setCell_other _ _ _ _ (by intro e; simp only [Addr.mk.injEq] at e; omega)
      have y6 := World.cell?_setCell_same W5 ⟨w4.heap.size, 6, none⟩ (.int .i64 (t.pos : Nat)) x6
      have u6 := u5.trans ((UsK.refl W5).set x6 (fun _ h => by cases h) (.int .i64 (t.pos : Nat)))
      have hz6 := hz5.setCell (p := ⟨w4.heap.size, 6, none⟩) (by simp only; omega) (.int .i64 (t.pos : Nat))
      generalize W5.setCell ⟨w4.heap.size, 6, none⟩ (.int .i64 (t.pos : Nat)) = W6 at oth6 y6 u6 hz6 ⊢
      have y0 := (oth6 0 (by omega)).trans x0
      have y1 := (oth6 1 (by omega)).trans x1
      have y2 := (oth6 2 (by omega)).trans x2
      have y3 := (oth6 3 (by omega)).trans x3
      have y4 := (oth6 4 (by omega)).trans x4
      have y5 := (oth6 5 (by omega)).trans x5
      clear oth6
      obtain ⟨⟨hh, hA, _, hz0, htk⟩, hN, hlx⟩ := HTK.out
      have HA := hid hA
      have HZ := hid hz0
      have HTT := hid htk
      have HNN := hid hN
      have HLX := hid hlx
      have HMG := hid (mg.keep u6)
      clear hA hz0 htk hN hlx mg u5 u6 HTK
      have hz7 : Below wr.heap.size wr (W6.alloc (.cells (tokV t sg am nm cm) 39)) := hz6.trans ((below_alloc W6 (.cells (tokV t sg am nm cm) 39)).mono hz6.size)
      have A7 : ArrS (W6.alloc (.cells (tokV t sg am nm cm) 39)) la ts.length lc 7 hh := ⟨HA.out.le, HA.out.mx, fun j hj => by
        obtain ⟨x, off, e, hc⟩ := HA.out.cell j hj
        exact ⟨x, off, e, (hz7.cell (p := ⟨x, off + j, none⟩) (HLX.out x off e)).trans hc⟩⟩
      have N7 : New (W6.alloc (.cells (tokV t sg am nm cm) 39)) (w.heap.size + 1) la (lc * 7) := fun i hi => by
        obtain ⟨x, off, e, h1, h2⟩ := HNN.out i hi
        exact ⟨x, off, e, h1, (hz7.frozen (p := ⟨x, off + i, none⟩) (HLX.out x off e)).trans h2⟩
      have L7 : ∀ x off, la = some ⟨x, off, none⟩ → x < (W6.alloc (.cells (tokV t sg am nm cm) 39)).heap.size := fun x off e => Nat.lt_of_lt_of_le (HLX.out x off e) hz7.size
      have T7 : ∀ i u, ts[i]? = some u → TokC (W6.alloc (.cells (tokV t sg am nm cm) 39)) u hh (i * 7) := fun i u hu => (HTT.out i u hu).keep (UsK.below hz7)
      have M7 := HMG.out.keep (UsK.below (below_alloc W6 (.cells (tokV t sg am nm cm) 39)))
      have HA7 := hid A7
      have HN7 := hid N7
      have HT7 := hid (And.intro T7 (And.intro M7 L7))
      clear A7 N7 T7 M7 L7
      go_wp2_with (at_builtin; refine wpList_append_one _ rfl _ _ _ _ rfl 39 39 tokZ 7 80 Tryz.und29 Tryz.und29 Tryz.info39 rfl (by omega) (w.heap.size + 1) (by have := hz6.size; simp; omega) la ts.length lc hh (fun j => (tokV t sg am nm cm)[j]!) W6.heap.size 0 1 rfl rfl HA7.out HN7.out (tokV_nw W6 t sg am nm cm 39) (tokV_one _ _ _ _ _) (by omega) (by omega) ?_; intro a' c' r w7 hr A8 N8 hb8 hk8; have HP := hid (push_tk HA7.out HZ.out HT7.out.1 HT7.out.2.2 HT7.out.2.1 hr A8 hk8); have H8 := hid hb8; have HN8 := hid N8; clear hr A8 N8 hb8 hk8)
      obtain ⟨P1, P2, _⟩ := HP.out
      refine ⟨⟨n, ts ++ [t], a', c', rfl, by simp, hbl.trans ((hz7.mono hsr1).trans H8.out), hid ⟨P1, HN8.out, P2⟩, hn.2, by simp; omega, hid HR.out.symm⟩, ?_⟩
      simp [intOf]
      omega
end Go.Proofs.YtajpeeccomgnnaaGreatDoor
/-! LexTokens, walked; open is the library's ParseFloat alone. -/
namespace Go.Proofs.YtajpeeccomgnnaaGreatDoor
set_option linter.all false
open Go Go.RowKit

set_option maxRecDepth 100000 in
set_option maxHeartbeats 4000000 in
theorem one_any (t : Tok) (sg sg' : Bool) (a a' : Option Addr) (n c n' c' : Nat) (w : World) (m : Mg w sg a n c t.num) (m' : Mg w sg' a' n' c' t.num) :
    Calls Tryz.prog 10 #[.agg (tokV t sg a n c), .agg (tokV t sg' a' n' c')] w fun e w' => e = .returned (.bool true) ∧ Below w.heap.size w w' := by
  obtain ⟨f, u, hn, nm, h0, hv⟩ := m
  obtain ⟨g, u', hn', nm', h0', hv'⟩ := m'
  have hst : stB sg f n = true := stB_iff.2 ⟨nm, h0⟩
  have hB : Hid ((stB sg f n && decide (ival sg (val f n) = ival sg' (val g n'))) = true) := hid (by rw [hst, hv, hv']; simp)
  clear hst hv hv' nm nm' h0 h0'
  unfold tokV
  go_enter Tryz.func10, Tryz.ntmps10
  go_wp2_with (go_at_call 19; refine (is_any _ _ _ _ _ _ _ _ _ _ _ (by omega) (by omega) (u.alloc2 _ _) (u'.alloc2 _ _)).mono ?_; rintro e w1 ⟨rfl, hb⟩; rw [hB.out]; have x0 := show w1.cell? ⟨w.heap.size, 0, none⟩ = some (.int .i64 (t.kind : Nat)) from (hb.cell (p := ⟨w.heap.size, 0, none⟩) (by simp; omega)).trans (cell_two_a w _ _ _ _ 0); have x1 := show w1.cell? ⟨w.heap.size, 1, none⟩ = some (.string ⟨t.text.toArray⟩) from (hb.cell (p := ⟨w.heap.size, 1, none⟩) (by simp; omega)).trans (cell_two_a w _ _ _ _ 1); have x4 := show w1.cell? ⟨w.heap.size, 4, none⟩ = some (.int .u64 (t.bits : Nat)) from (hb.cell (p := ⟨w.heap.size, 4, none⟩) (by simp; omega)).trans (cell_two_a w _ _ _ _ 4); have x5 := show w1.cell? ⟨w.heap.size, 5, none⟩ = some (.int .i64 (t.n : Nat)) from (hb.cell (p := ⟨w.heap.size, 5, none⟩) (by simp; omega)).trans (cell_two_a w _ _ _ _ 5); have x6 := show w1.cell? ⟨w.heap.size, 6, none⟩ = some (.int .i64 (t.pos : Nat)) from (hb.cell (p := ⟨w.heap.size, 6, none⟩) (by simp; omega)).trans (cell_two_a w _ _ _ _ 6); have y0 := show w1.cell? ⟨w.heap.size + 1, 0, none⟩ = some (.int .i64 (t.kind : Nat)) from (hb.cell (p := ⟨w.heap.size + 1, 0, none⟩) (by simp)).trans (cell_two_b w _ _ _ _ 0); have y1 := show w1.cell? ⟨w.heap.size + 1, 1, none⟩ = some (.string ⟨t.text.toArray⟩) from (hb.cell (p := ⟨w.heap.size + 1, 1, none⟩) (by simp)).trans (cell_two_b w _ _ _ _ 1); have y4 := show w1.cell? ⟨w.heap.size + 1, 4, none⟩ = some (.int .u64 (t.bits : Nat)) from (hb.cell (p := ⟨w.heap.size + 1, 4, none⟩) (by simp)).trans (cell_two_b w _ _ _ _ 4); have y5 := show w1.cell? ⟨w.heap.size + 1, 5, none⟩ = some (.int .i64 (t.n : Nat)) from (hb.cell (p := ⟨w.heap.size + 1, 5, none⟩) (by simp)).trans (cell_two_b w _ _ _ _ 5); have y6 := show w1.cell? ⟨w.heap.size + 1, 6, none⟩ = some (.int .i64 (t.pos : Nat)) from (hb.cell (p := ⟨w.heap.size + 1, 6, none⟩) (by simp)).trans (cell_two_b w _ _ _ _ 6))
  go_ret
  refine ⟨?_, (below_alloc2 w _ _).trans (hb.mono (by simp; omega))⟩
  try simp
theorem Toks.at {w : World} {la : Option Addr} {lc : Nat} {ts : List Tok} (h : Toks w la ts.length lc ts) {i : Nat} {t : Tok} (ht : ts[i]? = some t) : ∃ x off sg a nn c, la = some ⟨x, off, none⟩ ∧ (w.cell? ⟨x, off + i * 7, none⟩ = some (.int .i64 (t.kind : Nat)) ∧ w.cell? ⟨x, off + i * 7 + 1, none⟩ = some (.string ⟨t.text.toArray⟩) ∧ w.cell? ⟨x, off + i * 7 + 2, none⟩ = some (.bool sg) ∧ w.cell? ⟨x, off + i * 7 + 3, none⟩ = some (.slice a nn c) ∧ w.cell? ⟨x, off + i * 7 + 4, none⟩ = some (.int .u64 (t.bits : Nat)) ∧ w.cell? ⟨x, off + i * 7 + 5, none⟩ = some (.int .i64 (t.n : Nat)) ∧ w.cell? ⟨x, off + i * 7 + 6, none⟩ = some (.int .i64 (t.pos : Nat))) ∧ Mg w sg a nn c t.num := by
  obtain ⟨hh, A, _, _, tk⟩ := h
  have hi := (List.getElem?_eq_some_iff.1 ht).1
  have hle := A.le
  obtain ⟨x, off, rfl, hc⟩ := A.addr (by omega)
  obtain ⟨sg, a, nn, c, t0, t1, t2, t3, t4, t5, t6, m⟩ := tk i t ht
  refine ⟨x, off, sg, a, nn, c, rfl, ⟨?_, ?_, ?_, ?_, ?_, ?_, ?_⟩, m⟩
  · exact (hc (i * 7) (by omega)).trans (congrArg some t0)
  · rw [Nat.add_assoc]; exact (hc (i * 7 + 1) (by omega)).trans (congrArg some t1)
  · rw [Nat.add_assoc]; exact (hc (i * 7 + 2) (by omega)).trans (congrArg some t2)
  · rw [Nat.add_assoc]; exact (hc (i * 7 + 3) (by omega)).trans (congrArg some t3)
  · rw [Nat.add_assoc]; exact (hc (i * 7 + 4) (by omega)).trans (congrArg some t4)
  · rw [Nat.add_assoc]; exact (hc (i * 7 + 5) (by omega)).trans (congrArg some t5)
  · rw [Nat.add_assoc]; exact (hc (i * 7 + 6) (by omega)).trans (congrArg some t6)

set_option maxRecDepth 100000 in
set_option maxHeartbeats 8000000 in
theorem lexTokens_walk (F : List UInt8 → Nat) (l : List UInt8) (m : Int) (w : World) (hb1 : 1 < w.heap.size) (hm : w.cell? ⟨1, 0, none⟩ = some (.int .i64 m)) (hF : PFs F w.heap.size w ⟨l.toArray⟩) :
    Calls Tryz.prog 3 #[.string ⟨l.toArray⟩] w fun e w' => e = .returned (.bool true) ∧ Below w.heap.size w w' := by
  obtain ⟨s, hs⟩ : ∃ s : ByteArray, s = ⟨l.toArray⟩ := ⟨_, rfl⟩
  rw [← hs] at hF ⊢
  clear hs
  have HF := hid hF
  clear hF
  obtain ⟨R, HE⟩ : ∃ R, Hid (lexS F s = R) := ⟨_, hid rfl⟩
  rcases R with ⟨c, q⟩ | ts
  · go_enter Tryz.func3, Tryz.ntmps3
    go_wp2_with (first | (go_at_call 7; refine (awake_any m _ hb1 hm).mono ?_; rintro e w1 ⟨rfl, hb⟩; have hm1 := (hb.cell (p := ⟨1, 0, none⟩) hb1).trans hm; have hs1 := hb.size) | (go_at_call 8; refine (tokens_any F s m _ (by omega) hm1 (fun i hi h1 h2 wx hx => HF.out i hi h1 h2 wx (hb.trans (hx.mono hs1)))).mono ?_; intro e w2 hO; unfold OutT at hO; rw [HE.out] at hO; obtain ⟨hb2, rfl⟩ := hO; have D2 := Bx.made w2 (.int .i64 (c : Nat)) (.int .i64 (q : Nat)) 26; have b3 := (hb.trans (hb2.mono hs1)).trans ((below_alloc w2 (.cells #[.int .i64 (c : Nat), .int .i64 (q : Nat)] 26)).mono (Nat.le_trans hs1 hb2.size)); have hs3 := b3.size) | (go_at_call 9; refine (rtokens_any F s _ (fun i hi h1 h2 wx hx => HF.out i hi h1 h2 wx (b3.trans (hx.mono hs3)))).mono ?_; intro e w4 hO; unfold OutT at hO; rw [HE.out] at hO; obtain ⟨hb4, rfl⟩ := hO; have D4 := D2.keep hb4; have p := D4.alloc (.cells #[.int .i64 (c : Nat), .int .i64 (q : Nat)] 26); have p0 := p.c0; have p1 := p.c1; have b4 := b3.trans (hb4.mono hs3); have b5 := b4.trans ((below_alloc w4 (.cells #[.int .i64 (c : Nat), .int .i64 (q : Nat)] 26)).mono b4.size); have q := Bx.made w4 (.int .i64 (c : Nat)) (.int .i64 (q : Nat)) 26; have q0 := q.c0; have q1 := q.c1))
    go_loopw [8] (fun iv wr => iv = .int .i64 0 ∧ Below w.heap.size w wr) (fun _ _ => 0)
    case atStart => exact ⟨rfl, b5⟩
    case round =>
      obtain ⟨rfl, hbr⟩ := hrel
      go_wp2_with fail
      go_ret
      exact ⟨rfl, hbr⟩
  · go_enter Tryz.func3, Tryz.ntmps3
    go_wp2_with (first | (go_at_call 7; refine (awake_any m _ hb1 hm).mono ?_; rintro e w1 ⟨rfl, hb⟩; have hm1 := (hb.cell (p := ⟨1, 0, none⟩) hb1).trans hm; have hs1 := hb.size) | (go_at_call 8; refine (tokens_any F s m _ (by omega) hm1 (fun i hi h1 h2 wx hx => HF.out i hi h1 h2 wx (hb.trans (hx.mono hs1)))).mono ?_; intro e w2 hO; unfold OutT at hO; rw [HE.out] at hO; obtain ⟨hb2, la, lc, hO, T2, N2⟩ := hO; obtain rfl := hO; have D2 := Bx.made w2 (.int .i64 0) (.int .i64 0) 26; have b3 := (hb.trans (hb2.mono hs1)).trans ((below_alloc w2 (.cells #[.int .i64 0, .int .i64 0] 26)).mono (Nat.le_trans hs1 hb2.size)); have hs3 := b3.size) | (go_at_call 9; refine (rtokens_any F s _ (fun i hi h1 h2 wx hx => HF.out i hi h1 h2 wx (b3.trans (hx.mono hs3)))).mono ?_; intro e w4 hO; unfold OutT at hO; rw [HE.out] at hO; obtain ⟨hb4, la', lc', hO, T4, N4⟩ := hO; obtain rfl := hO; have D4 := D2.keep hb4; have p := D4.alloc (.cells #[.int .i64 0, .int .i64 0] 26); have p0 := p.c0; have p1 := p.c1; have b4 := b3.trans (hb4.mono hs3); have b5 := b4.trans ((below_alloc w4 (.cells #[.int .i64 0, .int .i64 0] 26)).mono b4.size); have q := Bx.made w4 (.int .i64 0) (.int .i64 0) 26; have q0 := q.c0; have q1 := q.c1))
    have TA := (T2.below ((below_alloc w2 (.cells #[.int .i64 0, .int .i64 0] 26)).trans (hb4.mono (below_alloc w2 (.cells #[.int .i64 0, .int .i64 0] 26)).size))).below (below_alloc w4 (.cells #[.int .i64 0, .int .i64 0] 26))
    have TB := T4.below (below_alloc w4 (.cells #[.int .i64 0, .int .i64 0] 26))
    clear T2 T4 N2 N4
    clear p0 p1 q0 q1
    generalize w4.alloc (.cells #[.int .i64 0, .int .i64 0] 26) = w5 at TA TB b5 ⊢
    clear hb4 hb2 hb D2
    have hmx : ts.length ≤ 9223372036854775807 := by
      obtain ⟨_, A, _⟩ := TA
      have h1 := A.le
      have h2 := A.mx
      unfold maxLen at h2
      omega
    have HTA := hid TA
    have HTB := hid TB
    clear TA TB
    go_loopw [8] (fun iv wr => ∃ i : Nat, iv = .int .i64 (i : Nat) ∧ i ≤ ts.length ∧ Below w5.heap.size w5 wr) (fun iv _ => ts.length - (intOf iv).toNat)
    case atStart => exact ⟨0, rfl, Nat.zero_le _, Below.refl _ _⟩
    case round =>
      obtain ⟨i, rfl, hi, hbr⟩ := hrel
      by_cases hlt : i < ts.length
      rotate_left 1
      · have hni : ¬ (i : Int) < (ts.length : Int) := by omega
        go_wp2_with fail
        go_ret
        exact ⟨rfl, b5.trans (hbr.mono b5.size)⟩
      have hli : (i : Int) < (ts.length : Int) := by omega
      obtain ⟨t, ht⟩ : ∃ t, ts[i]? = some t := ⟨_, List.getElem?_eq_getElem hlt⟩
      obtain ⟨x, off, sg, a, nn, c, rfl, ⟨x0, x1, x2, x3, x4, x5, x6⟩, mg⟩ := (HTA.out.below hbr).at ht
      obtain ⟨x', off', sg', a', nn', c', rfl, ⟨y0, y1, y2, y3, y4, y5, y6⟩, mg'⟩ := (HTB.out.below hbr).at ht
      have HMA := hid mg
      have HMB := hid mg'
      clear mg mg'
      clear ht
      have hS0 := (And.intro x0 (And.intro x1 (And.intro x2 (And.intro x3 (And.intro x4 (And.intro x5 (And.intro x6 (And.intro y0 (And.intro y1 (And.intro y2 (And.intro y3 (And.intro y4 (And.intro y5 y6)))))))))))))
      go_wp2_with fail
      refine region_T (S := fun wx => wx.cell? ⟨x, off + i * 7, none⟩ = some (.int .i64 (t.kind : Nat)) ∧ wx.cell? ⟨x, off + i * 7 + 1, none⟩ = some (.string ⟨t.text.toArray⟩) ∧ wx.cell? ⟨x, off + i * 7 + 2, none⟩ = some (.bool sg) ∧ wx.cell? ⟨x, off + i * 7 + 3, none⟩ = some (.slice a nn c) ∧ wx.cell? ⟨x, off + i * 7 + 4, none⟩ = some (.int .u64 (t.bits : Nat)) ∧ wx.cell? ⟨x, off + i * 7 + 5, none⟩ = some (.int .i64 (t.n : Nat)) ∧ wx.cell? ⟨x, off + i * 7 + 6, none⟩ = some (.int .i64 (t.pos : Nat)) ∧ wx.cell? ⟨x', off' + i * 7, none⟩ = some (.int .i64 (t.kind : Nat)) ∧ wx.cell? ⟨x', off' + i * 7 + 1, none⟩ = some (.string ⟨t.text.toArray⟩) ∧ wx.cell? ⟨x', off' + i * 7 + 2, none⟩ = some (.bool sg') ∧ wx.cell? ⟨x', off' + i * 7 + 3, none⟩ = some (.slice a' nn' c') ∧ wx.cell? ⟨x', off' + i * 7 + 4, none⟩ = some (.int .u64 (t.bits : Nat)) ∧ wx.cell? ⟨x', off' + i * 7 + 5, none⟩ = some (.int .i64 (t.n : Nat)) ∧ wx.cell? ⟨x', off' + i * 7 + 6, none⟩ = some (.int .i64 (t.pos : Nat))) (T := fun j => j == 9) (by kernel_rfl) ?_
      refine anyT_take (i := 0) (v := ?_) rfl (by kernel_rfl) (by kernel_rfl) (by kernel_rfl) (by kernel_rfl) (by kernel_rfl) (fun _ _ _ h => h) (Or.inl ⟨by rfl, ?_⟩) (by simpa using hS0) ?_
      rotate_left 1
      · intro wz hz; obtain ⟨_, _, _, _, _, _, _, _, _, _, _, _, _, _⟩ := hz; go_simp; try with_reducible rfl
      try simp only [Act.put, List.setIfInBounds_toArray, List.set_cons_zero, List.set_cons_succ]
      refine anyT_take (i := 1) (v := ?_) rfl (by kernel_rfl) (by kernel_rfl) (by kernel_rfl) (by kernel_rfl) (by kernel_rfl) (fun _ _ _ h => h) (Or.inl ⟨by rfl, ?_⟩) (by simpa using hS0) ?_
      rotate_left 1
      · intro wz hz; obtain ⟨_, _, _, _, _, _, _, _, _, _, _, _, _, _⟩ := hz; go_simp; try with_reducible rfl
      try simp only [Act.put, List.setIfInBounds_toArray, List.set_cons_zero, List.set_cons_succ]
      refine anyT_take (i := 2) (v := ?_) rfl (by kernel_rfl) (by kernel_rfl) (by kernel_rfl) (by kernel_rfl) (by kernel_rfl) (fun _ _ _ h => h) (Or.inl ⟨by rfl, ?_⟩) (by simpa using hS0) ?_
      rotate_left 1
      · intro wz hz; obtain ⟨_, _, _, _, _, _, _, _, _, _, _, _, _, _⟩ := hz; go_simp; try with_reducible rfl
      try simp only [Act.put, List.setIfInBounds_toArray, List.set_cons_zero, List.set_cons_succ]
      refine anyT_take (i := 3) (v := ?_) rfl (by kernel_rfl) (by kernel_rfl) (by kernel_rfl) (by kernel_rfl) (by kernel_rfl) (fun _ _ _ h => h) (Or.inl ⟨by rfl, ?_⟩) (by simpa using hS0) ?_
      rotate_left 1
      · intro wz hz; obtain ⟨_, _, _, _, _, _, _, _, _, _, _, _, _, _⟩ := hz; go_simp; try with_reducible rfl
      try simp only [Act.put, List.setIfInBounds_toArray, List.set_cons_zero, List.set_cons_succ]
      refine anyT_take (i := 4) (v := ?_) rfl (by kernel_rfl) (by kernel_rfl) (by kernel_rfl) (by kernel_rfl) (by kernel_rfl) (fun _ _ _ h => h) (Or.inl ⟨by rfl, ?_⟩) (by simpa using hS0) ?_
      rotate_left 1
      · intro wz hz; obtain ⟨_, _, _, _, _, _, _, _, _, _, _, _, _, _⟩ := hz; go_simp; try with_reducible rfl
      try simp only [Act.put, List.setIfInBounds_toArray, List.set_cons_zero, List.set_cons_succ]
      refine anyT_take (i := 5) (v := ?_) rfl (by kernel_rfl) (by kernel_rfl) (by kernel_rfl) (by kernel_rfl) (by kernel_rfl) (fun _ _ _ h => h) (Or.inl ⟨by rfl, ?_⟩) (by simpa using hS0) ?_
      rotate_left 1
      · intro wz hz; obtain ⟨_, _, _, _, _, _, _, _, _, _, _, _, _, _⟩ := hz; go_simp; try with_reducible rfl
      try simp only [Act.put, List.setIfInBounds_toArray, List.set_cons_zero, List.set_cons_succ]
      refine anyT_take (i := 6) (v := ?_) rfl (by kernel_rfl) (by kernel_rfl) (by kernel_rfl) (by kernel_rfl) (by kernel_rfl) (fun _ _ _ h => h) (Or.inl ⟨by rfl, ?_⟩) (by simpa using hS0) ?_
      rotate_left 1
      · intro wz hz; obtain ⟨_, _, _, _, _, _, _, _, _, _, _, _, _, _⟩ := hz; go_simp; try with_reducible rfl
      try simp only [Act.put, List.setIfInBounds_toArray, List.set_cons_zero, List.set_cons_succ]
      refine anyT_take (i := 7) (v := ?_) rfl (by kernel_rfl) (by kernel_rfl) (by kernel_rfl) (by kernel_rfl) (by kernel_rfl) (fun _ _ _ h => h) (Or.inl ⟨by rfl, ?_⟩) (by simpa using hS0) ?_
      rotate_left 1
      · intro wz hz; obtain ⟨_, _, _, _, _, _, _, _, _, _, _, _, _, _⟩ := hz; go_simp; try with_reducible rfl
      try simp only [Act.put, List.setIfInBounds_toArray, List.set_cons_zero, List.set_cons_succ]
      refine anyT_one (i := 8) (by kernel_rfl) rfl (fun K hK => ?_)
      rw [if_pos (by rfl)]
      go_simp
      have hd := (Below.refl wr.heap.size wr).drew
      refine (one_any t sg sg' a a' nn c nn' c' _ (HMA.out.keep (UsK.below hd)) (HMB.out.keep (UsK.below hd))).mono ?_
      rintro e w6 ⟨rfl, hb6⟩
      have hb7 := hd.trans (hb6.mono hd.size)
      have hxl := World.block_lt_of_cell? wr _ x0
      have hyl := World.block_lt_of_cell? wr _ y0
      have hS6 := (And.intro ((hb7.cell (p := ⟨x, off + i * 7, none⟩) hxl).trans x0) (And.intro ((hb7.cell (p := ⟨x, off + i * 7 + 1, none⟩) hxl).trans x1) (And.intro ((hb7.cell (p := ⟨x, off + i * 7 + 2, none⟩) hxl).trans x2) (And.intro ((hb7.cell (p := ⟨x, off + i * 7 + 3, none⟩) hxl).trans x3) (And.intro ((hb7.cell (p := ⟨x, off + i * 7 + 4, none⟩) hxl).trans x4) (And.intro ((hb7.cell (p := ⟨x, off + i * 7 + 5, none⟩) hxl).trans x5) (And.intro ((hb7.cell (p := ⟨x, off + i * 7 + 6, none⟩) hxl).trans x6) (And.intro ((hb7.cell (p := ⟨x', off' + i * 7, none⟩) hyl).trans y0) (And.intro ((hb7.cell (p := ⟨x', off' + i * 7 + 1, none⟩) hyl).trans y1) (And.intro ((hb7.cell (p := ⟨x', off' + i * 7 + 2, none⟩) hyl).trans y2) (And.intro ((hb7.cell (p := ⟨x', off' + i * 7 + 3, none⟩) hyl).trans y3) (And.intro ((hb7.cell (p := ⟨x', off' + i * 7 + 4, none⟩) hyl).trans y4) (And.intro ((hb7.cell (p := ⟨x', off' + i * 7 + 5, none⟩) hyl).trans y5) ((hb7.cell (p := ⟨x', off' + i * 7 + 6, none⟩) hyl).trans y6))))))))))))))
      refine hK.out _ _ (fun _ => hS6) ?_
      clear hK K hS6
      try simp only [Act.put, List.setIfInBounds_toArray, List.set_cons_zero, List.set_cons_succ]
      refine anyT_one (i := 9) (by kernel_rfl) rfl (fun K hK => ?_)
      go_simp
      refine hK.out _ _ (fun h => by cases h) ?_
      clear hK K
      try simp only [Act.put, List.setIfInBounds_toArray, List.set_cons_zero, List.set_cons_succ]
      refine anyT_done (by kernel_rfl) ?_ _
      go_wp2_with fail
      exact ⟨⟨i + 1, rfl, by omega, hbr.trans (hb7.mono hbr.size)⟩, by simp [intOf]; omega⟩
end Go.Proofs.YtajpeeccomgnnaaGreatDoor
/-! LexTokens, walked, the library's reals too. Condition: what the row lists. -/
namespace Go.Proofs.YtajpeeccomgnnaaGreatDoor
set_option linter.all false
open Go Go.RowKit

theorem lexTokens_full (l : List UInt8) (m : Int) (w : World) (hb1 : 1 < w.heap.size) (hm : w.cell? ⟨1, 0, none⟩ = some (.int .i64 m)) (hL : laidMetH Tryz.prog Rows.lexTokensUptoRow.laid w) (_ : l.length ≤ 281474976710656) :
    Calls Tryz.prog 3 #[.string ⟨l.toArray⟩] w fun e w' => e = .returned (.bool true) ∧ Below w.heap.size w w' := by
  obtain ⟨x, off, y, off2, z, off3, ht⟩ := TL_of_laid hL
  exact lexTokens_walk _ l m w hb1 hm (pfs_laid (Nat.le_refl _) ht _)
end Go.Proofs.YtajpeeccomgnnaaGreatDoor
