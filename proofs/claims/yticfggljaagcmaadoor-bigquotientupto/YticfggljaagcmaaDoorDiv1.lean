/-
  big.natDiv, walked: the long division.
-/
import Derived.Test.YticfggljaagcmaaDoorDiv0
import Derived.Test.YticfggljaagcmaaDoorShelf
import Derived.Deep.RegionWith
namespace Go.Proofs.YticfggljaagcmaaDoor
set_option linter.all false
open Go.RowKit

theorem left_int (a : Option Addr) (n c : Nat) (S : Int) (s : Nat) (f : Nat → Nat) (w : World) (eS : S = (s : Int)) (hn : n ≤ 1099511627776) (hs : s ≤ 31) (hu : Us w a n c f) :
    Calls Tryd.prog 68 #[.slice a n c, .int .u64 S] w fun e w' => ∃ g h, e = .returned (.slice (some ⟨g, 0, none⟩) (n + 1) (n + 1)) ∧ Cs w' g 0 (n + 1) h ∧ Fr w' g 0 (n + 1) ∧ Lm h (n + 1) ∧ w.heap.size ≤ g ∧ Below w.heap.size w w' ∧ val h (n + 1) = val f n * 2 ^ s := by
  subst eS
  exact left_any a n c s f w hn hs hu

theorem Cs.put2 {w w' : World} {g k len : Nat} {h r : Nat → Nat} (c : Cs w g 0 (k + len) h) (md : Md w w' g k len) (d : Cs w' g k len r) : Cs w' g 0 (k + len) (putAt h k r) := by
  intro j hj
  rw [Nat.zero_add]
  simp only [YticfggljaagcmaaDoor.putAt]
  split
  · rename_i hlt
    rw [md.cell j (.inl hlt)]
    have := c j (by omega)
    rwa [Nat.zero_add] at this
  · have := d (j - k) (by omega)
    rwa [show k + (j - k) = j by omega] at this
theorem Cs.frm {w : World} {g k len n : Nat} {h : Nat → Nat} (c : Cs w g 0 n h) (hn : k + len ≤ n) : Cs w g k len (frm h k) := by
  intro j hj
  have := c (k + j) (by omega)
  rwa [Nat.zero_add] at this
theorem Cs.lt {w : World} {g off n : Nat} {h : Nat → Nat} (c : Cs w g off n h) (hn : 0 < n) : g < w.heap.size := World.block_lt_of_cell? w _ (c 0 hn)
theorem Cs.cut {w : World} {g off n m : Nat} {h : Nat → Nat} (c : Cs w g off n h) (hn : m ≤ n) : Cs w g off m h := fun i hi => c i (by omega)
/-- What is left in 32 bits of a limb that is shifted up. -/
theorem shl_mod {x s e : Nat} (h : s + e = 32) : x * 2 ^ e % 4294967296 = x % 2 ^ s * 2 ^ e := by
  have : (4294967296 : Nat) = 2 ^ s * 2 ^ e := by rw [← Nat.pow_add, h]
  rw [this, Nat.mul_mod_mul_right]
theorem shl_wrap {x s e : Nat} (h : s + e = 32) : IntKind.u32.wrap ((x : Int) * 2 ^ e) = ((x % 2 ^ s * 2 ^ e : Nat) : Int) := by
  rw [IntKind.wrap_u32', ← shl_mod h]
  simp
theorem shr_lt {x s e : Nat} (h : s + e = 32) (hx : x ≤ 4294967295) : x / 2 ^ s < 2 ^ e := by
  refine Nat.div_lt_of_lt_mul ?_
  rw [← Nat.pow_add, h]; omega
theorem shl_le {x s e : Nat} (h : s + e = 32) : x % 2 ^ s * 2 ^ e + 2 ^ e ≤ 4294967296 := by
  have h1 : (x % 2 ^ s + 1) * 2 ^ e ≤ 2 ^ s * 2 ^ e := Nat.mul_le_mul_right _ (Nat.mod_lt _ (Nat.two_pow_pos s))
  rw [← Nat.pow_add, h, Nat.add_mul] at h1
  omega
theorem shl_or {A x s e : Nat} (h : s + e = 32) (hA : A < 2 ^ e) : bits .or .u32 (A : Int) ((x % 2 ^ s * 2 ^ e : Nat) : Int) = ((A + x % 2 ^ s * 2 ^ e : Nat) : Int) := by
  have h1 := shl_le (x := x) h
  rw [u32_or_nat A _ (by omega) (by omega), Nat.or_comm, nat_join e _ _ (Nat.mul_mod_left _ _) hA, Nat.add_comm]
theorem val_frm_lt {h : Nat → Nat} {k n Y : Nat} (hlt : val h (k + 1 + n) < Y * pw (k + 1)) : val (frm h k) (n + 1) < Y * 4294967296 := by
  rw [show k + 1 + n = k + (n + 1) by omega, val_frm, pw_succ] at hlt
  have : val (frm h k) (n + 1) * pw k < Y * 4294967296 * pw k := by rw [Nat.mul_assoc]; omega
  exact Nat.lt_of_mul_lt_mul_right this

set_option maxRecDepth 100000 in
set_option maxHeartbeats 1000000 in
theorem natDiv_long (a a' : Option Addr) (n c n' c' m : Nat) (f g : Nat → Nat) (w : World) (hn : n ≤ 1099511627776) (hn' : n' ≤ 1099511627776) (hu : Us w a n c f) (hu' : Us w a' n' c' g) (hm : nrm g n' = m + 2) (hge : val g n' ≤ val f n) :
    Calls Tryd.prog 44 #[.slice a n c, .slice a' n' c'] w fun e w' => ∃ r m d h r2 m2 d2 h2, e = .returned (.tuple #[.slice r m d, .slice r2 m2 d2, .int .i64 0]) ∧ Us w' r m d h ∧ New w' w.heap.size r d ∧ Us w' r2 m2 d2 h2 ∧ New w' w.heap.size r2 d2 ∧ Below w.heap.size w w' ∧ Nm h m ∧ Nm h2 m2 ∧ val f n = val h m * val g n' + val h2 m2 ∧ val h2 m2 < val g n' ∧ m ≤ n ∧ m2 ≤ n' := by
  have b1 := nrm_le f n
  have b2 := nrm_le g n'
  have v1 := hid (val_nrm f n)
  have v2 := hid (val_nrm g n')
  have l1 := hu.le
  have l2 := hu'.le
  have U1 := hu.cut (Nat.le_refl (nrm f n)) (by omega)
  have U2 := hu'.cut (Nat.le_refl (nrm g n')) (by omega)
  have hc := cmpN_nn (x := val f (nrm f n)) (y := val g (nrm g n')) (by rw [val_nrm, val_nrm]; exact hge)
  have t2 := nrm_nm g n'
  have few : nrm g n' ≤ nrm f n := t2.few (by rw [val_nrm]; have := val_lt (U1.lm); rw [val_nrm] at this; omega)
  have B1 := bare_any a n c f w (by omega) hu
  have B2 := bare_any a' n' c' g w (by omega) hu'
  rw [hm] at U2 hc few B2 t2 v2 b2
  have htop : 1 ≤ g (m + 1) := by
    rcases t2 with t | t
    · omega
    · have : g (m + 1) ≠ 0 := by simpa using t
      omega
  have ltop := U2.lm (m + 1) (by omega)
  obtain ⟨ll1, ll2, ll3, ll4⟩ := lead htop ltop
  obtain ⟨bg, og, rfl, hg1⟩ := U2.cell (m + 1) (by omega)
  have HG := hid hge
  clear hge t2 hm
  go_enter Tryd.func44, Tryd.ntmps44
  go_wp2_with (first | (go_at_call_of 64 (Value.slice a n c); refine B1.mono ?_; rintro e w' ⟨rfl, rfl⟩) | (go_at_call_of 64 (Value.slice (some ⟨bg, og, none⟩) n' c'); refine B2.mono ?_; rintro e w' ⟨rfl, rfl⟩) | (go_at_call 56; refine (natCmp_any _ _ _ _ _ _ _ _ _ (by omega) (by omega) U1 U2).mono ?_; rintro e w' ⟨rfl, q, rfl⟩))
  clear B1 B2 hc
  go_wp2_with (go_at_call 67; refine (Tryd.bits_LeadingZeros32 _ _ (by omega) (by omega)).mono ?_; rintro e w' ⟨rfl, rfl⟩)
  obtain ⟨s, hs⟩ : ∃ s, s = 32 - Lib.bitLen (g (m + 1)) := ⟨_, rfl⟩
  rw [← hs] at ll3 ll4
  have hs31 : s ≤ 31 := by omega
  have hsI : (32 : Int) - (Lib.bitLen (g (m + 1)) : Int) = (s : Int) := by omega
  rw [hsI]
  clear hsI hs
  obtain ⟨L, hL1, hL0⟩ : ∃ L, nrm f n + 1 = L + (m + 2) ∧ 1 ≤ L := ⟨nrm f n + 1 - (m + 2), by omega, by omega⟩
  have U1q := U1.drewN q
  go_wp2_with (go_at_call_of 68 (Value.slice a (nrm f n) (nrm f n)); refine (left_int _ _ _ _ s _ _ rfl (by omega) hs31 U1q).mono ?_; rintro e w1 ⟨gu, u, rfl, uC, uF, uL, uB, bB1, uV⟩)
  have uB' : w.heap.size ≤ gu := uB
  have bB1' : Below w.heap.size w w1 := (drewN_below w q _).trans bB1
  have U2q := U2.below bB1' (Nat.le_refl _)
  have UV := hid uV
  clear uB bB1 uV U1q
  go_wp2_with (go_at_call 68; refine (left_int _ _ _ _ s _ _ rfl (by omega) hs31 U2q).mono ?_; rintro e w2 ⟨gv, v, rfl, vC, vF, vL, vB, bB2, vV⟩)
  obtain ⟨d1, d2, d3⟩ := dv_top U2.lm vL ll3 ll4 vV
  have hnv : nrm v (m + 2 + 1) = m + 2 := by
    unfold nrm; rw [if_pos d1]; unfold nrm; rw [if_neg (by omega)]
  have B3 := bare_any (some ⟨gv, 0, none⟩) (m + 2 + 1) (m + 2 + 1) v w2 (by omega) (vC.us (Nat.le_refl _) (by unfold maxLen; omega) vL)
  rw [hnv] at B3
  have hgu := uC.lt (by omega)
  have hgv := vC.lt (by omega)
  have hgu2 : gu < gv := by omega
  have uC2 := uC.below bB2 (by omega)
  have uF2 := uF.below bB2 (by omega)
  have bBw : Below w.heap.size w w2 := bB1'.trans (bB2.mono bB1'.size)
  have hsz2 := bBw.size
  have VV := hid d3
  rw [hL1] at uC2 uF2 uL UV
  have X0 : val u (L + (m + 2)) < val v (m + 2) * pw L := by
    have h1 := val_lt U1.lm
    have h2 : 2147483648 * pw (m + 1) ≤ val v (m + 2) := by
      rw [val_succ]
      have : 2147483648 * pw (m + 1) ≤ v (m + 1) * pw (m + 1) := Nat.mul_le_mul_right _ d2
      omega
    have h3 : 2147483648 * pw (m + 1) * pw L ≤ val v (m + 2) * pw L := Nat.mul_le_mul_right _ h2
    have h4 : pw (nrm f n) = pw (m + 1) * pw L := by rw [← pw_add]; congr 1; omega
    have h5 : 2 ^ s ≤ 2147483648 := Nat.pow_le_pow_right (n := 2) (by omega) hs31
    rw [UV.out]
    have h6 : val f (nrm f n) * 2 ^ s < pw (nrm f n) * 2 ^ s := Nat.mul_lt_mul_of_pos_right h1 (Nat.two_pow_pos s)
    have h7 : pw (nrm f n) * 2 ^ s ≤ pw (nrm f n) * 2147483648 := Nat.mul_le_mul_left _ h5
    have h8 : pw (nrm f n) * 2147483648 = 2147483648 * pw (m + 1) * pw L := by rw [h4, Nat.mul_comm, Nat.mul_assoc]
    omega
  have HX := hid X0
  clear X0 d3 bB1' bB2 uC uF vV hnv U2 U2q hu hu' hg1
  go_wp2_with (first | (go_at_call 64; refine B3.mono ?_; rintro e w' ⟨rfl, rfl⟩) | (at_make; refine wpList_make_arr _ rfl _ _ 22 rfl 58 (.int .u32 0) 4 Tryd.underlying22 Tryd.info58 rfl _ _ _ _ L rfl rfl (by omega) (by omega) (by omega) (by omega) ?_))
  intro w3 hc3 hf3 hb3 hs3
  have qC := Cs.made hc3
  have qF : Fr w3 w2.heap.size 0 L := fun i _ => hf3 _
  have uC3 := uC2.below hb3 (by omega)
  have uF3 := uF2.below hb3 (by omega)
  have vC3 := (vC.below hb3 hgv).cut (show m + 2 ≤ m + 2 + 1 by omega)
  have bB3 : Below w.heap.size w w3 := bBw.trans (hb3.mono hsz2)
  clear B3 hc3 hf3 hb3 uC2 uF2 vC vF bBw
  go_wp2
  go_loopw [13] (fun iv wr => ∃ (k : Nat) (h qf : Nat → Nat), k ≤ L ∧ iv = .int .i64 ((k : Int) - 1) ∧ Cs wr gu 0 (k + (m + 2)) h ∧ Fr wr gu 0 (L + (m + 2)) ∧ Lm h (k + (m + 2)) ∧ Cs wr w2.heap.size 0 L qf ∧ Fr wr w2.heap.size 0 L ∧ Lm qf L ∧ (∀ j, j < k → qf j = 0) ∧ Hid (val u (L + (m + 2)) = val h (k + (m + 2)) + val qf L * val v (m + 2)) ∧ Hid (val h (k + (m + 2)) < val v (m + 2) * pw k) ∧ Cs wr gv 0 (m + 2) v ∧ Below w.heap.size w wr ∧ wr.heap.size = w3.heap.size) (fun iv _ => (intOf iv + 1).toNat)
  case atStart =>
    exact ⟨L, u, _, Nat.le_refl _, rfl, uC3, uF3, uL, qC, qF, fun _ _ => Nat.zero_le _, fun _ _ => rfl, by show _ = _; rw [val_zero]; omega, HX, vC3, bB3, rfl⟩
  case round =>
    clear uC3 uF3 qC qF vC3 bB3
    obtain ⟨k, h, qf, hk, rfl, hC, hF, hL, hQ, hQF, hQL, hQ0, hE, hT, hV, hB, hS⟩ := hrel
    cases k with
    | succ k =>
      have ek : ((k + 1 : Nat) : Int) - 1 = k := by omega
      rw [ek]
      have hlt : k < L := by omega
      have hne : ¬ (L + (m + 2) = k) := by omega
      clear ek
      have hTk := hT.out
      have hEk := hE.out
      have hq0 := hQ0 k (by omega)
      have hCx : Cs wr gu 0 (k + (m + 3)) h := hC.cut (by omega)
      have hLx : Lm h (k + (m + 3)) := hL.mono (by omega)
      have D := digit_any gu k m (L + (m + 2) - k) (some ⟨gv, 0, none⟩) (m + 2) (frm h k) v wr (by omega) (by omega) (hCx.frm (Nat.le_refl _)) (fun i hi => by have := hF (k + i) (by omega); rwa [Nat.zero_add] at this) hLx.frm
        (fun wx hx => (hx.cs hV (by omega)).us (Nat.le_refl _) (by unfold maxLen; omega) (vL.mono (by omega))) d2 (val_frm_lt hTk)
      have HQ0 := hid hQ0
      have HEk := hid hEk
      have HTk := hid hTk
      clear hEk hTk hQ0 hE hT
      go_wp2_with fail
      have el : k + (m + 2) + 1 - k = m + 3 := by omega
      rw [el]
      refine D.mono ?_
      rintro e w4 ⟨r, qd, rfl, rC, rL, rM, rE, rlt, rq⟩
      have HE4 := hid rE
      have hQ4 := rM.cs hQ (by omega)
      have hfr4 := rM.fr ⟨w2.heap.size, k, none⟩
      have hqf := hQF k (by omega)
      have hqc := hQ4 k (by omega)
      rw [Nat.zero_add] at hqf hqc
      rw [hqf] at hfr4
      clear D rE el
      go_wp2
      go_roundw
      case rel =>
        go_light
        have hYl := val_lt (vL.mono (show m + 2 ≤ m + 2 + 1 by omega))
        have hstep := dv_step (h := h) (r := r) (qf := qf) (m := m + 2) HEk.out hq0 hlt HE4.out rlt hYl
        have hst : val u (L + (m + 2)) = val (putAt h k r) (k + (m + 2)) + val (upd qf k qd) L * val v (m + 2) ∧ val (putAt h k r) (k + (m + 2)) < val v (m + 2) * pw k := by
          rcases hstep with h | h | h
          · exact h
          · exact absurd rL h
          · exact absurd (hL.mono (by omega)) h
        refine ⟨k, putAt h k r, upd qf k qd, by omega, rfl, ?_, ?_, ?_, ?_, ?_, hQL.upd rq, ?_, hst.1, hst.2, ?_, ?_, ?_⟩
        · exact (((hCx.put2 rM rC).cut (by omega)).other _ (by simp; omega) _)
        · exact Fr.set (fun i hi => by rw [rM.fr]; exact hF i hi) _ _
        · exact (Lm.putAt (hL.mono (by omega)) rL).mono (by omega)
        · exact hQ4.put hlt rfl
        · exact Fr.set (fun i hi => by rw [rM.fr]; exact hQF i hi) _ _
        · intro j hj; rw [upd_other _ _ _ _ (by omega)]; exact HQ0.out j (by omega)
        · exact (rM.cs hV (by omega)).other _ (by simp; omega) _
        · exact (hB.trans (rM.below (by omega))).setCell (by simp; omega) _
        · simp; rw [rM.size]; exact hS
      case measure => simp [intOf]
    | zero =>
      have h0 := hE.out
      have h1 := hT.out
      simp only [pw, Nat.mul_one, Nat.zero_add] at h0 h1
      rw [Nat.zero_add] at hC hL
      have H0 := hid h0
      have H1 := hid h1
      have HQ := hid hQ
      clear h0 h1 hE hT hQ0 hQ
      have hT0 := Nat.two_pow_pos s
      have eT : 2 ^ s * 2 ^ (32 - s) = 4294967296 := by rw [← Nat.pow_add, show s + (32 - s) = 32 by omega]
      have ET := hid eT
      have HT0 := hid hT0
      clear eT hT0
      go_wp2
      obtain ⟨wo, rfl⟩ : ∃ wo : World, wo = wr := ⟨_, rfl⟩
      go_loopw [90] (fun iv wr => ∃ (i : Nat) (h2 : Nat → Nat), i ≤ m + 2 ∧ iv = .int .i64 i ∧ Cs wr gu 0 (m + 2) h2 ∧ Lm h2 (m + 2) ∧ (∀ j, i ≤ j → h2 j = h j) ∧ Hid (2 ^ s * val h2 i + h 0 % 2 ^ s = val h i + ex h (m + 2) i % 2 ^ s * pw i) ∧ Below gu wo wr ∧ Cs wr w2.heap.size 0 L qf ∧ (∀ p, wr.frozen? p = wo.frozen? p) ∧ wr.heap.size = wo.heap.size) (fun iv _ => (m + 2) - (intOf iv).toNat)
      case atStart => exact ⟨0, h, Nat.zero_le _, rfl, hC, hL, fun _ _ => rfl, by show _ = _; rw [ex_lt (by omega)]; simp [val, pw], Below.refl _ _, HQ.out, fun _ => rfl, rfl⟩
      case round =>
        clear hC hL
        obtain ⟨i, h2, hi, rfl, hC2, hL2, hE2, hV2, hB2, hQ2, hFr2, hS2⟩ := hrel
        by_cases hlt : i < m + 2
        · have hco := hC2 i (by omega)
          have hfr := hFr2 ⟨gu, i, none⟩
          have hfo := hF i (by omega)
          rw [Nat.zero_add] at hco hfo
          rw [hfo] at hfr
          have hei := hE2 i (Nat.le_refl _)
          rw [hei] at hco
          have li := hL2 i (by omega)
          rw [hei] at li
          clear hei
          by_cases hs0 : 0 < s ∧ i + 1 < m + 2
          · obtain ⟨hs1, hi1⟩ := hs0
            obtain ⟨e, he⟩ : ∃ e, s + e = 32 := ⟨32 - s, by omega⟩
            have hw9 : IntKind.u64.wrap ((32 : Int) - (s : Int)) = (e : Int) := by rw [IntWalk.u64_in _ (by omega)]; omega
            have hA := shr_lt he li
            have hco1 := hC2 (i + 1) (by omega)
            rw [Nat.zero_add, hE2 (i + 1) (by omega)] at hco1
            have hsl := shl_wrap (x := h (i + 1)) he
            have hor := shl_or (x := h (i + 1)) he hA
            have hle := shl_le (x := h (i + 1)) he
            have hA2 : ((h i : Int) / 2 ^ s) = ((h i / 2 ^ s : Nat) : Int) := by simp
            have hC3 := hC2.put (j := i) hlt (x := h i / 2 ^ s) rfl
            have hcs0 := hC3 i hlt
            have hcs1 := hC3 (i + 1) (by omega)
            rw [Nat.zero_add, upd_same] at hcs0
            rw [Nat.zero_add, upd_other _ _ _ _ (by omega), hE2 (i + 1) (by omega)] at hcs1
            have HW := hid hw9
            have HSL := hid hsl
            have HOR := hid hor
            have HE2 := hid hE2
            have HC3 := hid hC3
            have HA2 := hid hA2
            have HCS := hid (And.intro hcs0 hcs1)
            clear hw9 hsl hor hE2 hC3 hC2 hA2 hcs0 hcs1
            go_wp2
            rw [HA2.out]
            have hB3 := hB2.setCell (p := ⟨gu, i, none⟩) (Nat.le_refl _) (.int .u32 ((h i / 2 ^ s : Nat) : Int))
            have hQ3 := hQ2.other ⟨gu, i, none⟩ (by simp; omega) (.int .u32 ((h i / 2 ^ s : Nat) : Int))
            have hfr3 : (wr.setCell ⟨gu, i, none⟩ (.int .u32 ((h i / 2 ^ s : Nat) : Int))).frozen? ⟨gu, i, none⟩ = false := by rw [World.frozen?_setCell]; exact hfr
            have hFr3 : ∀ p, (wr.setCell ⟨gu, i, none⟩ (.int .u32 ((h i / 2 ^ s : Nat) : Int))).frozen? p = wo.frozen? p := fun p => by rw [World.frozen?_setCell]; exact hFr2 p
            have hS3 : (wr.setCell ⟨gu, i, none⟩ (.int .u32 ((h i / 2 ^ s : Nat) : Int))).heap.size = wo.heap.size := by simpa using hS2
            obtain ⟨hcs0, hcs1⟩ := HCS.out
            have HC3 := HC3.out
            have hw9 := HW.out
            have hsl := HSL.out
            have hor := HOR.out
            clear HA2 HW HSL HOR HCS hco hco1 hfr hB2 hQ2 hFr2 hS2
            generalize wr.setCell ⟨gu, i, none⟩ (.int .u32 ((h i / 2 ^ s : Nat) : Int)) = wS at *
            have HFr3 := hid hFr3
            have HS3 := hid hS3
            clear hFr3 hS3
            generalize hAe : h i / 2 ^ s = A at *
            generalize hSe : h (i + 1) % 2 ^ s * 2 ^ e = S at *
            have HAE := hid hAe
            have HSE := hid hSe
            clear hAe hSe
            have hi1' : i + 1 < L + (m + 2) := by omega
            have hi0' : i < L + (m + 2) := by omega
            go_region
            clear hw9 hsl hor
            go_wp2
            go_roundw
            case rel =>
              go_light
              refine ⟨i + 1, upd (upd h2 i A) i (A + S), by omega, by go_num, ?_, (hL2.upd (by omega)).upd (by omega), fun j hj => by rw [upd_other _ _ _ _ (by omega), upd_other _ _ _ _ (by omega)]; exact HE2.out j (by omega), ?_, ?_, ?_, ?_, ?_⟩
              · exact HC3.put hlt (x := A + S) (by omega)
              · show _ * val _ (i + 1) + _ = _
                rw [val_upd_at, val_upd_ge _ _ _ _ (Nat.le_refl _), ex_lt hi1]
                have h3 := hV2.out
                rw [ex_lt hlt] at h3
                have h4 := sh_step (D := 2 ^ e) h3 (by rw [← Nat.pow_add, he]) (show A + S = h i / 2 ^ s + h (i + 1) % 2 ^ s * 2 ^ e by rw [HAE.out, HSE.out])
                rw [h4, val_succ]
              · exact (hB3.setCell (Nat.le_refl _) _).drew
              · exact hQ3.other _ (by simp; omega) _
              · intro p; rw [World.frozen?_drew, World.frozen?_setCell]; exact HFr3.out p
              · simpa using HS3.out
            case measure => simp [intOf]; omega
          · have hA2 : ((h i : Int) / 2 ^ s) = ((h i / 2 ^ s : Nat) : Int) := by simp
            have hz : ex h (m + 2) (i + 1) % 2 ^ s = 0 := by
              by_cases h1 : s = 0
              · subst h1; simp [Nat.mod_one]
              · rw [ex_ge (by omega)]; simp
            have HA2 := hid hA2
            have HZ := hid hz
            have HE2 := hid hE2
            have hle2 : h i / 2 ^ s ≤ 4294967295 := Nat.le_trans (Nat.div_le_self _ _) li
            clear hA2 hz hE2
            by_cases hs1 : 0 < s
            all_goals
              go_wp2
              go_roundw
              case rel =>
                go_light
                rw [HA2.out]
                refine ⟨i + 1, upd h2 i (h i / 2 ^ s), by omega, by go_num, hC2.put hlt rfl, hL2.upd hle2, fun j hj => by rw [upd_other _ _ _ _ (by omega)]; exact HE2.out j (by omega), ?_, hB2.setCell (Nat.le_refl _) _, hQ2.other _ (by simp; omega) _, fun p => by rw [World.frozen?_setCell]; exact hFr2 p, by simpa using hS2⟩
                show _ * val _ (i + 1) + _ = _
                rw [val_upd_at]
                have h3 := hV2.out
                rw [ex_lt hlt] at h3
                have h4 := sh_step (D := 2 ^ (32 - s)) (p2 := ex h (m + 2) (i + 1)) (a := h i / 2 ^ s) h3 ET.out (by rw [HZ.out]; simp)
                rw [h4, val_succ]
              case measure => simp [intOf]; omega
        · have hiN : i = m + 2 := by omega
          subst hiN
          have QU : ∀ wx, Below wr.heap.size wr wx → Us wx (some ⟨w2.heap.size, 0, none⟩) L L qf := fun wx hx => (hQ2.us (Nat.le_refl _) (by unfold maxLen; omega) hQL).below hx (Nat.le_refl _)
          have RU : ∀ wx, Below wr.heap.size wr wx → Us wx (some ⟨gu, 0, none⟩) (m + 2) (m + 2) h2 := fun wx hx => (hC2.us (Nat.le_refl _) (by unfold maxLen; omega) hL2).below hx (Nat.le_refl _)
          have D0 : Below wr.heap.size wr wr.drew := (Below.refl _ _).drew
          clear hE2 hFr2
          go_wp2
          go_region_with (first
            | (go_at_call_of 66 (Value.slice (some ⟨w2.heap.size, 0, none⟩) L L); refine (own_any _ _ _ _ _ (by omega) (QU _ D0)).mono ?_; rintro e wa ⟨ar, nr, cr, fr, rfl, p1, p2, p3, p4, p5, p6⟩)
            | (go_at_call 66; refine (own_cap _ _ _ _ _ (by omega) (by omega) (RU _ (D0.trans p3))).mono ?_; rintro e wb ⟨az, nz, cz, fz, rfl, q1, q2, q3, q4, q5, q6⟩))
          all_goals
            have P5 := hid p5
            have Q5 := hid q5
            clear p5 q5
            go_wp2
            go_ret3
            have hsz3 : w.heap.size ≤ wr.heap.size := (hB.trans (hB2.mono uB')).size
            have k1 : Below w.heap.size w wa := (hB.trans (hB2.mono uB')).trans ((D0.trans p3).mono hsz3)
            have k2 : Below w.heap.size w wb := k1.trans (q3.mono k1.size)
            have hV3 : 2 ^ s * val h2 (m + 2) + h 0 % 2 ^ s = val h (m + 2) := by
              have hV4 := hV2.out
              rw [ex_ge (by omega)] at hV4
              simpa using hV4
            have hH0 := H0.out
            rw [UV.out, VV.out, v1.out, v2.out, ← hV3] at hH0
            have hH1 := H1.out
            rw [VV.out, v2.out, ← hV3] at hH1
            obtain ⟨z1, z2⟩ := dv_end hH0 (Nat.mod_lt _ HT0.out) hH1
            refine ⟨_, _, _, _, _, _, _, _, rfl, p1.below q3 (Nat.le_refl _), New.below (p2.mono hsz3) p1 q3 (Nat.le_refl _), q1, q2.mono k1.size, k2, p4, q4, ?_, ?_, by omega, by omega⟩
            · rw [P5.out, Q5.out]; exact z1
            · rw [Q5.out]; exact z2

theorem natDiv_any (a a' : Option Addr) (n c n' c' : Nat) (f g : Nat → Nat) (w : World) (hn : n ≤ 1099511627776) (hn' : n' ≤ 1099511627776) (hu : Us w a n c f) (hu' : Us w a' n' c' g) (h0 : 0 < val g n') :
    Calls Tryd.prog 44 #[.slice a n c, .slice a' n' c'] w fun e w' => ∃ r m d h r2 m2 d2 h2, e = .returned (.tuple #[.slice r m d, .slice r2 m2 d2, .int .i64 0]) ∧ Us w' r m d h ∧ New w' w.heap.size r d ∧ Us w' r2 m2 d2 h2 ∧ New w' w.heap.size r2 d2 ∧ Below w.heap.size w w' ∧ Nm h m ∧ Nm h2 m2 ∧ val f n = val h m * val g n' + val h2 m2 ∧ val h2 m2 < val g n' ∧ m ≤ n ∧ m2 ≤ n' := by
  have hz := nrm_nm g n'
  have hv := val_nrm g n'
  rcases hk : nrm g n' with _ | _ | m
  · exfalso; rw [hk] at hv; simp [val] at hv; omega
  · exact natDiv_one a a' n c n' c' f g w hn hn' hu hu' hk
  · by_cases hlt : val f n < val g n'
    · exact natDiv_less a a' n c n' c' f g w hn hn' hu hu' (by omega) hlt
    · exact natDiv_long a a' n c n' c' m f g w hn hn' hu hu' hk (by omega)
end Go.Proofs.YticfggljaagcmaaDoor
