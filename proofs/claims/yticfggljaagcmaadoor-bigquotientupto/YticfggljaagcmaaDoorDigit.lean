/-
  big.digit, walked: one limb of a quotient.
-/
import Derived.Test.YticfggljaagcmaaDoorShort
import Derived.Test.YticfggljaagcmaaDoorKnuth
import Derived.RegionTactic
import Derived.Deep.CutBlock
import Derived.BigQuiet
import Derived.Deep.QuietTactic
namespace Go.Proofs.YticfggljaagcmaaDoor
set_option linter.all false
open Go.RowKit

/-- Cells of block g from off on may have turned; nothing else has. -/
structure Md (w w' : World) (g off len : Nat) : Prop where
  os : w'.os = w.os
  tape : w'.tape = w.tape
  output : w'.output = w.output
  size : w'.heap.size = w.heap.size
  other : ∀ k, k ≠ g → w'.heap[k]? = w.heap[k]?
  cell : ∀ j, (j < off ∨ off + len ≤ j) → w'.cell? ⟨g, j, none⟩ = w.cell? ⟨g, j, none⟩
  fr : ∀ p, w'.frozen? p = w.frozen? p
theorem Md.refl (w : World) (g off len : Nat) : Md w w g off len := ⟨rfl, rfl, rfl, rfl, fun _ _ => rfl, fun _ _ => rfl, fun _ => rfl⟩
theorem Md.drewN {w w' : World} {g off len : Nat} (h : Md w w' g off len) (q : Nat) : Md w (w'.drewN q) g off len := ⟨h.os, h.tape, h.output, h.size, h.other, h.cell, h.fr⟩
theorem Md.set {w w' : World} {g off len : Nat} (h : Md w w' g off len) {j : Nat} (h1 : off ≤ j) (h2 : j < off + len) (x : Value) : Md w (w'.setCell ⟨g, j, none⟩ x) g off len :=
  ⟨h.os, h.tape, h.output, by simpa using h.size, fun k hk => (Below.heap_setCell _ _ _ _ hk).trans (h.other k hk),
   fun i hi => by rw [World.cell?_setCell_other _ _ _ _ (by intro e; simp only [Addr.mk.injEq, and_true, true_and] at e; omega)]; exact h.cell i hi,
   fun p => by rw [World.frozen?_setCell]; exact h.fr p⟩
theorem Md.below {w w' : World} {g off len B : Nat} (h : Md w w' g off len) (hB : B ≤ g) : Below B w w' :=
  ⟨h.os, h.tape, h.output, by rw [h.size]; exact Nat.le_refl _, fun k hk => h.other k (by omega)⟩
theorem Md.cs {w w' : World} {g off len g' o n : Nat} {h : Nat → Nat} (k : Md w w' g off len) (c : Cs w g' o n h) (hg : g' ≠ g) : Cs w' g' o n h := fun i hi => by
  rw [World.cell?_of_block (w := w) (k.other g' hg)]; exact c i hi

theorem Cs.setI {w : World} {g off n : Nat} {h : Nat → Nat} (k : Cs w g off n h) {j : Nat} (hj : j < n) {x : Nat} {v : Int} (hv : v = (x : Int)) : Cs (w.setCell ⟨g, off + j, none⟩ (.int .u32 v)) g off n (upd h j x) := by
  subst hv; exact k.set hj x
theorem ret_u32 {a b : Int} (h : a = b) : Ending.returned (.int .u32 a) = .returned (.int .u32 b) := by rw [h]
theorem sub32_int (X Y C : Int) (x y c : Nat) (w : World) (eX : X = (x : Int)) (eY : Y = (y : Int)) (eC : C = (c : Int)) (hx : x ≤ 4294967295) (hy : y ≤ 4294967295) (hc : c ≤ 1) :
    Calls Tryd.prog 82 #[.int .u32 X, .int .u32 Y, .int .u32 C] w fun e w' => e = .returned (.tuple #[.int .u32 (dif x y c : Nat), .int .u32 (bor x y c : Nat)]) ∧ w = w' := by
  subst eX; subst eY; subst eC
  exact sub32_any x y c w hx hy hc

theorem add32_int (X Y C : Int) (x y c : Nat) (w : World) (eX : X = (x : Int)) (eY : Y = (y : Int)) (eC : C = (c : Int)) (hx : x ≤ 4294967295) (hy : y ≤ 4294967295) (hc : c ≤ 1) :
    Calls Tryd.prog 83 #[.int .u32 X, .int .u32 Y, .int .u32 C] w fun e w' => e = .returned (.tuple #[.int .u32 ((x + y + c : Nat) % 4294967296 : Nat), .int .u32 ((x + y + c : Nat) / 4294967296 : Nat)]) ∧ w = w' := by
  subst eX; subst eY; subst eC
  exact add32_any x y c w hx hy hc

set_option maxRecDepth 100000 in
set_option maxHeartbeats 1000000 in
theorem digit_any (gu off n cu : Nat) (a : Option Addr) (c : Nat) (f v : Nat → Nat) (w : World) (hn : n + 2 ≤ 1099511627776)
    (hcu : n + 3 ≤ cu) (hC : Cs w gu off (n + 3) f) (hF : Fr w gu off (n + 3)) (hL : Lm f (n + 3))
    (hv : ∀ wr, Md w wr gu off (n + 3) → Us wr a (n + 2) c v) (hv1 : 2147483648 ≤ v (n + 1)) (hU : val f (n + 3) < val v (n + 2) * 4294967296) :
    Calls Tryd.prog 69 #[.slice (some ⟨gu, off, none⟩) (n + 3) cu, .slice a (n + 2) c] w fun e w' => ∃ h q, e = .returned (.int .u32 (q : Nat)) ∧ Cs w' gu off (n + 3) h ∧ Lm h (n + 3) ∧ Md w w' gu off (n + 3) ∧ val f (n + 3) = q * val v (n + 2) + val h (n + 3) ∧ val h (n + 3) < val v (n + 2) ∧ q ≤ 4294967295 := by
  have V := hv w (Md.refl _ _ _ _)
  have lv := V.lm
  have le := V.le
  obtain ⟨bv, ov, rfl, hv2⟩ := V.cell (n + 1) (by omega)
  have hvc := V.cs
  have c1 := hvc (n + 1) (by omega)
  have c2 := hvc n (by omega)
  have d2 := hC (n + 2) (by omega)
  have d1 := hC (n + 1) (by omega)
  have d0 := hC n (by omega)
  have l1 := lv (n + 1) (by omega)
  have l2 := lv n (by omega)
  have m2 := hL (n + 2) (by omega)
  have m1 := hL (n + 1) (by omega)
  have m0 := hL n (by omega)
  have e1 : ((n + 2 : Nat) : Int) = (n : Int) + 2 := by omega
  have hj := join64 m2 m1
  have hvpos : 0 < val v (n + 2) := by rw [val_succ]; have := pw_pos (n + 1); have : 2147483648 * pw (n + 1) ≤ v (n + 1) * pw (n + 1) := Nat.mul_le_mul_right _ hv1; omega
  obtain ⟨Q, hQ⟩ : ∃ Q, Q = val f (n + 3) / val v (n + 2) := ⟨_, rfl⟩
  have hQ1 : Q * val v (n + 2) ≤ val f (n + 3) := by rw [hQ]; exact Nat.div_mul_le_self _ _
  have hQ2 : val f (n + 3) < (Q + 1) * val v (n + 2) := by
    have h1 := Nat.div_add_mod (val f (n + 3)) (val v (n + 2))
    have h2 := Nat.mod_lt (val f (n + 3)) hvpos
    rw [← hQ, Nat.mul_comm] at h1
    rw [Nat.add_mul]; omega
  have hQ3 : Q ≤ 4294967295 := by
    have := Nat.div_lt_of_lt_mul (show val f (n + 3) < val v (n + 2) * 4294967296 from hU)
    omega
  have hfU : val f (n + 3) = val f n + ((f (n + 2) * 4294967296 + f (n + 1)) * 4294967296 + f n) * pw n := by
    simp only [val_succ, pw_succ, Nat.add_mul, Nat.mul_assoc]; omega
  have hvV : val v (n + 2) = val v n + (v (n + 1) * 4294967296 + v n) * pw n := by
    simp only [val_succ, pw_succ, Nat.add_mul, Nat.mul_assoc]; omega
  have hfit := kn_fit hfU hvV (val_lt (hL.mono (by omega))) hQ1
  have hfst := kn_first hfit rfl rfl m0
  obtain ⟨q0, hq0, hq0a, hq0b, hq0c⟩ : ∃ q0 : Nat, (if (4294967295 : Int) < ((f (n + 2) : Int) * 4294967296 + (f (n + 1) : Int)) / (v (n + 1) : Int) then (4294967295 : Int) else ((f (n + 2) : Int) * 4294967296 + (f (n + 1) : Int)) / (v (n + 1) : Int)) = (q0 : Int) ∧ q0 ≤ 4294967295 ∧ q0 * v (n + 1) ≤ f (n + 2) * 4294967296 + f (n + 1) ∧ Q ≤ q0 := by
    have e : ((f (n + 2) : Int) * 4294967296 + (f (n + 1) : Int)) / (v (n + 1) : Int) = (((f (n + 2) * 4294967296 + f (n + 1)) / v (n + 1) : Nat) : Int) := by simp
    have hle : (f (n + 2) * 4294967296 + f (n + 1)) / v (n + 1) * v (n + 1) ≤ f (n + 2) * 4294967296 + f (n + 1) := Nat.div_mul_le_self _ _
    have hQle : Q ≤ (f (n + 2) * 4294967296 + f (n + 1)) / v (n + 1) := (Nat.le_div_iff_mul_le (by omega)).2 hfst
    rw [e]
    generalize (f (n + 2) * 4294967296 + f (n + 1)) / v (n + 1) = z at *
    by_cases hz : 4294967295 < z
    · refine ⟨4294967295, ?_, Nat.le_refl _, ?_, hQ3⟩
      · rw [if_pos (by omega)]; rfl
      · have : 4294967295 * v (n + 1) ≤ z * v (n + 1) := Nat.mul_le_mul_right _ (by omega)
        omega
    · exact ⟨z, by rw [if_neg (by omega)], by omega, hle, hQle⟩
  have hm0 : (q0 : Int) * (v (n + 1) : Int) ≤ (f (n + 2) : Int) * 4294967296 + (f (n + 1) : Int) := by
    have : ((q0 * v (n + 1) : Nat) : Int) ≤ ((f (n + 2) * 4294967296 + f (n + 1) : Nat) : Int) := by omega
    simpa using this
  have hm1 : 0 ≤ (q0 : Int) * (v (n + 1) : Int) := Int.mul_nonneg (by omega) (by omega)
  have HQ1 := hid hQ1
  have HQ2 := hid hQ2
  have HfU := hid hfU
  have HvV := hid hvV
  have Hfit := hid hfit
  have Hfst := hid hfst
  have Hq0b := hid hq0b
  have HU := hid hU
  clear hQ hQ1 hQ2 hfU hvV hfit hfst hq0b hU hvpos
  go_enter Tryd.func69, Tryd.ntmps69
  go_wp2
  go_region
  go_upto_block 0 with fail
  go_cut [7, 8] from 50 to 81 (fun qv _ wx => ∃ k q : Nat, wx = w.drewN k ∧ qv = .int .u64 q ∧ q ≤ 4294967295 ∧ Q ≤ q ∧ q ≤ Q + 1)
  case first =>
    go_wp2_with fail
    go_loopw [7, 8] (fun qv rv wr => ∃ (k q rest : Nat), wr = w.drewN k ∧ qv = .int .u64 q ∧ rv = .int .u64 rest ∧ q ≤ 4294967295 ∧ rest ≤ 18446744073709551615 ∧ Hid (rest + q * v (n + 1) = f (n + 2) * 4294967296 + f (n + 1)) ∧ Q ≤ q) (fun qv _ _ => (intOf qv).toNat)
    case atStart =>
      have := Hq0b.out
      refine ⟨1, q0, f (n + 2) * 4294967296 + f (n + 1) - q0 * v (n + 1), rfl, rfl, ?_, hq0a, by omega, by show _ = _; omega, hq0c⟩
      congr 1
      have e2 : ((f (n + 2) * 4294967296 + f (n + 1) - q0 * v (n + 1) : Nat) : Int) = ((f (n + 2) * 4294967296 + f (n + 1) : Nat) : Int) - ((q0 * v (n + 1) : Nat) : Int) := by omega
      rw [e2]; simp
    case round =>
      clear hm0 hm1 hq0 hq0a hq0c Hq0b hj
      obtain ⟨k, q, rest, rfl, rfl, rfl, hq, hr, hT, hQq⟩ := hrel
      by_cases hlt : rest < 4294967296
      · have hj2 := join64 (r := rest) (x := f n) (by omega) m0
        have hm := mul_le hq l2
        have hm' : (q : Int) * (v n : Int) ≤ 18446744065119617025 := by
          have : ((q * v n : Nat) : Int) ≤ 18446744065119617025 := by omega
          rwa [Int.natCast_mul] at this
        have hm0 : 0 ≤ (q : Int) * (v n : Int) := Int.mul_nonneg (by omega) (by omega)
        have HM := hid hm
        clear hm
        have hnd : decide ((rest : Int) < 4294967296) = true := by simp; omega
        have hw1 : IntKind.u64.wrap ((q : Int) * (v n : Int)) = (q : Int) * (v n : Int) := IntWalk.u64_in _ (by omega)
        have hw2 : IntKind.u64.wrap ((rest : Int) * 4294967296) = (rest : Int) * 4294967296 := IntWalk.u64_in _ (by omega)
        have hw3 : IntKind.i64.wrap ((n : Int) + 2 - 2) = (n : Int) := by rw [IntWalk.i64_in _ (by omega)]; omega
        have hn0 : 0 ≤ (n : Int) := by omega
        have hnn : (n : Int).toNat = n := by omega
        have HR := hid hr
        have HL := hid hlt
        clear hm' hm0 hr hlt
        go_wp2
        go_quiet (fail)
        clear hj2 hw1 hw2 hw3 hn0 hnn hnd
        go_wp2
        · have ht : rest * 4294967296 + f n < q * v n := by omega
          have hq1 : 1 ≤ q := by
            rcases Nat.eq_zero_or_pos q with h | h
            · subst h; simp at ht
            · exact h
          have hl := HL.out
          have hQlt : Q < q := kn_lt Hfit.out (Nat.lt_of_not_le fun h => by have := (kn_test (u0 := f n) (v0 := v n) hT.out).1 h; omega)
          go_light
          refine ⟨⟨_, q - 1, rest + v (n + 1), rfl, ?_, ?_, by omega, by omega, ?_, by omega⟩, ?_⟩
          · congr 1; exact wrap_u64 (by omega) (by omega)
          · congr 1; exact wrap_u64 (by omega) (by omega)
          · show _ = _
            have := hT.out
            obtain ⟨m, rfl⟩ : ∃ m, q = m + 1 := ⟨q - 1, by omega⟩
            rw [Nat.succ_mul] at this
            simp only [Nat.add_sub_cancel]
            omega
          · rw [wrap_u64 (y := q - 1) (by omega) (by omega)]; simp [intOf]; omega
        · have ht : ¬ rest * 4294967296 + f n < q * v n := by omega
          go_meet
          exact ⟨k + nq, q, by simp, rfl, hq, hQq, kn_near HfU.out HvV.out (val_lt (lv.mono (by omega))) HQ2.out ((kn_test hT.out).2 (by omega)) hq (by omega)⟩
      · have hnd : decide ((rest : Int) < 4294967296) = false := by simp; omega
        go_wp2
        go_quiet (fail)
        go_wp2
        go_meet
        exact ⟨k + nq, q, by simp, rfl, hq, hQq, kn_near HfU.out HvV.out (val_lt (lv.mono (by omega))) HQ2.out ((kn_test hT.out).2 (kn_far (by omega) hq l2)) hq (by omega)⟩
  case rest =>
    obtain ⟨kk, q, rfl, rfl, hq, hq1, hq2⟩ := hcut
    clear hm0 hm1 hq0 hq0a hq0c Hq0b hj
    have HF := hid hF
    have HV := hid hv
    clear c1 c2 d0 d1 d2 hv2 hvc V hv hF
    go_wp2
    go_loopw [9, 10, 84] (fun cv bv iv wr => ∃ (i cc b : Nat) (h : Nat → Nat), i ≤ n + 2 ∧ cc ≤ 4294967295 ∧ b ≤ 1 ∧ iv = .int .i64 i ∧ cv = .int .u64 cc ∧ bv = .int .u32 b ∧ Cs wr gu off (n + 3) h ∧ Lm h (n + 3) ∧ Md w wr gu off (n + 3) ∧ (∀ j, i ≤ j → h j = f j) ∧ Hid (val h i + q * val v i = val f i + (cc + b) * pw i)) (fun _ _ iv _ => (n + 2) - (intOf iv).toNat)
    case atStart => exact ⟨0, 0, 0, f, Nat.zero_le _, Nat.zero_le _, Nat.zero_le _, rfl, rfl, rfl, fun i hi => hC i hi, hL, (Md.refl _ _ _ _).drewN _, fun _ _ => rfl, by show _ = _; simp [val]⟩
    case round =>
      clear hC hL
      obtain ⟨i, cc, b, h, hi, hcc, hb, rfl, rfl, rfl, hC, hL, hM, hE, hS⟩ := hrel
      have HE := hid hE
      by_cases hlt : i < n + 2
      · have hcs := (HV.out wr hM).cs i (by omega)
        have hco := hC i (by omega)
        have lk := hL i (by omega)
        rw [hE i (Nat.le_refl _)] at hco lk
        have hfr : wr.frozen? ⟨gu, off + i, none⟩ = false := by rw [hM.fr]; exact HF.out i (by omega)
        have lvi := lv i (by omega)
        have hm := mul_le hq lvi
        have hm' : (q : Int) * (v i : Int) ≤ 18446744065119617025 := by
          have : ((q * v i : Nat) : Int) ≤ 18446744065119617025 := by omega
          rwa [Int.natCast_mul] at this
        have hm0 : 0 ≤ (q : Int) * (v i : Int) := Int.mul_nonneg (by omega) (by omega)
        have HM := hid hm
        clear hm hE
        go_wp2_with (go_at_call 82; refine (sub32_int _ _ _ (f i) ((cc + q * v i) % 4294967296) b _ rfl (by simp) rfl (by omega) (by omega) (by omega)).mono ?_; rintro e w' ⟨rfl, rfl⟩)
        go_roundw
        case rel =>
          go_light
          have hy : (cc + q * v i) / 4294967296 ≤ 4294967295 := by have := HM.out; omega
          (repeat apply Exists.intro)
          refine ⟨?_, rfl⟩
          refine ⟨i + 1, (cc + q * v i) / 4294967296, bor (f i) ((cc + q * v i) % 4294967296) b, upd h i (dif (f i) ((cc + q * v i) % 4294967296) b), by omega, hy, bor_le _ _ _, by go_num, by congr 1, rfl, hC.set (by omega) _, hL.upd (dif_le _ _ _), hM.set (by omega) (by omega) _, fun j hj => by rw [upd_other _ _ _ _ (by omega)]; exact HE.out j (by omega), ?_⟩
          show val _ (i + 1) + _ = _
          rw [val_upd_at, val_succ, val_succ]
          exact kn_sub hS.out (dif_eq lk (by omega) hb) (Nat.mod_add_div _ _)
        case measure => simp [intOf]; omega
      · have hiN : i = n + 2 := by omega
        subst hiN
        have hco := hC (n + 2) (by omega)
        have lk := hL (n + 2) (by omega)
        rw [hE (n + 2) (Nat.le_refl _)] at hco lk
        have hfr : wr.frozen? ⟨gu, off + (n + 2), none⟩ = false := by rw [hM.fr]; exact HF.out (n + 2) (by omega)
        have hCs := hC.set (j := n + 2) (by omega) (dif (f (n + 2)) cc b)
        have hMs := hM.set (j := off + (n + 2)) (by omega) (by omega) (.int .u32 ((dif (f (n + 2)) cc b : Nat) : Int))
        have hLs := hL.upd (k := n + 2) (dif_le (f (n + 2)) cc b)
        have hfin : val (upd h (n + 2) (dif (f (n + 2)) cc b)) (n + 3) + q * val v (n + 2) = val f (n + 3) + bor (f (n + 2)) cc b * pw (n + 3) := by
          have := kn_sub (x := 0) (c' := 0) hS.out (dif_eq lk hcc hb) (by omega)
          rw [val_upd_at, val_succ f]
          simpa using this
        have HC := hid hCs
        have HMs := hid hMs
        clear hE hCs hMs hC hM hS
        by_cases hbo : bor (f (n + 2)) cc b = 0
        · have hr := kn_right HQ2.out hq1 (by rw [hfin, hbo]; simp)
          have HR := hid hr
          have HN : Hid (val f (n + 3) = q * val v (n + 2) + val (upd h (n + 2) (dif (f (n + 2)) cc b)) (n + 3)) := by
            show _ = _
            rw [hbo] at hfin
            omega
          clear hr hfin
          go_wp2_with (go_at_call 82; refine (sub32_int _ _ _ (f (n + 2)) cc b _ rfl (by omega) rfl (by omega) (by omega) (by omega)).mono ?_; rintro e w' ⟨rfl, rfl⟩)
          go_ret
          exact ⟨_, q, rfl, HC.out, hLs, HMs.out, HN.out, HR.out.2, hq⟩
        · have hbo1 : bor (f (n + 2)) cc b = 1 := by have := bor_le (f (n + 2)) cc b; omega
          have hr := kn_wrong HQ1.out HQ2.out hq2 (val_lt hLs) (by rw [hfin, hbo1, Nat.one_mul])
          have hq1' : 1 ≤ q := by omega
          have HR := hid hr
          clear hr hfin hbo
          go_wp2_with (go_at_call 82; refine (sub32_int _ _ _ (f (n + 2)) cc b _ rfl (by omega) rfl (by omega) (by omega) (by omega)).mono ?_; rintro e w' ⟨rfl, rfl⟩)
          clear hbo1 hfr hco
          generalize hgh : upd h (n + 2) (dif (f (n + 2)) cc b) = H at *
          generalize hgw : wr.setCell ⟨gu, off + (n + 2), none⟩ (.int .u32 ((dif (f (n + 2)) cc b : Nat) : Int)) = w3 at *
          clear hgh hgw
          go_loopw [13, 132] (fun cv iv wr => ∃ (i cy : Nat) (h2 : Nat → Nat), i ≤ n + 2 ∧ cy ≤ 1 ∧ iv = .int .i64 i ∧ cv = .int .u32 cy ∧ Cs wr gu off (n + 3) h2 ∧ Lm h2 (n + 3) ∧ Md w wr gu off (n + 3) ∧ (∀ j, i ≤ j → h2 j = H j) ∧ Hid (val h2 i + cy * pw i = val H i + val v i)) (fun _ iv _ => (n + 2) - (intOf iv).toNat)
          case atStart => exact ⟨0, 0, H, Nat.zero_le _, Nat.zero_le _, rfl, rfl, HC.out, hLs, HMs.out, fun _ _ => rfl, by show _ = _; simp [val]⟩
          case round =>
            obtain ⟨i, cy, h2, hi, hcy, rfl, rfl, hC, hL, hM, hE, hS⟩ := hrel
            have HE := hid hE
            by_cases hlt : i < n + 2
            · have hcs := (HV.out wr hM).cs i (by omega)
              have hco := hC i (by omega)
              have lk := hL i (by omega)
              rw [hE i (Nat.le_refl _)] at hco lk
              have hfr : wr.frozen? ⟨gu, off + i, none⟩ = false := by rw [hM.fr]; exact HF.out i (by omega)
              have lvi := lv i (by omega)
              clear hE
              go_wp2_with (go_at_call 83; refine (add32_int _ _ _ (H i) (v i) cy _ rfl rfl rfl (by omega) (by omega) (by omega)).mono ?_; rintro e w' ⟨rfl, rfl⟩)
              go_roundw
              case rel =>
                go_light
                refine ⟨i + 1, (H i + v i + cy) / 4294967296, upd h2 i ((H i + v i + cy) % 4294967296), by omega, by omega, by go_num, by congr 1, hC.setI (by omega) (by omega), hL.upd (by omega), hM.set (by omega) (by omega) _, fun j hj => by rw [upd_other _ _ _ _ (by omega)]; exact HE.out j (by omega), ?_⟩
                show val _ (i + 1) + _ = _
                rw [val_upd_at, val_succ, val_succ]
                exact add_step hS.out (by omega)
              case measure => simp [intOf]; omega
            · have hiN : i = n + 2 := by omega
              subst hiN
              have hco := hC (n + 2) (by omega)
              have lk := hL (n + 2) (by omega)
              rw [hE (n + 2) (Nat.le_refl _)] at hco lk
              have hfr : wr.frozen? ⟨gu, off + (n + 2), none⟩ = false := by rw [hM.fr]; exact HF.out (n + 2) (by omega)
              have hCs := hC.set (j := n + 2) (by omega) ((H (n + 2) + cy) % 4294967296)
              have hMs := hM.set (j := off + (n + 2)) (by omega) (by omega) (.int .u32 (((H (n + 2) + cy) % 4294967296 : Nat) : Int))
              have hlt2 := val_lt (hL.mono (show n + 2 ≤ n + 3 by omega))
              have HCs := hid hCs
              have HMs2 := hid hMs
              clear hE hCs hMs
              go_wp2
              go_ret
              refine ⟨_, Q, ret_u32 (by have := HR.out.1; omega), HCs.out, hL.upd (by omega), HMs2.out, ?_⟩
              have h1 := HR.out
              have h3 : val (upd h2 (n + 2) ((H (n + 2) + cy) % 4294967296)) (n + 3) = val f (n + 3) - Q * val v (n + 2) := by
                rw [val_upd_at]
                refine kn_back ?_ hlt2 (by omega)
                have h4 := hS.out
                have h5 := h1.2.1
                rw [val_succ H (n + 2), pw_succ (n + 2)] at h5
                rw [Nat.add_mul]
                omega
              rw [h3]
              have := HQ1.out
              exact ⟨by omega, h1.2.2, hQ3⟩
end Go.Proofs.YticfggljaagcmaaDoor
