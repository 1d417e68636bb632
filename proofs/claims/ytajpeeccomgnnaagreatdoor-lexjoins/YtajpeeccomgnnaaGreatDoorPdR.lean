/-
  The library's decimal: shift to the right, walked.
-/
import Derived.Test.YtajpeeccomgnnaaGreatDoorPdS
import Derived.Test.YtajpeeccomgnnaaGreatDoorPdX
import Derived.BigQuiet
namespace Go.Proofs.YtajpeeccomgnnaaGreatDoor
set_option linter.all false
open Go Go.RowKit

theorem dvq (N k : Nat) : ((N : Int) / 2 ^ k) = ((N / 2 ^ k : Nat) : Int) := by push_cast; rfl
theorem dv0 {N k : Nat} (h : N < 2 ^ k) : ((N : Int) / 2 ^ k == 0) = true := by
  rw [dvq, Nat.div_eq_of_lt h]; rfl
theorem dv1 {N k : Nat} (h : 2 ^ k ≤ N) : ((N : Int) / 2 ^ k == 0) = false := by
  have := Nat.div_pos h (Nat.pow_pos (n := k) (show 0 < 2 by omega))
  rw [dvq]
  generalize N / 2 ^ k = q at *
  simp; omega
theorem mask_u64 {N k P : Nat} (hP : P = 2 ^ k) (hk : k ≤ 60) (hN : N < 18446744073709551616) : bits BinOp.and IntKind.u64 (N : Int) ((P : Int) - 1) = ((N % P : Nat) : Int) := by
  have h60 : 2 ^ k ≤ 2 ^ 60 := Nat.pow_le_pow_right (by omega) hk
  have hp : 0 < 2 ^ k := Nat.pow_pos (by omega)
  have h := bits_and_u64_nat N (P - 1) (by omega) (by omega)
  rw [hP, Nat.and_two_pow_sub_one_eq_mod, ← hP] at h
  rw [show ((P : Int) - 1) = ((P - 1 : Nat) : Int) by omega]
  exact h
set_option maxRecDepth 100000 in
set_option maxHeartbeats 8000000 in
theorem right_any (b : Nat) (D : Nat → Nat) (nd k R J : Nat) (dp : Int) (ng tr : Bool) (w : World)
    (hk2 : k ≤ 60) (ho : SdOk ⟨D, nd, dp, tr⟩) (hr : Rsh k ⟨D, nd, dp, tr⟩ R J) (h : Dc w b D nd dp ng tr) :
    Calls Tryz.prog 157 #[.pointer (some ⟨b, 0, none⟩), .int .u64 (k : Nat)] w fun e w' => e = .returned (.tuple #[]) ∧
      Dw w b w' (rE D (ext D nd) k R J) (trimN (rE D (ext D nd) k R J) (min J 800)) (IntKind.i64.wrap (dp - IntKind.i64.wrap ((R : Nat) - 1))) ng (rT (ext D nd) k R tr J) := by
  obtain ⟨hn0, hn, hD, hd0⟩ := ho
  obtain ⟨r0, r1, lo, hi, bf, j0, jr, z, nz⟩ := hr
  dsimp only at hn0 hn hD hd0 lo hi bf j0 jr z nz
  have hX := fun m => ext_digs hD m
  have hJ : 0 < J := by
    rcases J with _ | J
    · have hp : 0 < (2 : Nat) ^ k := Nat.pow_pos (by omega)
      rw [rn] at z; omega
    · omega
  have HX := hid hX
  have HD := hid hD
  have Hd0 := hid hd0
  have Hlo := hid lo
  have Hhi := hid hi
  have Hbf := hid bf
  have Hz := hid z
  have Hnz := hid nz
  have Hh := hid h
  have hc1 := h.n
  have fr := h.fr
  clear hX hD hd0 lo hi bf z nz h
  obtain ⟨dp2, hdp2⟩ : ∃ d, IntKind.i64.wrap (dp - IntKind.i64.wrap ((R : Nat) - 1)) = d := ⟨_, rfl⟩
  rw [hdp2]
  have eR : IntKind.i64.wrap ((R : Int) - 1) = (R : Int) - 1 := IntWalk.i64_in _ (by omega)
  rw [eR] at hdp2
  have hdp3 : wrap64 (dp - ((R : Int) - 1)) = dp2 := by rw [← IntWalk.i64_left]; exact hdp2
  go_enter Tryz.func157, Tryz.ntmps157
  go_upto_block 0 with fail
  go_cut [4, 6] from 12 to 48 (fun rv nv wx => rv = .int .i64 (R : Nat) ∧ nv = .int .u64 (dval (ext D nd) R : Nat) ∧ ∃ q, wx = w.drewN q)
  case first =>
    go_wp2_with fail
    go_loopg [4, 6] R (fun g rv nv wr => ∃ j : Nat, g + j = R ∧ j ≤ nd ∧ rv = .int .i64 (j : Nat) ∧ nv = .int .u64 (dval (ext D nd) j : Nat) ∧ ∃ q, wr = w.drewN q)
    case atStart => exact ⟨0, rfl, by omega, rfl, rfl, 0, rfl⟩
    case round =>
      obtain ⟨j, hgj, hjn, rfl, rfl, q, rfl⟩ := hrel
      rcases gk with _ | g
      · obtain rfl : j = R := by omega
        have q1 := dv1 Hlo.out
        go_wp2_with fail
        go_meet
        exact ⟨rfl, rfl, _, rfl⟩
      · have hjR : j < R := by omega
        have hlt := Hbf.out j hjR
        have q1 := dv0 hlt
        have hk60 : 2 ^ k ≤ 2 ^ 60 := Nat.pow_le_pow_right (by omega) hk2
        by_cases hj : j = nd
        · subst hj
          have hN1 : 1 ≤ dval (ext D j) j := by
            obtain ⟨m, rfl⟩ : ∃ m, j = 1 + m := ⟨j - 1, by omega⟩
            have g1 := (dval_grow (D := ext D (1 + m)) (a := 1) (j := m) (HX.out _)).1
            have g2 : 1 ≤ dval (ext D (1 + m)) 1 := by
              have h1 := HD.out 0 (by omega)
              have h2 := Hd0.out
              simp [dval, ext_in hn0]; omega
            have g3 := Nat.mul_le_mul_right (10 ^ m) g2
            have g4 : 0 < 10 ^ m := Nat.pow_pos (by omega)
            omega
          have q2 : ((dval (ext D j) j : Int) == 0) = false := by simp; omega
          go_wp2_with fail
          go_loopg [4, 6] (g + 1) (fun g rv nv wr => ∃ i : Nat, g + i = R ∧ j ≤ i ∧ rv = .int .i64 (i : Nat) ∧ nv = .int .u64 (dval (ext D j) i : Nat) ∧ ∃ q, wr = w.drewN q)
          case atStart => exact ⟨j, by omega, Nat.le_refl _, rfl, rfl, _, rfl⟩
          case round =>
            obtain ⟨i, hgi, hji, rfl, rfl, q, rfl⟩ := hrel
            clear q1 q2
            rcases gk with _ | g2
            · obtain rfl : i = R := by omega
              have q1 := dv1 Hlo.out
              go_wp2_with fail
              go_meet
              exact ⟨rfl, rfl, _, rfl⟩
            · have hiR : i < R := by omega
              have hlt := Hbf.out i hiR
              have q1 := dv0 hlt
              have hs : dval (ext D j) (i + 1) = dval (ext D j) i * 10 := by
                rw [dval, ext_out hji]; omega
              have e1 : IntKind.u64.wrap ((dval (ext D j) i : Int) * 10) = (dval (ext D j) (i + 1) : Nat) := by rw [IntWalk.u64_in _ (by omega)]; omega
              have hR62 : R ≤ 61 := by omega
              have Hs := hid hs
              clear hs
              go_wp2_with fail
              go_roundg g2
              case measure => omega
              case rel => exact ⟨i + 1, by omega, by omega, by first | rfl | exact congrArg (Value.int .i64) (by omega), rfl, _, rfl⟩
        · have hjl : j < nd := by omega
          have c2 := Hh.out.arr j (by omega)
          have hg := HD.out j hjl
          obtain ⟨x0, hx0⟩ : ∃ x0, D j = x0 + 48 := ⟨D j - 48, by omega⟩
          have hs : dval (ext D nd) (j + 1) = dval (ext D nd) j * 10 + x0 := by
            rw [dval, ext_in hjl]; omega
          rw [hx0] at c2
          have hx9 : x0 ≤ 9 := by omega
          have hjl2 : ¬ (nd : Int) ≤ (j : Int) := by omega
          have hj8 : (j : Int) < 800 := by omega
          obtain ⟨N, hN⟩ : ∃ N, dval (ext D nd) j = N := ⟨_, rfl⟩
          obtain ⟨N2, hN2⟩ : ∃ N, dval (ext D nd) (j + 1) = N := ⟨_, rfl⟩
          rw [hN, hN2] at hs
          rw [hN] at hlt q1
          have e0 : IntKind.u64.wrap ((x0 : Int) + 48) = (x0 : Int) + 48 := IntWalk.u64_in _ (by omega)
          have e1 : IntKind.u64.wrap ((N : Int) * 10) = (N : Int) * 10 := IntWalk.u64_in _ (by omega)
          have e2 : IntKind.u64.wrap ((N : Int) * 10 + ((x0 : Int) + 48)) = (N : Int) * 10 + ((x0 : Int) + 48) := IntWalk.u64_in _ (by omega)
          have e3 : IntKind.u64.wrap ((N : Int) * 10 + ((x0 : Int) + 48) - 48) = (N2 : Int) := by rw [IntWalk.u64_in _ (by omega)]; omega
          have HN2 := hid hN2
          rw [hN]
          clear hN hN2 hs hx0
          go_wp2_with fail
          go_roundg g
          case measure => omega
          case rel => exact ⟨j + 1, by omega, by omega, by first | rfl | exact congrArg (Value.int .i64) (by omega), by rw [HN2.out], _, rfl⟩
  case rest =>
  obtain ⟨rfl, rfl, q, rfl⟩ := hcut
  have hc2 := Hh.out.p
  have hk60 : 2 ^ k ≤ 2 ^ 60 := Nat.pow_le_pow_right (by omega) hk2
  have hpp : 0 < 2 ^ k := Nat.pow_pos (by omega)
  obtain ⟨P, hP⟩ : ∃ P, P = 2 ^ k := ⟨_, rfl⟩
  have hPi : (2 : Int) ^ k = (P : Int) := by rw [hP]; push_cast; rfl
  have m1 : IntKind.u64.wrap ((2 : Int) ^ k) = (P : Int) := by rw [hPi]; exact IntWalk.u64_in _ (by omega)
  have m2 : IntKind.u64.wrap ((P : Int) - 1) = (P : Int) - 1 := IntWalk.u64_in _ (by omega)
  have HP := hid hP
  have HPi := hid hPi
  have hP60 : P ≤ 2 ^ 60 := by omega
  have hP0 : 0 < P := by omega
  clear hP hPi
  go_upto_block 4 with fail
  go_cut [5, 6] from 61 to 96 (fun wv nv wx => wv = .int .i64 ((nd - R : Nat) : Int) ∧ nv = .int .u64 (rn (ext D nd) k R (nd - R) : Nat) ∧ Dw w b wx (rE D (ext D nd) k R (nd - R)) nd dp2 ng (rT (ext D nd) k R tr (nd - R)))
  case first =>
    clear m1 m2 hdp2 hdp3 eR hc1 hc2 fr
    go_wp2_with fail
    go_loopg [4, 5, 6] (nd - R) (fun g rv wv nv wr => ∃ j : Nat, g + j = nd - R ∧ rv = .int .i64 ((R + j : Nat) : Int) ∧ wv = .int .i64 (j : Nat) ∧ nv = .int .u64 (rn (ext D nd) k R j : Nat) ∧ Dw w b wr (rE D (ext D nd) k R j) nd dp2 ng (rT (ext D nd) k R tr j))
    case atStart => exact ⟨0, by omega, congrArg (Value.int .i64) (by omega), rfl, rfl, (Hh.out.keep (dN _ _ q)).setp rfl, (dN b w q).setCell (Nat.le_refl b) _⟩
    case round =>
      obtain ⟨j, hgj, rfl, rfl, rfl, hdw⟩ := hrel
      have hdc := hdw.dc
      have d0 := hdc.n
      have frr := hdc.fr
      rcases gk with _ | g
      · obtain rfl : j = nd - R := by omega
        have hge : ¬ ((R + (nd - R) : Nat) : Int) < (nd : Int) := by omega
        go_wp2_with fail
        go_meet
        exact ⟨rfl, rfl, hdw⟩
      · have hlt : ((R + j : Nat) : Int) < (nd : Int) := by omega
        have hlt2 : (R : Int) + (j : Int) < (nd : Int) := by omega
        have c2 := hdc.arr (R + j) (by omega)
        rw [rE_far (by omega)] at c2
        have hg := HD.out (R + j) (by omega)
        obtain ⟨x0, hx0⟩ : ∃ x0, D (R + j) = x0 + 48 := ⟨D (R + j) - 48, by omega⟩
        rw [hx0] at c2
        have hx9 : x0 ≤ 9 := by omega
        have c3 := hdc.arr j (by omega)
        have hj8 : (j : Int) < 800 := by omega
        have hR8 : (R : Int) + (j : Int) < 800 := by omega
        have hNl := rn_lt HX.out Hhi.out j
        obtain ⟨N, hN⟩ : ∃ N, rn (ext D nd) k R j = N := ⟨_, rfl⟩
        obtain ⟨N2, hN2⟩ : ∃ N, rn (ext D nd) k R (j + 1) = N := ⟨_, rfl⟩
        obtain ⟨q1, hq1⟩ : ∃ q, N / 2 ^ k = q := ⟨_, rfl⟩
        obtain ⟨mP, hmP⟩ : ∃ m, N % P = m := ⟨_, rfl⟩
        rw [hN] at hNl
        have hs : N2 = mP * 10 + x0 := by
          rw [← hN2, rn, hN, ← hmP, HP.out]
          rw [ext_in (show R + j < nd by omega), hx0]; omega
        have hq9 : q1 ≤ 9 := by
          have : N / 2 ^ k < 10 := Nat.div_lt_of_lt_mul (by omega)
          omega
        have hmPl : mP < P := by rw [← hmP]; exact Nat.mod_lt _ hP0
        have f1 : (N : Int) / 2 ^ k = (q1 : Int) := by rw [dvq, hq1]
        have f2 : bits BinOp.and IntKind.u64 (N : Int) ((P : Int) - 1) = (mP : Int) := by rw [mask_u64 HP.out hk2 (by omega), hmP]
        have f3 : IntKind.u64.wrap ((q1 : Int) + 48) = (q1 : Int) + 48 := IntWalk.u64_in _ (by omega)
        have f4 : ((q1 : Int) + 48) % 256 = (q1 : Int) + 48 := by omega
        have f6 : IntKind.u64.wrap ((mP : Int) * 10) = (mP : Int) * 10 := IntWalk.u64_in _ (by omega)
        have f5 : IntKind.u64.wrap ((x0 : Int) + 48) = (x0 : Int) + 48 := IntWalk.u64_in _ (by omega)
        have f7 : IntKind.u64.wrap ((mP : Int) * 10 + ((x0 : Int) + 48)) = (mP : Int) * 10 + ((x0 : Int) + 48) := IntWalk.u64_in _ (by omega)
        have f8 : IntKind.u64.wrap ((mP : Int) * 10 + ((x0 : Int) + 48) - 48) = (N2 : Int) := by rw [IntWalk.u64_in _ (by omega)]; omega
        have HN2 := hid hN2
        have HE : Hid (∀ w', Dw w b w' (if j < 800 then upd (rE D (ext D nd) k R j) j (q1 + 48) else rE D (ext D nd) k R j) nd dp2 ng (if j < 800 then rT (ext D nd) k R tr j else if 0 < q1 then true else rT (ext D nd) k R tr j) → Dw w b w' (rE D (ext D nd) k R (j + 1)) nd dp2 ng (rT (ext D nd) k R tr (j + 1))) := hid (by
          intro w' hw'
          unfold rE rT
          rw [hN, hq1]
          exact hw')
        have HE2 := hid (fun w' => by have := HE.out w'; rw [if_pos (show j < 800 by omega), if_pos (show j < 800 by omega)] at this; exact this)
        rw [hN]
        clear HE hN hN2 hq1 hmP hs hx0
        go_wp2_with fail
        go_roundg g
        case measure => omega
        case rel => exact ⟨j + 1, by omega, congrArg (Value.int .i64) (by omega), congrArg (Value.int .i64) (by omega), by rw [HN2.out], HE2.out _ ⟨hdc.setd (by omega) (by omega), hdw.bl.setCell (Nat.le_refl _) _⟩⟩
  case rest =>
  obtain ⟨rfl, rfl, hdw1⟩ := hcut
  go_upto_block 6 with fail
  go_cut [5] from 97 to 123 (fun wv wx => wv = .int .i64 ((min J 800 : Nat) : Int) ∧ Dw w b wx (rE D (ext D nd) k R J) nd dp2 ng (rT (ext D nd) k R tr J))
  case first =>
    clear hdp2 hdp3 eR hc1 hc2 fr
    go_wp2_with fail
    go_loopg [5, 6] (J - (nd - R)) (fun g wv nv wr => ∃ j : Nat, g + j = J ∧ nd - R ≤ j ∧ wv = .int .i64 ((min j 800 : Nat) : Int) ∧ nv = .int .u64 (rn (ext D nd) k R j : Nat) ∧ Dw w b wr (rE D (ext D nd) k R j) nd dp2 ng (rT (ext D nd) k R tr j))
    case atStart => exact ⟨nd - R, by omega, Nat.le_refl _, congrArg (Value.int .i64) (by omega), rfl, hdw1⟩
    case round =>
      obtain ⟨j, hgj, hj1, rfl, rfl, hdw⟩ := hrel
      have hdc := hdw.dc
      have d3 := hdc.t
      have frr := hdc.fr
      rcases gk with _ | g
      · obtain rfl : j = J := by omega
        rw [Hz.out]
        go_wp2_with fail
        go_meet
        exact ⟨rfl, hdw⟩
      · have hnz := Hnz.out j (by omega) (by omega)
        have hNl := rn_lt HX.out Hhi.out j
        obtain ⟨N, hN⟩ : ∃ N, rn (ext D nd) k R j = N := ⟨_, rfl⟩
        obtain ⟨N2, hN2⟩ : ∃ N, rn (ext D nd) k R (j + 1) = N := ⟨_, rfl⟩
        obtain ⟨q1, hq1⟩ : ∃ q, N / 2 ^ k = q := ⟨_, rfl⟩
        obtain ⟨mP, hmP⟩ : ∃ m, N % P = m := ⟨_, rfl⟩
        rw [hN] at hNl
        have hs : N2 = mP * 10 + 0 := by
          rw [← hN2, rn, hN, ← hmP, HP.out]
          rw [ext_out (show nd ≤ R + j by omega)]
        have hq9 : q1 ≤ 9 := by
          have : N / 2 ^ k < 10 := Nat.div_lt_of_lt_mul (by omega)
          omega
        have hmPl : mP < P := by rw [← hmP]; exact Nat.mod_lt _ hP0
        have f1 : (N : Int) / 2 ^ k = (q1 : Int) := by rw [dvq, hq1]
        have f2 : bits BinOp.and IntKind.u64 (N : Int) ((P : Int) - 1) = (mP : Int) := by rw [mask_u64 HP.out hk2 (by omega), hmP]
        have f3 : IntKind.u64.wrap ((q1 : Int) + 48) = (q1 : Int) + 48 := IntWalk.u64_in _ (by omega)
        have f4 : ((q1 : Int) + 48) % 256 = (q1 : Int) + 48 := by omega
        have f6 : IntKind.u64.wrap ((mP : Int) * 10) = (mP : Int) * 10 := IntWalk.u64_in _ (by omega)
        have HN2 := hid hN2
        have HE : Hid (∀ w', Dw w b w' (if j < 800 then upd (rE D (ext D nd) k R j) j (q1 + 48) else rE D (ext D nd) k R j) nd dp2 ng (if j < 800 then rT (ext D nd) k R tr j else if 0 < q1 then true else rT (ext D nd) k R tr j) → Dw w b w' (rE D (ext D nd) k R (j + 1)) nd dp2 ng (rT (ext D nd) k R tr (j + 1))) := hid (by
          intro w' hw'
          unfold rE rT
          rw [hN, hq1]
          exact hw')
        rw [hN] at hnz
        have h0 : (0 : Int) < N := by omega
        rw [hN]
        have hs2 : (mP : Int) * 10 = (N2 : Int) := by omega
        have HS2 := hid hs2
        clear hN hN2 hq1 hmP hs hs2
        by_cases h8 : j < 800
        · have HE2 := hid (fun w' => by have := HE.out w'; rw [if_pos h8, if_pos h8] at this; exact this)
          clear HE
          have em : min j 800 = j := by omega
          rw [em]
          clear em
          have hj8 : (j : Int) < 800 := by omega
          have c3 := hdc.arr j (by omega)
          go_wp2_with fail
          go_roundg g
          case measure => omega
          case rel => exact ⟨j + 1, by omega, by omega, congrArg (Value.int .i64) (by omega), by rw [HS2.out, HN2.out], HE2.out _ ⟨hdc.setd (by omega) (by omega), hdw.bl.setCell (Nat.le_refl _) _⟩⟩
        · have em : min j 800 = 800 := by omega
          rw [em]
          clear em
          have hj8 : ¬ (j : Int) < 800 := by omega
          by_cases hq0 : 0 < q1
          · have HE2 := hid (fun w' => by have := HE.out w'; rw [if_neg h8, if_neg h8, if_pos hq0] at this; exact this)
            clear HE
            have hq2 : (0 : Int) < q1 := by omega
            go_wp2_with fail
            go_roundg g
            case measure => omega
            case rel => exact ⟨j + 1, by omega, by omega, congrArg (Value.int .i64) (by omega), by rw [HS2.out, HN2.out], HE2.out _ ⟨hdc.sett true, hdw.bl.setCell (Nat.le_refl _) _⟩⟩
          · have HE2 := hid (fun w' => by have := HE.out w'; rw [if_neg h8, if_neg h8, if_neg hq0] at this; exact this)
            clear HE
            have hq2 : ¬ (0 : Int) < q1 := by omega
            go_wp2_with fail
            go_roundg g
            case measure => omega
            case rel => exact ⟨j + 1, by omega, by omega, congrArg (Value.int .i64) (by omega), by rw [HS2.out, HN2.out], HE2.out _ ⟨hdc, hdw.bl⟩⟩
  case rest =>
  obtain ⟨rfl, hdw⟩ := hcut
  have hdc := hdw.dc
  have d0 := hdc.n
  have frr := hdc.fr
  have htop : rE D (ext D nd) k R J 0 ≠ 48 := by
    rw [rE_top HX.out Hhi.out hJ]
    have : 0 < dval (ext D nd) R / 2 ^ k := Nat.div_pos Hlo.out (Nat.pow_pos (by omega))
    omega
  have hpos := trimN_pos htop (min J 800) (by omega)
  clear hc1 hc2 fr
  go_wp2_with fail
  refine (dtrim_any b (rE D (ext D nd) k R J) (min J 800) dp2 ng (rT (ext D nd) k R tr J) _ (by omega) ?_).mono ?_
  · exact hdc.setn rfl
  · rintro e w' ⟨rfl, hw'⟩
    rw [if_neg (by omega)] at hw'
    go_wp2_with fail
    go_end0
    refine ⟨rfl, ?_⟩
    exact Dw.trans ⟨hdc.setn rfl, hdw.bl.setCell (Nat.le_refl _) _⟩ hw'
end Go.Proofs.YtajpeeccomgnnaaGreatDoor
