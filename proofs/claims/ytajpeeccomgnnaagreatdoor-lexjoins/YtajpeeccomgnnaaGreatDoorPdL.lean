/-
  The library's decimal: shift to the left, walked.
-/
import Derived.Test.YtajpeeccomgnnaaGreatDoorPdS
import Derived.Test.YtajpeeccomgnnaaGreatDoorPdX
import Derived.BigQuiet
namespace Go.Proofs.YtajpeeccomgnnaaGreatDoor
set_option linter.all false
open Go Go.RowKit

theorem dr3 {w w1 : World} {n : Nat} (h : ∃ q, w1 = (w.drewN n).drewN q) : ∃ q, w1 = w.drewN q := by
  obtain ⟨q, rfl⟩ := h
  exact dr2 ⟨_, rfl⟩
set_option maxRecDepth 100000 in
set_option maxHeartbeats 8000000 in
theorem left_any (b : Nat) (D : Nat → Nat) (nd k dl0 dl : Nat) (dp : Int) (ng tr : Bool) (s : ByteArray) (x off : Nat) (w : World)
    (hn0 : 0 < nd) (hn : nd ≤ 800) (hD : Digs D nd) (hd0 : D 0 ≠ 48) (hk1 : 1 ≤ k) (hk2 : k ≤ 60) (hs : s.size < 2 ^ 62) (hdl60 : dl0 ≤ 60) (hdlp : 0 < dl0)
    (hex : Exact D nd k dl) (hdl : (if lessP D nd (bt s) s.size 0 = true then dl0 - 1 else dl0) = dl) (h : Dc w b D nd dp ng tr)
    (g0 : w.cell? ⟨13, 0, none⟩ = some (.slice (some ⟨x, off, none⟩) 61 61)) (g1 : w.cell? ⟨x, off + k * 2, none⟩ = some (.int .i64 (dl0 : Nat))) (g2 : w.cell? ⟨x, off + k * 2 + 1, none⟩ = some (.string s)) :
    Calls Tryz.prog 156 #[.pointer (some ⟨b, 0, none⟩), .int .u64 (k : Nat)] w fun e w' => e = .returned (.tuple #[]) ∧
      Dw w b w' (lD D nd k dl) (trimN (lD D nd k dl) (min (nd + dl) 800)) (IntKind.i64.wrap (dp + (dl : Nat))) ng (lT D nd k dl tr nd) := by
  have hd1 : dl ≤ 60 := by rw [← hdl]; split <;> omega
  obtain ⟨LS, hLS⟩ : ∃ L, lessP D nd (bt s) s.size 0 = L := ⟨_, rfl⟩
  have HLS := hid hLS
  have Hdl := hid hdl
  have Hex := hid hex
  have HD := hid hD
  have Hd0 := hid hd0
  have Hh := hid h
  have hsl := dslice b nd hn
  have hk61 : (k : Int) < 61 := by omega
  have hc1 := h.n
  have hc2 := h.p
  have fr := h.fr
  clear hLS hdl hex hD hd0 h
  go_enter Tryz.func156, Tryz.ntmps156
  go_upto_region 1 with fail
  go_cut [30] from 17 to 30 (fun bv wx => bv = .bool LS ∧ ∃ q, wx = w.drewN q)
  case first =>
    go_wp2_with fail
    go_quiet ((refine (dless_any b D nd dp ng tr s _ hn (by omega) (Hh.out.keep (dN _ _ _))).mono ?_; rintro e w' ⟨rfl, hq⟩; exact ⟨congrArg (fun x => Ending.returned (Value.bool x)) HLS.out, dr3 hq⟩))
    go_wp2_with fail
    go_meet
    exact ⟨rfl, _, rfl⟩
  case rest =>
  obtain ⟨rfl, q, rfl⟩ := hcut
  go_upto_if 30 with fail
  go_cut [4] from 31 to 32 (fun dv wx => dv = .int .i64 (dl : Nat) ∧ wx = w.drewN q)
  case first =>
    by_cases c : LS = true
    · have e2 : dl0 - 1 = dl := by have := Hdl.out; rwa [HLS.out, if_pos c] at this
      have hw : IntKind.i64.wrap ((dl0 : Int) - 1) = (dl : Nat) := by rw [IntWalk.i64_in _ (by omega)]; omega
      have H2 := hid e2
      clear e2
      subst c
      go_wp2_with fail
      go_meet
      exact ⟨rfl, rfl⟩
    · have e2 : dl0 = dl := by have := Hdl.out; rwa [HLS.out, if_neg c] at this
      have c' : LS = false := by simpa using c
      have H2 := hid e2
      clear e2 c
      subst c'
      go_wp2_with fail
      go_meet
      exact ⟨by rw [H2.out], rfl⟩
  case rest =>
  obtain ⟨rfl, rfl⟩ := hcut
  have hwd : IntKind.i64.wrap ((nd : Int) + dl) = (nd : Int) + dl := IntWalk.i64_in _ (by omega)
  have hwn : IntKind.i64.wrap ((nd : Int) - 1) = (nd : Int) - 1 := IntWalk.i64_in _ (by omega)
  go_wp2_with fail
  go_loopg [5, 6, 7] nd (fun g rv wv nv wr => ∃ j : Nat, g + j = nd ∧ rv = .int .i64 ((g : Int) - 1) ∧ wv = .int .i64 ((g : Int) + dl) ∧ nv = .int .u64 (car D nd k j : Nat) ∧ Dw w b wr (lE D nd k dl j) nd dp ng (lT D nd k dl tr j))
  case atStart => exact ⟨0, rfl, rfl, rfl, rfl, Hh.out.keep (dN _ _ _), dN _ _ _⟩
  case round =>
    obtain ⟨j, hgj, rfl, rfl, rfl, hdw⟩ := hrel
    have hdc := hdw.dc
    have d0 := hdc.n
    have d1 := hdc.p
    have frr := hdc.fr
    rcases gk with _ | g
    · have hj : j = nd := by omega
      subst hj
      go_wp2_with fail
      go_loopg [6, 7] dl (fun g wv nv wr => ∃ i : Nat, g + i = dl ∧ wv = .int .i64 (g : Nat) ∧ nv = .int .u64 (car D j k j / 10 ^ i : Nat) ∧ Dw w b wr (mE (lE D j k dl j) (car D j k j) dl i) j dp ng (lT D j k dl tr j))
      case atStart => exact ⟨0, by omega, congrArg (Value.int .i64) (by omega), by simp, hdw⟩
      case round =>
        obtain ⟨i, hgi, rfl, rfl, hdw⟩ := hrel
        have hdc := hdw.dc
        have d0 := hdc.n
        have d1 := hdc.p
        have frr := hdc.fr
        rcases gk with _ | g
        · obtain rfl : i = dl := by omega
          have hz : car D j k j / 10 ^ i = 0 := Hex.out.out
          rw [hz]
          clear hz hwn hk61 hsl hc1 hc2 fr d0 d1 frr g0 g1 g2 hgj hgi
          have d0 := hdc.n
          have d1 := hdc.p
          have frr := hdc.fr
          have htop := (lD_top HD.out hn0 Hd0.out hk1 Hex.out).1
          have hpos := trimN_pos htop (min (j + i) 800) (by omega)
          by_cases h8 : j + i < 800
          · have h8i : ¬ (800 : Int) ≤ (j : Int) + i := by omega
            have e8 : min (j + i) 800 = j + i := by omega
            rw [e8] at hpos
            have HE8 := hid e8
            have HP := hid hpos
            clear hpos e8
            go_wp2_with fail
            refine (dtrim_any b (lD D j k i) (j + i) (IntKind.i64.wrap (dp + (i : Nat))) ng (lT D j k i tr j) _ (by omega) ?_).mono ?_
            · exact (hdc.setn (v := j + i) (by omega)).setp (IntWalk.i64_left _).symm
            · rintro e w' ⟨rfl, hw'⟩
              rw [if_neg (by have := HP.out; omega)] at hw'
              go_wp2_with fail
              go_end0
              refine ⟨rfl, ?_⟩
              rw [HE8.out]
              exact Dw.trans ⟨(hdc.setn (v := j + i) (by omega)).setp (IntWalk.i64_left _).symm, ((hdw.bl.setCell (Nat.le_refl _) _).setCell (Nat.le_refl _) _)⟩ hw'
          · have h8i : (800 : Int) ≤ (j : Int) + i := by omega
            have e8 : min (j + i) 800 = 800 := by omega
            rw [e8] at hpos
            have HE8 := hid e8
            have HP := hid hpos
            clear hpos e8
            go_wp2_with fail
            refine (dtrim_any b (lD D j k i) (800) (IntKind.i64.wrap (dp + (i : Nat))) ng (lT D j k i tr j) _ (by omega) ?_).mono ?_
            · exact ((hdc.setn (v := j + i) (by omega)).setn (v := 800) rfl).setp (IntWalk.i64_left _).symm
            · rintro e w' ⟨rfl, hw'⟩
              rw [if_neg (by have := HP.out; omega)] at hw'
              go_wp2_with fail
              go_end0
              refine ⟨rfl, ?_⟩
              rw [HE8.out]
              exact Dw.trans ⟨((hdc.setn (v := j + i) (by omega)).setn (v := 800) rfl).setp (IntWalk.i64_left _).symm, (((hdw.bl.setCell (Nat.le_refl _) _).setCell (Nat.le_refl _) _).setCell (Nat.le_refl _) _)⟩ hw'
        · have hmore := Hex.out.more (j := i) (by omega)
          have hcl := car_lt HD.out (k := k) (Nat.le_refl j)
          have hk60 : 2 ^ k ≤ 2 ^ 60 := Nat.pow_le_pow_right (by omega) hk2
          have hn1 : car D j k j / 10 ^ (i + 1) = car D j k j / 10 ^ i / 10 := by rw [Nat.div_div_eq_div_mul, Nat.pow_succ]
          have hle : car D j k j / 10 ^ i ≤ car D j k j := Nat.div_le_self _ _
          have HE : Hid (∀ w', Dw w b w' (upd (mE (lE D j k dl j) (car D j k j) dl i) g (car D j k j / 10 ^ i % 10 + 48)) j dp ng (lT D j k dl tr j) → Dw w b w' (mE (lE D j k dl j) (car D j k j) dl (i + 1)) j dp ng (lT D j k dl tr j)) := hid (by
            intro w' hw'
            unfold mE
            rw [show dl - 1 - i = g by omega]
            exact hw')
          have Hn1 := hid hn1
          clear hn1
          obtain ⟨L, hL⟩ : ∃ L, car D j k j / 10 ^ i = L := ⟨_, rfl⟩
          rw [hL] at hmore hle HE ⊢
          have HL := hid hL
          clear hL
          obtain ⟨r, hr⟩ : ∃ r, L % 10 = r := ⟨_, rfl⟩
          obtain ⟨Q, hQ⟩ : ∃ r, L / 10 = r := ⟨_, rfl⟩
          rw [hr] at HE
          have c3 := hdc.arr g (by omega)
          have h0 : (0 : Int) < L := by omega
          have e5b : IntKind.u64.wrap ((L : Int) / 10) = (Q : Int) := by rw [IntWalk.u64_in _ (by omega)]; omega
          have e6 : IntKind.u64.wrap (10 * (Q : Int)) = 10 * (Q : Int) := IntWalk.u64_in _ (by omega)
          have e7 : IntKind.u64.wrap ((L : Int) - 10 * (Q : Int)) = (r : Int) := by rw [IntWalk.u64_in _ (by omega)]; omega
          have hr9 : r < 10 := by omega
          have e8 : ((r : Int) + 48) % 256 = (r : Int) + 48 := by omega
          have e9 : IntKind.u64.wrap ((r : Int) + 48) = (r : Int) + 48 := IntWalk.u64_in _ (by omega)
          have HQ := hid hQ
          have h8i : (g : Int) + 1 - 1 < 800 := by omega
          have h8j : (g : Int) < 800 := by omega
          clear hr hQ
          go_wp2_with fail
          go_roundg g
          case measure => omega
          case rel => exact ⟨i + 1, by omega, congrArg (Value.int .i64) (by omega), by rw [Hn1.out, HL.out, HQ.out], HE.out _ ⟨hdc.setd (by omega) (by omega), hdw.bl.setCell (Nat.le_refl _) _⟩⟩
    · have hg := HD.out g (by omega)
      have c2 := hdc.arr g (by omega)
      rw [lE_far (by omega) (by omega)] at c2
      obtain ⟨x0, hx0⟩ : ∃ x0, D g = x0 + 48 := ⟨D g - 48, by omega⟩
      rw [hx0] at c2
      have hx9 : x0 ≤ 9 := by omega
      obtain ⟨M, hM⟩ : ∃ M, M = x0 * 2 ^ k := ⟨_, rfl⟩
      obtain ⟨C, hC⟩ : ∃ C, car D nd k j = C := ⟨_, rfl⟩
      obtain ⟨C2, hC2⟩ : ∃ C, car D nd k (j + 1) = C := ⟨_, rfl⟩
      have hk60 : 2 ^ k ≤ 2 ^ 60 := Nat.pow_le_pow_right (by omega) hk2
      have hcl : C < 2 ^ k := by rw [← hC]; exact car_lt HD.out (by omega)
      have hMl : M ≤ 9 * 2 ^ k := by rw [hM]; exact Nat.mul_le_mul_right _ hx9
      have hgi : nd - 1 - j = g := by omega
      have hL : lx D nd k j = M + C := by unfold lx; rw [hgi, hx0, hM, hC, Nat.add_sub_cancel]
      have hC2' : C2 = (M + C) / 10 := by rw [← hC2, car, hgi, hx0, hM, hC, Nat.add_sub_cancel]
      have e1 : IntKind.u64.wrap ((x0 : Int) + 48) = (x0 : Int) + 48 := IntWalk.u64_in _ (by omega)
      have e2 : IntKind.u64.wrap ((x0 : Int) + 48 - 48) = (x0 : Int) := by rw [show (x0 : Int) + 48 - 48 = x0 by omega]; exact IntWalk.u64_in _ (by omega)
      have e2b : IntKind.u64.wrap (x0 : Int) = (x0 : Int) := IntWalk.u64_in _ (by omega)
      have hMi : (M : Int) = (x0 : Int) * 2 ^ k := by rw [hM]; push_cast; rfl
      have e3 : IntKind.u64.wrap ((x0 : Int) * 2 ^ k) = (M : Int) := by rw [← hMi]; exact IntWalk.u64_in _ (by omega)
      have e4 : IntKind.u64.wrap ((C : Int) + (M : Int)) = ((M + C : Nat) : Int) := by rw [IntWalk.u64_in _ (by omega)]; omega
      obtain ⟨L, hLL⟩ : ∃ L, M + C = L := ⟨_, rfl⟩
      rw [hLL] at e4 hL hC2'
      obtain ⟨r, hr⟩ : ∃ r, L % 10 = r := ⟨_, rfl⟩
      have e5 : IntKind.u64.wrap ((L : Int).tdiv 10) = (C2 : Int) := by rw [Int.tdiv_eq_ediv_of_nonneg (by omega)]; rw [IntWalk.u64_in _ (by omega)]; omega
      have e5b : IntKind.u64.wrap ((L : Int) / 10) = (C2 : Int) := by rw [IntWalk.u64_in _ (by omega)]; omega
      have e6 : IntKind.u64.wrap (10 * (C2 : Int)) = 10 * (C2 : Int) := IntWalk.u64_in _ (by omega)
      have e7 : IntKind.u64.wrap ((L : Int) - 10 * (C2 : Int)) = (r : Int) := by rw [IntWalk.u64_in _ (by omega)]; omega
      have hr9 : r < 10 := by omega
      have e8 : ((r : Int) + 48) % 256 = (r : Int) + 48 := by omega
      have e9 : IntKind.u64.wrap ((r : Int) + 48) = (r : Int) + 48 := IntWalk.u64_in _ (by omega)
      have hp : nd + dl - 1 - j = g + dl := by omega
      have HE : Hid (∀ w', Dw w b w' (if nd + dl - 1 - j < 800 then upd (lE D nd k dl j) (g + dl) (r + 48) else lE D nd k dl j) nd dp ng (if nd + dl - 1 - j < 800 then lT D nd k dl tr j else if r ≠ 0 then true else lT D nd k dl tr j) → Dw w b w' (lE D nd k dl (j + 1)) nd dp ng (lT D nd k dl tr (j + 1))) := hid (by
        intro w' hw'
        unfold lE lT
        rw [hL, hr, hp]
        rw [hp] at hw'
        exact hw')
      rw [hp] at HE
      have HC2 := hid hC2
      have HX := hid hx0
      rw [hC]
      clear hC hC2 hx0 hM hMi hLL hr hL hgi hp hk60 hcl hMl hC2'
      by_cases h8 : g + dl < 800
      · have h8i : (g : Int) + 1 + dl - 1 < 800 := by omega
        have c3 := hdc.arr (g + dl) h8
        have d3 := hdc.t
        have HE2 := hid (fun w' => by have := HE.out w'; rw [if_pos h8, if_pos h8] at this; exact this)
        clear HE
        go_wp2_with fail
        go_roundg g
        case measure => omega
        case rel =>
          refine ⟨j + 1, by omega, by first | rfl | exact congrArg (Value.int .i64) (by omega), congrArg (Value.int .i64) (by omega), by rw [HC2.out], HE2.out _ ⟨hdc.setd h8 (by omega), hdw.bl.setCell (Nat.le_refl _) _⟩⟩
      · have h8i : ¬ (g : Int) + 1 + dl - 1 < 800 := by omega
        have d3 := hdc.t
        by_cases hr0 : r = 0
        · have hr1 : ((r : Int) != 0) = false := by simp [hr0]
          have hr2 : ((r : Int) == 0) = true := by simp [hr0]
          have HE2 := hid (fun w' => by have := HE.out w'; rw [if_neg h8, if_neg h8, if_neg (by omega)] at this; exact this)
          have HR0 := hid hr0
          clear HE hr0
          go_wp2_with fail
          go_roundg g
          case measure => omega
          case rel =>
            refine ⟨j + 1, by omega, by first | rfl | exact congrArg (Value.int .i64) (by omega), congrArg (Value.int .i64) (by omega), by rw [HC2.out], HE2.out _ ⟨hdc, hdw.bl⟩⟩
        · have hr1 : ((r : Int) != 0) = true := by simp; omega
          have hr2 : ((r : Int) == 0) = false := by simp; omega
          have HE2 := hid (fun w' => by have := HE.out w'; rw [if_neg h8, if_neg h8, if_pos hr0] at this; exact this)
          clear HE
          go_wp2_with fail
          go_roundg g
          case measure => omega
          case rel =>
            refine ⟨j + 1, by omega, by first | rfl | exact congrArg (Value.int .i64) (by omega), congrArg (Value.int .i64) (by omega), by rw [HC2.out], HE2.out _ ⟨hdc.sett true, hdw.bl.setCell (Nat.le_refl _) _⟩⟩
end Go.Proofs.YtajpeeccomgnnaaGreatDoor
