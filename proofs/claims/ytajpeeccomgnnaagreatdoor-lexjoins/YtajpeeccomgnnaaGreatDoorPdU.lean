/-
  The library's decimal: rounding, walked.
-/
import Derived.Test.YtajpeeccomgnnaaGreatDoorPdT
import Derived.BigQuiet
namespace Go.Proofs.YtajpeeccomgnnaaGreatDoor
set_option linter.all false
open Go Go.RowKit

theorem podd (x0 : Nat) : ((x0 : Int) % 2 != 0) = decide (x0 % 2 = 1) := by
  rw [Bool.eq_iff_iff]
  simp
  omega
set_option maxRecDepth 100000 in
set_option maxHeartbeats 4000000 in
theorem up_ex (S : Sd) (ho : SdOk S) (n : Int) : ∃ r : Bool, ∀ w b ng, DcS w b S ng →
    Calls Tryz.prog 158 #[.pointer (some ⟨b, 0, none⟩), .int .i64 n] w fun e w' => e = .returned (.bool r) ∧ ∃ q, w' = w.drewN q := by
  have hn8 := ho.le
  rcases Int.lt_or_le n 0 with hn | hn
  · refine ⟨false, fun w b ng h => ?_⟩
    go_enter Tryz.func158, Tryz.ntmps158
    go_wp2_with fail
    go_ret
    exact ⟨rfl, 0, rfl⟩
  · obtain ⟨i, rfl⟩ : ∃ i : Nat, n = (i : Int) := ⟨n.toNat, by omega⟩
    have hn0 : ¬ (i : Int) < 0 := by omega
    by_cases hge : S.nd ≤ i
    · refine ⟨false, fun w b ng h => ?_⟩
      have c0 := h.n
      go_enter Tryz.func158, Tryz.ntmps158
      go_wp2_with fail
      go_ret
      exact ⟨rfl, 0, rfl⟩
    · have hlt : i < S.nd := by omega
      have hlt2 : ¬ (S.nd : Int) ≤ (i : Int) := by omega
      have hi8 : (i : Int) < 800 := by omega
      have hdg := ho.dg
      by_cases h5 : S.D i = 53
      · have e5 : ((S.D i : Int) == 53) = true := by simp [h5]
        by_cases hl : i + 1 = S.nd
        · have el : ((i : Int) + 1 == (S.nd : Int)) = true := by simp; omega
          have H5 := hid h5
          have Hl := hid hl
          clear h5 hl
          rcases htr : S.tr with _ | _
          · by_cases hi0 : i = 0
            · subst hi0
              refine ⟨false, fun w b ng h => ?_⟩
              have c0 := h.n
              have c2 := h.arr 0 (by omega)
              have c3 := h.t
              rw [htr] at c3
              have Htr := hid htr
              have h00 : ((0 : Nat) : Int) = 0 := rfl
              rw [h00] at el
              clear htr
              go_enter Tryz.func158, Tryz.ntmps158
              go_wp2_with fail
              go_ret
              exact ⟨rfl, 0, rfl⟩
            · have hi1 : (0 : Int) < (i : Int) := by omega
              have hi2 : (i : Int) - 1 < 800 := by omega
              obtain ⟨j, rfl⟩ : ∃ j, i = j + 1 := ⟨i - 1, by omega⟩
              have hj := hdg j (by omega)
              obtain ⟨x0, hx0⟩ : ∃ x0, S.D j = x0 + 48 := ⟨S.D j - 48, by omega⟩
              refine ⟨decide (x0 % 2 ≠ 0), fun w b ng h => ?_⟩
              have c0 := h.n
              have c1 := h.arr j (by omega)
              rw [hx0] at c1
              have hx9 : x0 ≤ 9 := by omega
              have e1 : ((x0 : Int) + 48 - 48) % 256 = (x0 : Int) := by omega
              have e2 : (x0 : Int) % 256 = (x0 : Int) := by omega
              have Hx := hid hx0
              clear hx0
              have c2 := h.arr (j + 1) (by omega)
              have c3 := h.t
              rw [htr] at c3
              have Htr := hid htr
              clear htr
              go_enter Tryz.func158, Tryz.ntmps158
              go_wp2_with fail
              go_ret
              exact ⟨congrArg (fun x => Ending.returned (Value.bool x)) (podd x0), 0, rfl⟩
          · refine ⟨true, fun w b ng h => ?_⟩
            have c0 := h.n
            have c2 := h.arr i (by omega)
            have c3 := h.t
            rw [htr] at c3
            have Htr := hid htr
            clear htr
            go_enter Tryz.func158, Tryz.ntmps158
            go_wp2_with fail
            go_ret
            exact ⟨rfl, 0, rfl⟩
        · have el : ((i : Int) + 1 == (S.nd : Int)) = false := by simp; omega
          refine ⟨true, fun w b ng h => ?_⟩
          have c0 := h.n
          have c2 := h.arr i (by omega)
          have e6 : (53 : Int) ≤ (S.D i : Int) := by omega
          have H5 := hid h5
          have Hl := hid hl
          clear h5 hl
          go_enter Tryz.func158, Tryz.ntmps158
          go_wp2_with fail
          go_ret
          exact ⟨rfl, 0, rfl⟩
      · have e5 : ((S.D i : Int) == 53) = false := by simp; omega
        refine ⟨decide (53 ≤ S.D i), fun w b ng h => ?_⟩
        have c0 := h.n
        have c2 := h.arr i (by omega)
        have H5 := hid h5
        clear h5
        go_enter Tryz.func158, Tryz.ntmps158
        go_wp2_with fail
        go_ret
        exact ⟨by first | rfl | (congr 2; simp; omega), 0, rfl⟩
/-- The integer part's digits, gathered. -/
def rI (D : Nat → Nat) (nd : Nat) : Nat → Int
  | 0 => 0
  | i + 1 => if i < nd then IntKind.u64.wrap (IntKind.u64.wrap (rI D nd i * 10) + ((D i - 48 : Nat) : Int)) else IntKind.u64.wrap (rI D nd i * 10)
set_option maxRecDepth 100000 in
set_option maxHeartbeats 4000000 in
theorem int_ex (S : Sd) (ho : SdOk S) : ∃ r : Int, ∀ w b ng, DcS w b S ng →
    Calls Tryz.prog 152 #[.pointer (some ⟨b, 0, none⟩)] w fun e w' => e = .returned (.int .u64 r) ∧ ∃ q, w' = w.drewN q := by
  have hn8 := ho.le
  rcases Int.lt_or_le 20 S.dp with hn | hn
  · refine ⟨18446744073709551615, fun w b ng h => ?_⟩
    have c1 := h.p
    go_enter Tryz.func152, Tryz.ntmps152
    go_wp2_with fail
    go_ret
    exact ⟨rfl, 0, rfl⟩
  · obtain ⟨r, hr⟩ := up_ex S ho S.dp
    obtain ⟨m, hm⟩ : ∃ m : Nat, S.dp.toNat = m := ⟨_, rfl⟩
    obtain ⟨D, nd, dp, tr⟩ := S
    obtain ⟨pos, le, dg, top⟩ := ho
    dsimp only at *
    obtain ⟨R, hR⟩ : ∃ R : Int, (if r then IntKind.u64.wrap (rI D nd m + 1) else rI D nd m) = R := ⟨_, rfl⟩
    refine ⟨R, fun w b ng h => ?_⟩
    have c0 := h.n
    have c1 := h.p
    have fr := h.fr
    have Hr := hid hr
    have HR := hid hR
    have Hh := hid h
    have Hdg := hid dg
    have Hm := hid hm
    have hm20 : m ≤ 20 := by omega
    clear hr hR h dg hm
    have hdp : ¬ (20 : Int) < dp := by omega
    go_enter Tryz.func152, Tryz.ntmps152
    go_upto_block 0 with fail
    go_cut [3, 4] from 10 to 36 (fun iv nv wx => iv = .int .i64 ((min m nd : Nat) : Int) ∧ nv = .int .u64 (rI D nd (min m nd)) ∧ wx = w)
    case first =>
      go_wp2_with fail
      go_loopg [3, 4] (min m nd) (fun g iv nv wr => ∃ i : Nat, g + i = min m nd ∧ iv = .int .i64 (i : Nat) ∧ nv = .int .u64 (rI D nd i) ∧ wr = w)
      case atStart => exact ⟨0, by omega, rfl, rfl, rfl⟩
      case round =>
        obtain ⟨i, hgi, rfl, rfl, rfl⟩ := hrel
        rcases gk with _ | g
        · obtain rfl : i = min m nd := by omega
          obtain ⟨i, hi⟩ : ∃ i, min m nd = i := ⟨_, rfl⟩
          rw [hi]
          by_cases hmn : m ≤ nd
          · have hi1 : ¬ (i : Int) < dp := by have := Hm.out; omega
            go_wp2_with fail
            go_meet
            exact ⟨by rw [hi], by rw [hi], rfl⟩
          · have hi1 : (i : Int) < dp := by have := Hm.out; omega
            have hi2 : ¬ (i : Int) < nd := by omega
            go_wp2_with fail
            go_meet
            exact ⟨by rw [hi], by rw [hi], rfl⟩
        · have hi1 : (i : Int) < dp := by have := Hm.out; omega
          have hi2 : (i : Int) < nd := by omega
          have hi3 : i < nd := by omega
          have c2 := Hh.out.arr i (by omega)
          have hg := Hdg.out i hi3
          have e1 : ((D i : Int) - 48) % 256 = ((D i - 48 : Nat) : Int) := by omega
          have hs : rI D nd (i + 1) = IntKind.u64.wrap (IntKind.u64.wrap (rI D nd i * 10) + ((D i - 48 : Nat) : Int)) := by rw [rI, if_pos hi3]
          have Hs := hid hs
          clear hs
          go_wp2_with fail
          go_roundg g
          case measure => omega
          case rel => exact ⟨i + 1, by omega, congrArg (Value.int .i64) (by omega), by rw [Hs.out, show ((D i - 48 : Nat) : Int) = (D i : Int) - 48 by omega], rfl⟩
    case rest =>
    obtain ⟨rfl, rfl, rfl⟩ := hcut
    go_wp2_with fail
    go_loopg [3, 4] (m - min m nd) (fun g iv nv wr => ∃ i : Nat, g + i = m ∧ min m nd ≤ i ∧ iv = .int .i64 (i : Nat) ∧ nv = .int .u64 (rI D nd i) ∧ wr = wc)
    case atStart => exact ⟨min m nd, by omega, Nat.le_refl _, rfl, rfl, rfl⟩
    case round =>
      obtain ⟨i, hgi, hge, rfl, rfl, rfl⟩ := hrel
      rcases gk with _ | g
      · obtain rfl : i = m := by omega
        have hi1 : ¬ (i : Int) < dp := by have := Hm.out; omega
        have cal := Hr.out _ b ng Hh.out
        go_wp2_with fail
        refine cal.mono ?_
        rintro e w' ⟨rfl, q, rfl⟩
        cases r
        · have hR : rI D nd i = R := HR.out
          have HR2 := hid hR
          clear hR
          go_wp2_with fail
          go_ret
          exact ⟨congrArg (fun x => Ending.returned (Value.int .u64 x)) HR2.out, q, rfl⟩
        · have hR : IntKind.u64.wrap (rI D nd i + 1) = R := HR.out
          have HR2 := hid hR
          clear hR
          go_wp2_with fail
          go_ret
          exact ⟨congrArg (fun x => Ending.returned (Value.int .u64 x)) HR2.out, q, rfl⟩
      · have hi1 : (i : Int) < dp := by have := Hm.out; omega
        have hi3 : ¬ i < nd := by omega
        have hs : rI D nd (i + 1) = IntKind.u64.wrap (rI D nd i * 10) := by rw [rI, if_neg hi3]
        have Hs := hid hs
        clear hs
        go_wp2_with fail
        go_roundg g
        case measure => omega
        case rel => exact ⟨i + 1, by omega, by omega, congrArg (Value.int .i64) (by omega), by rw [Hs.out], rfl⟩
end Go.Proofs.YtajpeeccomgnnaaGreatDoor
