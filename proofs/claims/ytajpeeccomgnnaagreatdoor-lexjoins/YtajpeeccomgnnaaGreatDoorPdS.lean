/-
  The library's decimal: a slice of its digits; is a prefix less than a text.
-/
import Derived.Test.YtajpeeccomgnnaaGreatDoorPdM
namespace Go.Proofs.YtajpeeccomgnnaaGreatDoor
set_option linter.all false
open Go Go.RowKit

theorem len157 : Tryz.prog.arrayLen 157 = 800 := by kernel_rfl
theorem dslice (b nd : Nat) (hn : nd ≤ 800) (w : World) : (Instr.sliceAt 157 (.pointer (some ⟨b, 0, none⟩)) (some (.int .i64 0)) (some (.int .i64 (nd : Nat))) none).run Tryz.prog w = .ok (.slice (some ⟨b, 0, none⟩) nd 800) w := by
  have hl := len157
  have he : Tryz.prog.elem 157 = 5 := by kernel_rfl
  have ht : Tryz.prog.underlying 157 = some (.array (Tryz.prog.arrayLen 157) (Tryz.prog.elem 157)) := by rw [hl, he]; kernel_rfl
  rw [run_sliceAt_array_lh w 157 ⟨b, 0, none⟩ ht .i64 .i64 0 (nd : Int) (by omega) (by omega) (by rw [hl]; omega)]
  rw [he, hl]
  go_simp
theorem dr2 {w w1 : World} {n : Nat} (h : ∃ q, w1 = w.drewN q) : ∃ q, w1.drewN n = w.drewN q := by
  obtain ⟨q, rfl⟩ := h
  exact ⟨q + n, by first | exact World.drewN_drewN .. | simp⟩
set_option maxRecDepth 100000 in
set_option maxHeartbeats 4000000 in
theorem dless_any (b : Nat) (D : Nat → Nat) (nd : Nat) (dp : Int) (ng tr : Bool) (s : ByteArray) (w : World) (hn : nd ≤ 800) (hs : s.size < 2 ^ 62) (h : Dc w b D nd dp ng tr) :
    Calls Tryz.prog 163 #[.slice (some ⟨b, 0, none⟩) nd 800, .string s] w fun e w' => e = .returned (.bool (lessP D nd (bt s) s.size 0)) ∧ ∃ q, w' = w.drewN q := by
  obtain ⟨R, hR⟩ : ∃ R, lessP D nd (bt s) s.size 0 = R := ⟨_, rfl⟩
  rw [hR]
  have H0 := hid hR
  clear hR
  go_enter Tryz.func163, Tryz.ntmps163
  go_wp2_with fail
  go_loopg [5] s.size (fun k iv wr => ∃ i : Nat, iv = .int .i64 (i : Nat) ∧ k + i = s.size ∧ i ≤ nd ∧ Hid (lessP D nd (bt s) k i = R) ∧ ∃ q, wr = w.drewN q)
  case atStart => exact ⟨0, rfl, by omega, by omega, H0, 0, rfl⟩
  case round =>
    obtain ⟨i, rfl, hki, hin, HR, q, rfl⟩ := hrel
    have fr := h.fr
    have c0 := h.n
    rcases gk with _ | k
    · go_wp2_with fail
      go_ret
      exact ⟨congrArg (fun x => Ending.returned (Value.bool x)) (by have := HR.out; rw [lessP] at this; exact this), q, rfl⟩
    · have hR := HR.out
      rw [lessP] at hR
      by_cases hlt : nd ≤ i
      · have H2 := hid (if_pos (α := Bool) hlt ▸ hR)
        clear hR
        go_wp2_with fail
        go_ret
        exact ⟨congrArg (fun x => Ending.returned (Value.bool x)) H2.out, q, rfl⟩
      · rw [if_neg hlt] at hR
        have c2 := h.arr i (by omega)
        have hix : ∀ w, (Instr.index 9 (.string s) (.int .i64 (i : Int))).run Tryz.prog w = .ok (.int .u8 (bt s i : Nat)) w := fun w => run_bt Tryz.underlying9 (by omega) rfl
        have hi1 : (i : Int) < nd := by omega
        have hi2 : (0 : Int) ≤ (i : Int) := by omega
        by_cases he : D i = bt s i
        · have e1 : ((D i : Int) == (bt s i : Int)) = true := by simp [he]
          rw [if_neg (by simp [he])] at hR
          have H2 := hid hR
          clear hR
          go_wp2_with fail
          go_quiet (fail)
          go_wp2_with fail
          go_roundg k
          case measure => omega
          case rel => exact ⟨i + 1, by first | rfl | skip, by omega, by omega, H2, _, rfl⟩
        · have e1 : ((D i : Int) == (bt s i : Int)) = false := by simp; omega
          rw [if_pos he] at hR
          have H2 := hid hR
          clear hR
          go_wp2_with fail
          go_quiet (fail)
          go_wp2_with fail
          go_quiet (fail)
          go_wp2_with fail
          go_ret
          exact ⟨congrArg (fun x => Ending.returned (Value.bool x)) (by have := H2.out; rw [← this]; try simp), dr2 (dr2 ⟨_, rfl⟩)⟩
end Go.Proofs.YtajpeeccomgnnaaGreatDoor
