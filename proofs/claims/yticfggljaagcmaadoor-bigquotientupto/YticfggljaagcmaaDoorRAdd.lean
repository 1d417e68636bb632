/-
  The reference's natAdd and natSub, walked.
-/
import Derived.Test.YticfggljaagcmaaDoorRCmp
import Derived.Test.YticfggljaagcmaaDoorRTimes
namespace Go.Proofs.YticfggljaagcmaaDoor
set_option linter.all false
open Go.RowKit

set_option maxHeartbeats 1000000 in
theorem rnatAdd_any (a a' : Option Addr) (n c n' c' : Nat) (f g : Nat → Nat) (w : World) (hn : n ≤ 2199023255552) (hn' : n' ≤ 2199023255552) (hu : Us w a n c f) (hu' : Us w a' n' c' g) :
    Calls Tryd.prog 61 #[.slice a n c, .slice a' n' c'] w fun e w' => ResM w w' (val f n + val g n') (max n n' + 1) e := by
  have e1 := hid (ex_val (g := f) (show n ≤ max n n' by omega))
  have e2 := hid (ex_val (g := g) (show n' ≤ max n n' by omega))
  have lF : ∀ m, Lm (ex f n) m := fun m => ex_lm (hu.lm.mono hu.le)
  have lG : ∀ m, Lm (ex g n') m := fun m => ex_lm (hu'.lm.mono hu'.le)
  generalize hM : max n n' = M at e1 e2 ⊢
  go_enter Tryd.func61, Tryd.ntmps61
  go_wp2
  go_loopw [5, 6, 7] (fun ov cv iv wr => ∃ (k cc d : Nat) (r : Option Addr) (h : Nat → Nat), k ≤ M ∧ cc ≤ 1 ∧ iv = .int .i64 k ∧ cv = .int .u64 cc ∧ ov = .slice r k d ∧ Us wr r k d h ∧ New wr w.heap.size r d ∧ Hid (val h k + cc * pw k = val (ex f n) k + val (ex g n') k) ∧ Below w.heap.size w wr) (fun _ _ iv _ => M - (intOf iv).toNat)
  case atStart => exact ⟨0, 0, 0, none, f, Nat.zero_le _, Nat.zero_le _, rfl, rfl, rfl, Us.nil _ _, New.nil _ _ _, by show _ = _; simp [val, pw], Below.refl _ _⟩
  case round =>
    obtain ⟨k, cc, d, r, h, hk, hcc, rfl, rfl, rfl, hU, hN, hV, hB⟩ := hrel
    have hs := hB.size
    by_cases h0 : k < M
    · have HU := hu.below hB (Nat.le_refl _)
      have HU' := hu'.below hB (Nat.le_refl _)
      have lx := lF (k + 1) k (by omega)
      have ly := lG (k + 1) k (by omega)
      have hvf := hid (val_succ (ex f n) k)
      have hvg := hid (val_succ (ex g n') k)
      generalize hx : ex f n k = x at lx hvf
      generalize hy : ex g n' k = y at ly hvg
      by_cases hkn : k < n
      all_goals
        go_wp2_with (first | (go_at_call 80; refine (at_any _ _ _ _ _ _ (by omega) (by first | exact HU | exact HU')).mono ?_; rintro e w' ⟨rfl, hw⟩; obtain rfl := hw.symm; try rw [hx]; try rw [hy]) | (at_builtin; refine wpList_append_u32 _ rfl _ _ 22 22 rfl 58 Tryd.underlying22 Tryd.underlying22 Tryd.info58 w.heap.size (by simp; omega) _ _ _ _ 1 1 _ (fun _ => (x + y + cc) % 4294967296) rfl rfl (hU.alloc _) (hN.below hU (below_alloc _ _) (Nat.le_refl _)) (one_us wr (by first | omega | (simp; done) | (simp; omega)) (by omega)) (by omega) ?_; intro a' c' f' w1 k1 k2 k3 k4 k5; have k6 := hid (push_val k2 k3); clear k2 k3))
        go_roundw
        case rel =>
          go_light
          refine ⟨k + 1, (x + y + cc) / 4294967296, _, _, _, by omega, by omega, by congr 1, by simp, rfl, k1, k4, ?_, hB.trans (((below_alloc wr _).mono hs).trans k5)⟩
          show _ = _
          rw [k6.out, hvf.out, hvg.out]
          exact add_step hV.out (by omega)
        case measure => simp [intOf]; omega
    · obtain rfl : k = M := by omega
      have hn1 : ¬ k < n := by omega
      have hn2 : ¬ k < n' := by omega
      clear h0
      go_wp2_with (first | (at_builtin; refine wpList_append_u32 _ rfl _ _ 22 22 rfl 58 Tryd.underlying22 Tryd.underlying22 Tryd.info58 w.heap.size (by simp; omega) _ _ _ _ 1 1 _ (fun _ => cc) rfl rfl (hU.alloc _) (hN.below hU (below_alloc _ _) (Nat.le_refl _)) (one_us wr (by first | omega | (simp; done) | (simp; omega)) (by omega)) (by omega) ?_; intro a' c' f' w1 k1 k2 k3 k4 k5; have k6 := hid (push_val k2 k3); clear k2 k3) | (go_at_call 47; refine (rtrim_any _ _ _ _ _ (by omega) k1).mono ?_; rintro e w' ⟨ar, nr, cr, fr, rfl, h1, h2, h3, h4, h5, h6⟩))
      go_ret
      have b1 : Below w.heap.size w w1 := hB.trans (((below_alloc wr _).mono hs).trans k5)
      refine ⟨_, _, _, _, rfl, h1, h2.mono b1.size, b1.trans (h3.mono b1.size), h4, hid ?_, by omega⟩
      rw [h5.out, k6.out, hV.out, e1.out, e2.out]

theorem rsub_step {v l x l' p q k S T : Nat} (h : v + T = S + l * pw k) (e : x + q + l = p + l' * 4294967296) :
    v + x * pw k + (T + q * pw k) = S + p * pw k + l' * pw (k + 1) := by
  have e2 : (x + q + l) * pw k = (p + l' * 4294967296) * pw k := by rw [e]
  rw [Nat.add_mul, Nat.add_mul, Nat.add_mul] at e2
  have e3 : l' * pw (k + 1) = l' * 4294967296 * pw k := by rw [pw_succ, Nat.mul_assoc]
  omega

/-- What is small has noughts above. -/
theorem ex_val_lt {g : Nat → Nat} {m n : Nat} (h : val g m < pw n) : val (ex g m) n = val g m := by
  by_cases hm : m ≤ n
  · exact ex_val hm
  · obtain ⟨d, rfl⟩ : ∃ d, m = n + d := ⟨m - n, by omega⟩
    have key : ∀ d, val g (n + d) < pw n → val g (n + d) = val g n := by
      intro d
      induction d with
      | zero => intro _; rfl
      | succ d ih =>
        intro h
        rw [← Nat.add_assoc, val_succ] at h ⊢
        have h0 : g (n + d) = 0 := by
          rcases Nat.eq_zero_or_pos (g (n + d)) with q | q
          · exact q
          · have h1 := pw_mono (show n ≤ n + d by omega)
            have h2 : 1 * pw (n + d) ≤ g (n + d) * pw (n + d) := Nat.mul_le_mul_right _ q
            omega
        rw [h0, Nat.zero_mul, Nat.add_zero] at h ⊢
        exact ih h
    rw [key d h]
    exact val_congr fun i hi => ex_lt (by omega)

set_option maxHeartbeats 1000000 in
theorem rnatSub_any (a a' : Option Addr) (n c n' c' : Nat) (f g : Nat → Nat) (w : World) (hn : n ≤ 2199023255552) (hn' : n' ≤ 2199023255552) (hu : Us w a n c f) (hu' : Us w a' n' c' g) (hge : val g n' ≤ val f n) :
    Calls Tryd.prog 62 #[.slice a n c, .slice a' n' c'] w fun e w' => ResM w w' (val f n - val g n') n e := by
  have e1 := hid (ex_val (g := f) (show n ≤ n by omega))
  have e2 := hid (ex_val_lt (g := g) (m := n') (n := n) (Nat.lt_of_le_of_lt hge (val_lt (hu.lm.mono hu.le))))
  have lF : ∀ m, Lm (ex f n) m := fun m => ex_lm (hu.lm.mono hu.le)
  have lG : ∀ m, Lm (ex g n') m := fun m => ex_lm (hu'.lm.mono hu'.le)
  go_enter Tryd.func62, Tryd.ntmps62
  go_wp2
  go_loopw [5, 6, 7] (fun ov cv iv wr => ∃ (k cc d : Nat) (r : Option Addr) (h : Nat → Nat), k ≤ n ∧ cc ≤ 1 ∧ iv = .int .i64 k ∧ cv = .int .u64 cc ∧ ov = .slice r k d ∧ Us wr r k d h ∧ New wr w.heap.size r d ∧ Hid (val h k + val (ex g n') k = val (ex f n) k + cc * pw k) ∧ Below w.heap.size w wr) (fun _ _ iv _ => n - (intOf iv).toNat)
  case atStart => exact ⟨0, 0, 0, none, f, Nat.zero_le _, Nat.zero_le _, rfl, rfl, rfl, Us.nil _ _, New.nil _ _ _, by show _ = _; simp [val, pw], Below.refl _ _⟩
  case round =>
    obtain ⟨k, cc, d, r, h, hk, hcc, rfl, rfl, rfl, hU, hN, hV, hB⟩ := hrel
    have hs := hB.size
    by_cases h0 : k < n
    · have HU := hu.below hB (Nat.le_refl _)
      have HU' := hu'.below hB (Nat.le_refl _)
      have lx := lF (k + 1) k (by omega)
      have ly := lG (k + 1) k (by omega)
      have hvf := hid (val_succ (ex f n) k)
      have hvg := hid (val_succ (ex g n') k)
      generalize hx : ex f n k = x at lx hvf
      generalize hy : ex g n' k = y at ly hvg
      go_wp2_with (first | (go_at_call 80; refine (at_any _ _ _ _ _ _ (by omega) (by first | exact HU | exact HU')).mono ?_; rintro e w' ⟨rfl, hw⟩; obtain rfl := hw.symm; try rw [hx]; try rw [hy]) | (at_builtin; refine wpList_append_u32 _ rfl _ _ 22 22 rfl 58 Tryd.underlying22 Tryd.underlying22 Tryd.info58 w.heap.size (by simp; omega) _ _ _ _ 1 1 _ (fun _ => (x + 4294967296 - y - cc) % 4294967296) rfl rfl (hU.alloc _) (hN.below hU (below_alloc _ _) (Nat.le_refl _)) (one_us wr (by first | omega | (simp; done) | (simp; omega)) (by omega)) (by omega) ?_; intro a' c' f' w1 k1 k2 k3 k4 k5; have k6 := hid (push_val k2 k3); clear k2 k3))
      go_roundw
      case rel =>
        go_light
        refine ⟨k + 1, 1 - (x + 4294967296 - y - cc) / 4294967296, _, _, _, by omega, by omega, by congr 1, by congr 1; omega, rfl, k1, k4, ?_, hB.trans (((below_alloc wr _).mono hs).trans k5)⟩
        show _ = _
        rw [k6.out, hvf.out, hvg.out]
        exact rsub_step hV.out (by omega)
      case measure => simp [intOf]; omega
    · obtain rfl : k = n := by omega
      clear h0
      go_wp2_with (first | (go_at_call 47; refine (rtrim_any _ _ _ _ _ (by omega) hU).mono ?_; rintro e w' ⟨ar, nr, cr, fr, rfl, h1, h2, h3, h4, h5, h6⟩))
      go_ret
      have hlt := val_lt (hU.lm.mono hU.le)
      refine ⟨_, _, _, _, rfl, h1, h2.mono hs, hB.trans (h3.mono hs), h4, hid ?_, by omega⟩
      have hV' := hV.out
      rw [e1.out, e2.out] at hV'
      rw [h5.out]
      rcases (show cc = 0 ∨ cc = 1 by omega) with rfl | rfl <;> omega
end Go.Proofs.YticfggljaagcmaaDoor
