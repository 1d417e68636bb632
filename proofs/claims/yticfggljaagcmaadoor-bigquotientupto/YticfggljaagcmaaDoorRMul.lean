/-
  The reference's natMul, walked.
-/
import Derived.Test.YticfggljaagcmaaDoorRAdd
namespace Go.Proofs.YticfggljaagcmaaDoor
set_option linter.all false
open Go.RowKit

/-- A limb's place up. -/
theorem val_up {F h : Nat → Nat} {m : Nat} (h0 : F 0 = 0) (hs : ∀ i, i < m → F (i + 1) = h i) : val F (m + 1) = 4294967296 * val h m := by
  induction m with
  | zero => simp [val, h0]
  | succ m ih =>
    rw [val_succ, ih (fun i hi => hs i (by omega)), hs m (by omega), val_succ, pw_succ, Nat.mul_add, Nat.mul_left_comm]
theorem rmul_step {A x p V S T : Nat} (h : A * (4294967296 * p) + S * V = T) : (4294967296 * A + (V * x + 0)) * p + S * V = T + x * p * V := by
  have e1 : 4294967296 * A * p = A * (4294967296 * p) := by rw [Nat.mul_right_comm, Nat.mul_comm _ A, Nat.mul_comm 4294967296 p, Nat.mul_comm p]
  have e2 : V * x * p = x * p * V := by rw [Nat.mul_assoc, Nat.mul_comm]
  rw [Nat.add_mul, Nat.add_zero, e1, e2]
  omega

set_option maxHeartbeats 1000000 in
theorem rnatMul_any (a a' : Option Addr) (n c n' c' : Nat) (f g : Nat → Nat) (w : World) (hn : n ≤ 274877906944) (hn' : n' ≤ 274877906944) (hu : Us w a n c f) (hu' : Us w a' n' c' g) :
    Calls Tryd.prog 63 #[.slice a n c, .slice a' n' c'] w fun e w' => ResM w w' (val f n * val g n') (n' + 2 + 2 * n) e := by
  go_enter Tryd.func63, Tryd.ntmps63
  go_wp2_with (go_at_call 47; refine (rtrim_any _ _ _ _ _ (by omega) hu).mono ?_; rintro e w1 ⟨ax, nx, cx, fx, rfl, x1, x2, x3, x4, x5, x6⟩)
  have lx := x1.lm
  have xle := x1.le
  go_loopw [6, 7] (fun ov iv wr => ∃ (k m d : Nat) (r : Option Addr) (h : Nat → Nat), k ≤ nx ∧ iv = .int .i64 ((k : Int) - 1) ∧ ov = .slice r m d ∧ m + 2 * k ≤ n' + 2 + 2 * nx ∧ Us wr r m d h ∧ Hid (val h m * pw k + val fx k * val g n' = val fx nx * val g n') ∧ Below w1.heap.size w1 wr) (fun _ iv _ => (intOf iv + 1).toNat)
  case atStart => exact ⟨nx, 0, 0, none, f, Nat.le_refl _, rfl, rfl, by omega, Us.nil _ _, by show _ = _; simp [val], Below.refl _ _⟩
  case round =>
    obtain ⟨k, m, d, r, h, hk, rfl, rfl, hm, hU, hV, hB⟩ := hrel
    have hs := hB.size
    have mle := hU.le
    cases k with
    | succ k =>
      obtain ⟨bl, ol, rfl, hcl⟩ := (x1.below hB (Nat.le_refl _)).cell k (by omega)
      have lk := lx k (by omega)
      have ek : ((k + 1 : Nat) : Int) - 1 = k := by omega
      rw [ek]
      clear ek
      have hkn : k < nx := by omega
      rcases m with _ | m
      · go_wp2_with (at_make; refine wpList_make_arr _ rfl _ _ 22 rfl 58 (.int .u32 0) 4 Tryd.underlying22 Tryd.info58 rfl _ _ _ _ (0 + 1) rfl rfl (by omega) (by omega) (by omega) (by omega) ?_)
        intro w2 hc1 hf1 hb1 hs1
        have C1 : Cs w2 wr.heap.size 0 (0 + 1) (fun _ => 0) := fun i hi => by (obtain rfl : i = 0 := by omega); simpa using hc1
        have F1 : Fr w2 wr.heap.size 0 (0 + 1) := fun i _ => hf1 _
        clear hc1 hf1 hs1
        go_wp2_with ((with_reducible show wpList _ _ _ (Oper.mk (some 25) _ _ _ _ _ :: _) _ _); refine wpList_copy_row _ rfl _ _ 22 22 rfl 58 Tryd.underlying22 Tryd.info58 wr.heap.size _ _ _ _ _ (0 + 1) _ _ _ rfl rfl C1 F1 (hU.below hb1 (Nat.le_refl _)) (by omega) wr.heap.size (Nat.le_refl _) ?_)
        intro w3 C2 F2 b2 s2
        clear s2 C1 F1
        have b3 := hB.trans ((hb1.trans b2).mono hs)
        have U3 := C2.us (n := 0 + 1) (Nat.le_refl _) (by unfold maxLen; omega) (fun i hi => by
          simp only [] <;> omega)
        have v3 : Hid (val (fun _ => 0) (0 + 1) = 4294967296 * val h 0) := hid (val_up (h := h) (m := 0) rfl (fun i hi => by omega))
        have UB := hu'.below ((x3.trans (b3.mono x3.size)) : Below w.heap.size w w3) (Nat.le_refl _)
        have hc3 := (x1.below b3 (Nat.le_refl _)).cs k (by omega)
        clear C2 F2
        go_wp2_with (first | (go_at_call 70; refine (times_any a' n' c' (fx k) 0 g _ (by omega) (by omega) (by omega) UB).mono ?_; rintro e w4 ⟨at', nt, ct, ft, rfl, t1, t2, t3, t4, t5, t6⟩) | (go_at_call 61; refine (rnatAdd_any _ _ _ _ _ _ _ _ _ (by omega) (by omega) (U3.below t3 (Nat.le_refl _)) t1).mono ?_; rintro e w5 ⟨ao, no, co, fo, rfl, o1, o2, o3, o4, o5, o6⟩))
        go_roundw
        case rel =>
          go_light
          refine ⟨k, _, _, _, _, by omega, by congr 1, rfl, by omega, o1, ?_, b3.trans ((t3.trans (o3.mono t3.size)).mono b3.size)⟩
          show _ = _
          rw [o5.out, v3.out, t5.out]
          have hV' := hV.out
          rw [pw_succ, val_succ fx k, Nat.add_mul (val fx k)] at hV'
          rw [rmul_step (A := val h 0) (p := pw k) (V := val g n') (x := fx k) (S := val fx k) rfl]
          omega
        case measure => simp [intOf]
      · go_wp2_with (at_make; refine wpList_make_arr _ rfl _ _ 22 rfl 58 (.int .u32 0) 4 Tryd.underlying22 Tryd.info58 rfl _ _ _ _ ((m + 1) + 1) rfl rfl (by omega) (by omega) (by omega) (by omega) ?_)
        intro w2 hc1 hf1 hb1 hs1
        have C1 := Cs.made hc1
        have F1 : Fr w2 wr.heap.size 0 ((m + 1) + 1) := fun i _ => hf1 _
        clear hc1 hf1 hs1
        go_wp2_with ((with_reducible show wpList _ _ _ (Oper.mk (some 25) _ _ _ _ _ :: _) _ _); refine wpList_copy_row _ rfl _ _ 22 22 rfl 58 Tryd.underlying22 Tryd.info58 wr.heap.size _ _ _ _ _ ((m + 1) + 1) _ _ _ rfl rfl C1 F1 (hU.below hb1 (Nat.le_refl _)) (by omega) wr.heap.size (Nat.le_refl _) ?_)
        intro w3 C2 F2 b2 s2
        clear s2 C1 F1
        have b3 := hB.trans ((hb1.trans b2).mono hs)
        have U3 := C2.us (n := (m + 1) + 1) (Nat.le_refl _) (by unfold maxLen; omega) (fun i hi => by
          simp only []
          split
          · exact hU.lm _ (by omega)
          · omega)
        have v3 : Hid (val (fun i => if 1 ≤ i ∧ i < 1 + (m + 1) then h (i - 1) else 0) (m + 1 + 1) = 4294967296 * val h (m + 1)) := hid (val_up (h := h) (m := m + 1) (by simp) (fun i hi => by simp; omega))
        have UB := hu'.below ((x3.trans (b3.mono x3.size)) : Below w.heap.size w w3) (Nat.le_refl _)
        have hc3 := (x1.below b3 (Nat.le_refl _)).cs k (by omega)
        clear C2 F2
        go_wp2_with (first | (go_at_call 70; refine (times_any a' n' c' (fx k) 0 g _ (by omega) (by omega) (by omega) UB).mono ?_; rintro e w4 ⟨at', nt, ct, ft, rfl, t1, t2, t3, t4, t5, t6⟩) | (go_at_call 61; refine (rnatAdd_any _ _ _ _ _ _ _ _ _ (by omega) (by omega) (U3.below t3 (Nat.le_refl _)) t1).mono ?_; rintro e w5 ⟨ao, no, co, fo, rfl, o1, o2, o3, o4, o5, o6⟩))
        go_roundw
        case rel =>
          go_light
          refine ⟨k, _, _, _, _, by omega, by congr 1, rfl, by omega, o1, ?_, b3.trans ((t3.trans (o3.mono t3.size)).mono b3.size)⟩
          show _ = _
          rw [o5.out, v3.out, t5.out]
          have hV' := hV.out
          rw [pw_succ, val_succ fx k, Nat.add_mul (val fx k)] at hV'
          rw [rmul_step (A := val h (m + 1)) (p := pw k) (V := val g n') (x := fx k) (S := val fx k) rfl]
          omega
        case measure => simp [intOf]
    | zero =>
      go_wp2_with (go_at_call 47; refine (rtrim_any _ _ _ _ _ (by omega) hU).mono ?_; rintro e w' ⟨ar, nr, cr, fr, rfl, h1, h2, h3, h4, h5, h6⟩)
      go_ret
      have hV' := hV.out
      simp only [val, pw] at hV'
      have b3 := x3.trans (hB.mono x3.size)
      refine ⟨_, _, _, _, rfl, h1, h2.mono b3.size, b3.trans (h3.mono b3.size), h4, hid ?_, by omega⟩
      rw [h5.out]
      rw [← x5.out]; omega
end Go.Proofs.YticfggljaagcmaaDoor
