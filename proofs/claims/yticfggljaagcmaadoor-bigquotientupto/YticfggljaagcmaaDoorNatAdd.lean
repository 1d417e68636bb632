/-
  big.natAdd, walked: the sum of two magnitudes.
-/
import Derived.Test.YticfggljaagcmaaDoorOwn
import Derived.Deep.Light
namespace Go.Proofs.YticfggljaagcmaaDoor
set_option linter.all false
open Go.RowKit

/-- A magnitude, noughts behind its end. -/
def ex (g : Nat → Nat) (m : Nat) : Nat → Nat := fun i => if i < m then g i else 0
theorem ex_lt {g : Nat → Nat} {m i : Nat} (h : i < m) : ex g m i = g i := by simp [ex, h]
theorem ex_ge {g : Nat → Nat} {m i : Nat} (h : ¬ i < m) : ex g m i = 0 := by simp [ex, h]
theorem ex_val {g : Nat → Nat} {m n : Nat} (h : m ≤ n) : val (ex g m) n = val g m := by
  induction n with
  | zero => have : m = 0 := by omega
            subst this; rfl
  | succ n ih =>
    by_cases e : m = n + 1
    · subst e; exact val_congr fun i hi => ex_lt hi
    · rw [val_succ, ih (by omega), ex_ge (by omega)]; omega
theorem add_step {v cc x c' p q k S T : Nat} (h : v + cc * pw k = S + T) (e : x + 4294967296 * c' = cc + p + q) :
    v + x * pw k + c' * pw (k + 1) = (S + p * pw k) + (T + q * pw k) := by
  have e2 : (x + 4294967296 * c') * pw k = (cc + p + q) * pw k := by rw [e]
  rw [Nat.add_mul, Nat.add_mul, Nat.add_mul] at e2
  have e3 : c' * pw (k + 1) = 4294967296 * c' * pw k := by rw [pw_succ, Nat.mul_left_comm, Nat.mul_assoc]
  omega
theorem Cs.made {w : World} {g n : Nat} (h : ∀ i, i < n → w.cell? ⟨g, i, none⟩ = some (.int .u32 0)) : Cs w g 0 n (fun _ => 0) := fun i hi => by
  rw [Nat.zero_add]; exact h i hi
theorem Cs.put {w : World} {g n : Nat} {h : Nat → Nat} (k : Cs w g 0 n h) {j : Nat} (hj : j < n) {x : Nat} {v : Int} (hv : v = (x : Int)) : Cs (w.setCell ⟨g, j, none⟩ (.int .u32 v)) g 0 n (upd h j x) := by
  subst hv
  have := k.set hj x
  rw [Nat.zero_add] at this
  exact this

set_option maxHeartbeats 1000000 in
theorem natAdd_lt (a a' : Option Addr) (n c n' c' : Nat) (f g : Nat → Nat) (w : World) (hn : n ≤ 1099511627776) (hn' : n' ≤ 1099511627776) (hu : Us w a n c f) (hu' : Us w a' n' c' g) (hlt : nrm f n < nrm g n') :
    Calls Tryd.prog 55 #[.slice a n c, .slice a' n' c'] w fun e w' => ∃ r m d h, e = .returned (.slice r m d) ∧ Us w' r m d h ∧ New w' w.heap.size r d ∧ Below w.heap.size w w' ∧ Nm h m ∧ val h m = val f n + val g n' ∧ m ≤ max n n' + 1 := by
  have b1 := nrm_le f n
  have b2 := nrm_le g n'
  have v1 := hid (val_nrm f n)
  have v2 := hid (val_nrm g n')
  have lf := hu.lm
  have lg := hu'.lm
  have l1 := hu.le
  have l2 := hu'.le
  go_enter Tryd.func55, Tryd.ntmps55
  go_wp2_with (first | (go_at_call 64; refine (bare_any _ _ _ _ _ (by omega) (by assumption)).mono ?_; rintro e w' ⟨rfl, rfl⟩) | (at_make; refine wpList_make_arr _ rfl _ _ 22 rfl 58 (.int .u32 0) 4 Tryd.underlying22 Tryd.info58 rfl _ _ _ _ (nrm g n' + 1) rfl rfl (by omega) (by omega) (by omega) (by omega) ?_))
  intro w1 hc1 hf1 hb1 hs1
  have C1 := Cs.made hc1
  have U1 := hu.cut (Nat.le_refl (nrm f n)) (by omega)
  have U2 := hu'.cut (Nat.le_refl (nrm g n')) (by omega)
  have F1 : Fr w1 w.heap.size 0 (nrm g n' + 1) := fun i _ => hf1 _
  have hs0 := Nat.le_of_eq hs1.symm
  clear hc1 hf1 hu hu' hs1
  go_wp2
  go_loopw [6, 26] (fun cv iv wr => ∃ (k cc : Nat) (h : Nat → Nat), k ≤ nrm g n' ∧ cc ≤ 1 ∧ iv = .int .i64 k ∧ cv = .int .u64 cc ∧ Cs wr w.heap.size 0 (nrm g n' + 1) h ∧ Fr wr w.heap.size 0 (nrm g n' + 1) ∧ Lm h (nrm g n' + 1) ∧ Hid (val h k + cc * pw k = val g k + val (ex f (nrm f n)) k) ∧ Below w.heap.size w wr ∧ w.heap.size + 1 ≤ wr.heap.size) (fun _ iv _ => nrm g n' - (intOf iv).toNat)
  case atStart => exact ⟨0, 0, _, Nat.zero_le _, Nat.zero_le _, rfl, rfl, C1, F1, fun _ _ => Nat.zero_le _, rfl, hb1, hs0⟩
  case round =>
    clear C1 F1 hb1 hs0
    obtain ⟨k, cc, hh, hk, hcc, rfl, rfl, hC, hF, hL, hV, hB, hS⟩ := hrel
    by_cases hlt : k < nrm g n'
    · obtain ⟨bl, ol, rfl, hcl⟩ := (U2.below hB (Nat.le_refl _)).cell k hlt
      have hfr := hF k (by omega)
      have hco := hC k (by omega)
      rw [Nat.zero_add] at hfr hco
      have lk := lg k (by omega)
      by_cases hs : k < nrm f n
      · obtain ⟨bs, os, rfl, hcs⟩ := (U1.below hB (Nat.le_refl _)).cell k hs
        have lk2 := lf k (by omega)
        go_wp2
        go_roundw
        case rel =>
          go_light
          refine ⟨k + 1, (cc + g k + f k) / 4294967296, upd hh k ((cc + g k + f k) % 4294967296), by omega, by omega, by go_num, by go_num, hC.put (by omega) (by omega), hF.set _ _, hL.upd (by omega), ?_, hB.setCell (by simp) _, by simpa using hS⟩
          have := add_step hV.out (show (cc + g k + f k) % 4294967296 + 4294967296 * ((cc + g k + f k) / 4294967296) = cc + g k + f k by omega)
          show val _ _ + _ = _
          rw [val_upd_at, this, val_succ, val_succ, ex_lt hs]
        case measure => simp [intOf]; omega
      · go_wp2
        go_roundw
        case rel =>
          go_light
          refine ⟨k + 1, (cc + g k) / 4294967296, upd hh k ((cc + g k) % 4294967296), by omega, by omega, by go_num, by go_num, hC.put (by omega) (by omega), hF.set _ _, hL.upd (by omega), ?_, hB.setCell (by simp) _, by simpa using hS⟩
          have := add_step (q := 0) hV.out (show (cc + g k) % 4294967296 + 4294967296 * ((cc + g k) / 4294967296) = cc + g k + 0 by omega)
          show val _ _ + _ = _
          rw [val_upd_at, this, val_succ, val_succ, ex_ge hs]
        case measure => simp [intOf]; omega
    · have hkN : k = nrm g n' := by omega
      have hfr := hF k (by omega)
      have hco := hC k (by omega)
      rw [Nat.zero_add] at hfr hco
      subst hkN
      have HU : Us (wr.setCell ⟨w.heap.size, nrm g n', none⟩ (.int .u32 cc)) (some ⟨w.heap.size, 0, none⟩) (nrm g n' + 1) (nrm g n' + 1) (upd hh (nrm g n') cc) :=
        (hC.put (by omega) rfl).us (Nat.le_refl _) (by unfold maxLen; omega) (hL.upd (by omega))
      go_wp2_with (go_at_call 66; refine (own_any _ _ _ _ _ (by omega) (by assumption)).mono ?_; rintro e w' ⟨ar, nr, cr, fr, rfl, h1, h2, h3, h4, h5, h6⟩)
      have H5 := hid h5
      clear h5
      go_ret
      refine ⟨_, _, _, _, rfl, h1, h2.mono (by simp; omega), (hB.setCell (by simp) _).trans (h3.mono (by simp; omega)), h4, ?_, by omega⟩
      have hV2 := hV.out
      have := ex_val (g := f) (m := nrm f n) (n := nrm g n') (by omega)
      rw [H5.out, val_succ, val_upd_ge _ _ _ _ (Nat.le_refl _), upd_same, hV2, this, v1.out, v2.out]
      all_goals omega

set_option maxHeartbeats 1000000 in
theorem natAdd_ge (a a' : Option Addr) (n c n' c' : Nat) (f g : Nat → Nat) (w : World) (hn : n ≤ 1099511627776) (hn' : n' ≤ 1099511627776) (hu : Us w a n c f) (hu' : Us w a' n' c' g) (hlt : ¬ nrm f n < nrm g n') :
    Calls Tryd.prog 55 #[.slice a n c, .slice a' n' c'] w fun e w' => ∃ r m d h, e = .returned (.slice r m d) ∧ Us w' r m d h ∧ New w' w.heap.size r d ∧ Below w.heap.size w w' ∧ Nm h m ∧ val h m = val f n + val g n' ∧ m ≤ max n n' + 1 := by
  have b1 := nrm_le f n
  have b2 := nrm_le g n'
  have v1 := hid (val_nrm f n)
  have v2 := hid (val_nrm g n')
  have lf := hu.lm
  have lg := hu'.lm
  have l1 := hu.le
  have l2 := hu'.le
  go_enter Tryd.func55, Tryd.ntmps55
  go_wp2_with (first | (go_at_call 64; refine (bare_any _ _ _ _ _ (by omega) (by assumption)).mono ?_; rintro e w' ⟨rfl, rfl⟩) | (at_make; refine wpList_make_arr _ rfl _ _ 22 rfl 58 (.int .u32 0) 4 Tryd.underlying22 Tryd.info58 rfl _ _ _ _ (nrm f n + 1) rfl rfl (by omega) (by omega) (by omega) (by omega) ?_))
  intro w1 hc1 hf1 hb1 hs1
  have C1 := Cs.made hc1
  have U1 := hu.cut (Nat.le_refl (nrm f n)) (by omega)
  have U2 := hu'.cut (Nat.le_refl (nrm g n')) (by omega)
  have F1 : Fr w1 w.heap.size 0 (nrm f n + 1) := fun i _ => hf1 _
  have hs0 := Nat.le_of_eq hs1.symm
  clear hc1 hf1 hu hu' hs1
  go_wp2
  go_loopw [6, 26] (fun cv iv wr => ∃ (k cc : Nat) (h : Nat → Nat), k ≤ nrm f n ∧ cc ≤ 1 ∧ iv = .int .i64 k ∧ cv = .int .u64 cc ∧ Cs wr w.heap.size 0 (nrm f n + 1) h ∧ Fr wr w.heap.size 0 (nrm f n + 1) ∧ Lm h (nrm f n + 1) ∧ Hid (val h k + cc * pw k = val f k + val (ex g (nrm g n')) k) ∧ Below w.heap.size w wr ∧ w.heap.size + 1 ≤ wr.heap.size) (fun _ iv _ => nrm f n - (intOf iv).toNat)
  case atStart => exact ⟨0, 0, _, Nat.zero_le _, Nat.zero_le _, rfl, rfl, C1, F1, fun _ _ => Nat.zero_le _, rfl, hb1, hs0⟩
  case round =>
    clear C1 F1 hb1 hs0
    obtain ⟨k, cc, hh, hk, hcc, rfl, rfl, hC, hF, hL, hV, hB, hS⟩ := hrel
    by_cases hlt : k < nrm f n
    · obtain ⟨bl, ol, rfl, hcl⟩ := (U1.below hB (Nat.le_refl _)).cell k hlt
      have hfr := hF k (by omega)
      have hco := hC k (by omega)
      rw [Nat.zero_add] at hfr hco
      have lk := lf k (by omega)
      by_cases hs : k < nrm g n'
      · obtain ⟨bs, os, rfl, hcs⟩ := (U2.below hB (Nat.le_refl _)).cell k hs
        have lk2 := lg k (by omega)
        go_wp2
        go_roundw
        case rel =>
          go_light
          refine ⟨k + 1, (cc + f k + g k) / 4294967296, upd hh k ((cc + f k + g k) % 4294967296), by omega, by omega, by go_num, by go_num, hC.put (by omega) (by omega), hF.set _ _, hL.upd (by omega), ?_, hB.setCell (by simp) _, by simpa using hS⟩
          have := add_step hV.out (show (cc + f k + g k) % 4294967296 + 4294967296 * ((cc + f k + g k) / 4294967296) = cc + f k + g k by omega)
          show val _ _ + _ = _
          rw [val_upd_at, this, val_succ, val_succ, ex_lt hs]
        case measure => simp [intOf]; omega
      · go_wp2
        go_roundw
        case rel =>
          go_light
          refine ⟨k + 1, (cc + f k) / 4294967296, upd hh k ((cc + f k) % 4294967296), by omega, by omega, by go_num, by go_num, hC.put (by omega) (by omega), hF.set _ _, hL.upd (by omega), ?_, hB.setCell (by simp) _, by simpa using hS⟩
          have := add_step (q := 0) hV.out (show (cc + f k) % 4294967296 + 4294967296 * ((cc + f k) / 4294967296) = cc + f k + 0 by omega)
          show val _ _ + _ = _
          rw [val_upd_at, this, val_succ, val_succ, ex_ge hs]
        case measure => simp [intOf]; omega
    · have hkN : k = nrm f n := by omega
      have hfr := hF k (by omega)
      have hco := hC k (by omega)
      rw [Nat.zero_add] at hfr hco
      subst hkN
      have HU : Us (wr.setCell ⟨w.heap.size, nrm f n, none⟩ (.int .u32 cc)) (some ⟨w.heap.size, 0, none⟩) (nrm f n + 1) (nrm f n + 1) (upd hh (nrm f n) cc) :=
        (hC.put (by omega) rfl).us (Nat.le_refl _) (by unfold maxLen; omega) (hL.upd (by omega))
      go_wp2_with (go_at_call 66; refine (own_any _ _ _ _ _ (by omega) (by assumption)).mono ?_; rintro e w' ⟨ar, nr, cr, fr, rfl, h1, h2, h3, h4, h5, h6⟩)
      have H5 := hid h5
      clear h5
      go_ret
      refine ⟨_, _, _, _, rfl, h1, h2.mono (by simp; omega), (hB.setCell (by simp) _).trans (h3.mono (by simp; omega)), h4, ?_, by omega⟩
      have hV2 := hV.out
      have := ex_val (g := g) (m := nrm g n') (n := nrm f n) (by omega)
      rw [H5.out, val_succ, val_upd_ge _ _ _ _ (Nat.le_refl _), upd_same, hV2, this, v1.out, v2.out]
      all_goals omega

theorem natAdd_any (a a' : Option Addr) (n c n' c' : Nat) (f g : Nat → Nat) (w : World) (hn : n ≤ 1099511627776) (hn' : n' ≤ 1099511627776) (hu : Us w a n c f) (hu' : Us w a' n' c' g) :
    Calls Tryd.prog 55 #[.slice a n c, .slice a' n' c'] w fun e w' => ∃ r m d h, e = .returned (.slice r m d) ∧ Us w' r m d h ∧ New w' w.heap.size r d ∧ Below w.heap.size w w' ∧ Nm h m ∧ val h m = val f n + val g n' ∧ m ≤ max n n' + 1 := by
  by_cases h : nrm f n < nrm g n'
  · exact natAdd_lt a a' n c n' c' f g w hn hn' hu hu' h
  · exact natAdd_ge a a' n c n' c' f g w hn hn' hu hu' h
end Go.Proofs.YticfggljaagcmaaDoor
