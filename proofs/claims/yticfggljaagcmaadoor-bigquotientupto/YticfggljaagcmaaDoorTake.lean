/-
  big.take, big.natSub, walked: what is left when one magnitude is taken away from another.
-/
import Derived.Test.YticfggljaagcmaaDoorNatAdd
import Derived.Test.YticfggljaagcmaaDoorBits
import Derived.Test.YticfggljaagcmaaDoorNatCmp
namespace Go.Proofs.YticfggljaagcmaaDoor
set_option linter.all false
open Go.RowKit

theorem Us.set {w : World} {b off n c : Nat} {h : Nat → Nat} (k : Us w (some ⟨b, off, none⟩) n c h) {j : Nat} (hj : j < c) {x : Nat} {v : Int} (hv : v = (x : Int)) (hx : x ≤ 4294967295) :
    Us (w.setCell ⟨b, off + j, none⟩ (.int .u32 v)) (some ⟨b, off, none⟩) n c (upd h j x) := by
  subst hv
  exact (k.cs.set hj x).us k.le k.mx (k.lm.upd hx)
theorem New.set {w : World} {base : Nat} {a : Option Addr} {c : Nat} (k : New w base a c) (p : Addr) (x : Value) : New (w.setCell p x) base a c :=
  fun i hi => let ⟨b, off, e, h1, h2⟩ := k i hi; ⟨b, off, e, h1, by rw [World.frozen?_setCell]; exact h2⟩
theorem Us.at {w : World} {b off n c : Nat} {h : Nat → Nat} (k : Us w (some ⟨b, off, none⟩) n c h) {j : Nat} (hj : j < c) : w.cell? ⟨b, off + j, none⟩ = some (.int .u32 (h j : Nat)) := k.cs j hj
theorem New.at {w : World} {base b off c : Nat} (k : New w base (some ⟨b, off, none⟩) c) {j : Nat} (hj : j < c) : base ≤ b ∧ w.frozen? ⟨b, off + j, none⟩ = false := by
  obtain ⟨b', off', e, h1, h2⟩ := k j hj
  simp only [Option.some.injEq, Addr.mk.injEq, and_true] at e
  obtain ⟨rfl, rfl⟩ := e
  exact ⟨h1, h2⟩
theorem sub_step {v t s cc d p q b' k : Nat} (h : v + t = s + cc * pw k) (e : d + q + cc = p + 4294967296 * b') :
    v + d * pw k + (t + q * pw k) = s + p * pw k + b' * pw (k + 1) := by
  have e2 : (d + q + cc) * pw k = (p + 4294967296 * b') * pw k := by rw [e]
  rw [Nat.add_mul, Nat.add_mul, Nat.add_mul] at e2
  have e3 : b' * pw (k + 1) = 4294967296 * b' * pw k := by rw [pw_succ, Nat.mul_left_comm, Nat.mul_assoc]
  omega

set_option maxHeartbeats 1000000 in
theorem take_any (base : Nat) (a a' : Option Addr) (n c n' c' : Nat) (f g : Nat → Nat) (w : World) (hn : n ≤ 4398046511104) (hn' : n' ≤ 4398046511104) (hu : Us w a n c f) (hw : New w base a c) (hu' : ∀ wr, Below base w wr → Us wr a' n' c' g) :
    Calls Tryd.prog 79 #[.slice a n c, .slice a' n' c'] w fun e w' => ∃ h t, e = .returned (.tuple #[]) ∧ Us w' a n c h ∧ New w' base a c ∧ Below base w w' ∧ Hid (val h n + val (ex g n') n = val f n + t * pw n) ∧ t ≤ 1 ∧ w'.heap.size = w.heap.size := by
  have hle := hu.le
  have lg := (hu' w (Below.refl _ _)).lm
  have hle' := (hu' w (Below.refl _ _)).le
  go_enter Tryd.func79, Tryd.ntmps79
  go_wp2
  go_loopw [4, 9] (fun cv iv wr => ∃ (k cc : Nat) (h : Nat → Nat), k ≤ n ∧ cc ≤ 1 ∧ iv = .int .i64 k ∧ cv = .int .u32 cc ∧ Us wr a n c h ∧ New wr base a c ∧ (∀ j, k ≤ j → h j = f j) ∧ Hid (val h k + val (ex g n') k = val f k + cc * pw k) ∧ Below base w wr ∧ wr.heap.size = w.heap.size) (fun _ iv _ => n - (intOf iv).toNat)
  case atStart => exact ⟨0, 0, f, Nat.zero_le _, Nat.zero_le _, rfl, rfl, hu, hw, fun _ _ => rfl, rfl, Below.refl _ _, rfl⟩
  case round =>
    clear hu hw
    obtain ⟨k, cc, hh, hk, hcc, rfl, rfl, hU, hN, hE, hV, hB, hS⟩ := hrel
    by_cases hlt : k < n
    · have hek := hE k (Nat.le_refl _)
      obtain ⟨b, off, rfl, hcl⟩ := hU.cell k (by omega)
      obtain ⟨hbb, hfr⟩ := hN.at (j := k) (by omega)
      rw [hek] at hcl
      have lk := hU.lm k (by omega)
      rw [hek] at lk
      have HE := hid hE
      have HS := hid hS
      clear hek hE hS
      by_cases hs : k < n'
      · obtain ⟨bs, os, rfl, hcs⟩ := (hu' wr hB).cell k (by omega)
        have lk2 := lg k (by omega)
        have HU' := hid hu'
        clear hu'
        go_wp2_with (go_at_call 82; refine (sub32_any _ _ _ _ (by omega) (by omega) (by omega)).mono ?_; rintro e w' ⟨rfl, rfl⟩)
        go_roundw
        case rel =>
          go_light
          refine ⟨k + 1, bor (f k) (g k) cc, upd hh k (dif (f k) (g k) cc), by omega, bor_le _ _ _, by go_num, rfl, hU.set (by omega) rfl (dif_le _ _ _), hN.set _ _, fun j hj => by rw [upd_other _ _ _ _ (by omega)]; exact HE.out j (by omega), ?_, hB.setCell hbb _, by simpa using HS.out⟩
          have := sub_step hV.out (dif_eq lk lk2 hcc)
          show val _ _ + val _ _ = _
          rw [val_upd_at, val_succ, val_succ, ex_lt hs, this]
        case measure => simp [intOf]; omega
      · have HU' := hid hu'
        clear hu'
        go_wp2_with (go_at_call 82; refine (sub32_any _ 0 _ _ (by omega) (by omega) (by omega)).mono ?_; rintro e w' ⟨rfl, rfl⟩)
        go_roundw
        case rel =>
          go_light
          refine ⟨k + 1, bor (f k) 0 cc, upd hh k (dif (f k) 0 cc), by omega, bor_le _ _ _, by go_num, rfl, hU.set (by omega) rfl (dif_le _ _ _), hN.set _ _, fun j hj => by rw [upd_other _ _ _ _ (by omega)]; exact HE.out j (by omega), ?_, hB.setCell hbb _, by simpa using HS.out⟩
          have := sub_step hV.out (dif_eq (y := 0) lk (by omega) hcc)
          show val _ _ + val _ _ = _
          rw [val_upd_at, val_succ, val_succ, ex_ge hs, this]
        case measure => simp [intOf]; omega
    · have hkN : k = n := by omega
      subst hkN
      go_wp2
      go_end0
      exact ⟨hh, cc, rfl, hU, hN, hB, hV, hcc, hS⟩

theorem Us.drewN {w : World} {a : Option Addr} {n c : Nat} {h : Nat → Nat} (k : Us w a n c h) (q : Nat) : Us (w.drewN q) a n c h := ⟨k.le, k.mx, k.lm, k.cell⟩
theorem drewN_below (w : World) (q B : Nat) : Below B w (w.drewN q) := ⟨rfl, rfl, rfl, Nat.le_refl _, fun _ _ => rfl⟩
theorem cmpN_nn {x y : Nat} (h : y ≤ x) : ¬ cmpN x y < 0 := by unfold cmpN; split <;> (try split) <;> omega

set_option maxHeartbeats 1000000 in
theorem natSub_any (a a' : Option Addr) (n c n' c' : Nat) (f g : Nat → Nat) (w : World) (hn : n ≤ 1099511627776) (hn' : n' ≤ 1099511627776) (hu : Us w a n c f) (hu' : Us w a' n' c' g) (hge : val g n' ≤ val f n) :
    Calls Tryd.prog 57 #[.slice a n c, .slice a' n' c'] w fun e w' => ∃ r m d h, e = .returned (.tuple #[.slice r m d, .int .i64 0]) ∧ Us w' r m d h ∧ New w' w.heap.size r d ∧ Below w.heap.size w w' ∧ Nm h m ∧ val h m + val g n' = val f n ∧ m ≤ n := by
  have hc := cmpN_nn hge
  have b2 := nrm_le g n'
  have l2 := hu'.le
  have U2 := hu'.cut (Nat.le_refl (nrm g n')) (by omega)
  have V2 := hid (val_nrm g n')
  have HG := hid hge
  clear hge
  go_enter Tryd.func57, Tryd.ntmps57
  go_wp2_with (go_at_call 56; refine (natCmp_any _ _ _ _ _ _ _ _ _ (by omega) (by omega) hu hu').mono ?_; rintro e w' ⟨rfl, q, rfl⟩)
  have hu1 := hu.drewN q
  have hu1' := hu'.drewN q
  clear hc
  go_wp2_with (go_at_call 66; refine (own_any _ _ _ _ _ (by omega) hu1).mono ?_; rintro e w' ⟨ar, nr, cr, fr, rfl, h1, h2, h3, h4, h5, h6⟩)
  have hu3 := hu1'.below h3 (Nat.le_refl _)
  have h2' : New w' w.heap.size ar cr := h2
  have h3' : Below w.heap.size w w' := (drewN_below w q _).trans h3
  have H5 := hid h5
  clear h2 h3 h5
  go_wp2_with (go_at_call 64; refine (bare_any _ _ _ _ _ (by omega) hu3).mono ?_; rintro e w' ⟨rfl, rfl⟩)
  go_wp2_with (go_at_call 79; refine (take_any w.heap.size _ _ _ _ _ _ _ g _ (by omega) (by omega) h1 h2' (fun wr hb => U2.below (h3'.trans hb) (Nat.le_refl _))).mono ?_; rintro e w2 ⟨fh, t, rfl, k1, k2, k3, k4, k5, k6⟩)
  go_wp2_with (go_at_call 66; refine (own_any _ _ _ _ _ (by omega) k1).mono ?_; rintro e w' ⟨rr, rn, rc, rf, rfl, e1, e2, e3, e4, e5, e6⟩)
  have E5 := hid e5
  clear e5
  go_ret2
  have hsz := h3'.size
  refine ⟨_, _, _, _, rfl, e1, e2.mono (by omega), (h3'.trans k3).trans (e3.mono (by omega)), e4, ?_, by omega⟩
  have v1 := val_lt (h1.lm.mono h1.le)
  have v2 := val_lt (k1.lm.mono k1.le)
  have v3 := V2.out
  have v4 := HG.out
  have v5 := H5.out
  have few : nrm g n' ≤ nr := (nrm_nm g n').few (by omega)
  have v6 := ex_val (g := g) few
  have v7 := k4.out
  have v8 := E5.out
  have ht : t = 0 := by
    rcases (show t = 0 ∨ t = 1 by omega) with e | e
    · exact e
    · subst e; omega
  subst ht
  omega
end Go.Proofs.YticfggljaagcmaaDoor
