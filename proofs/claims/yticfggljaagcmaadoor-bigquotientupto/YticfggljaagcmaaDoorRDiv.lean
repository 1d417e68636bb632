/-
  The reference's natDiv, walked: bit by bit.
-/
import Derived.Test.YticfggljaagcmaaDoorRMul
import Derived.Deep.RegionWith
namespace Go.Proofs.YticfggljaagcmaaDoor
set_option linter.all false
open Go.RowKit
theorem us_drew {w : World} {a : Option Addr} {n c : Nat} {h : Nat → Nat} (k : Us w a n c h) : Us w.drew a n c h := ⟨k.le, k.mx, k.lm, k.cell⟩
theorem us_apart {w : World} {a : Option Addr} {n c base : Nat} {h : Nat → Nat} (k : Us w a n c h) (u : New w base a c) {p : Addr} (hp : p.block < base) (x : Value) : Us (w.setCell p x) a n c h :=
  ⟨k.le, k.mx, k.lm, fun i hi => by
    obtain ⟨b, off, e, h1, _⟩ := u i hi
    subst e
    exact ⟨b, off, rfl, by rw [World.cell?_setCell_other _ _ _ _ (by intro h; subst h; simp at hp; omega)]; exact k.cs i hi⟩⟩
def Stopped (p : Prop) : Prop := p
theorem stopped {p : Prop} (h : Stopped p) : p := h

theorem rdiv_step {q q' Y D P R p v F : Nat} (h : q * Y + ((Y + D) * P + R) * p + v = F) (hu : q' = q + P * p) : q' * Y + (D * P + R) * p + v = F := by
  subst hu
  have e1 : (Y + D) * P * p = P * p * Y + D * P * p := by rw [Nat.add_mul, Nat.add_mul, Nat.mul_comm Y P, Nat.mul_right_comm P Y p]
  rw [Nat.add_mul ((Y + D) * P), e1] at h
  rw [Nat.add_mul q, Nat.add_mul (D * P)]
  omega
theorem rbit_step {V m bit s : Nat} (h : V = m * 2 + bit) (r : Nat) : V * 2 ^ s + r = m * 2 ^ (s + 1) + (bit * 2 ^ s + r) := by
  rw [h, Nat.add_mul, Nat.pow_succ, Nat.mul_assoc, Nat.mul_comm 2, Nat.add_assoc]

set_option maxHeartbeats 2000000 in
theorem rnatDiv_any (a a' : Option Addr) (n c n' c' : Nat) (f g : Nat → Nat) (w : World) (hn : n ≤ 274877906944) (hn' : n' ≤ 274877906944) (hu : Us w a n c f) (hu' : Us w a' n' c' g) (hY : 0 < val g n') :
    Calls Tryd.prog 46 #[.slice a n c, .slice a' n' c'] w fun e w' => ∃ r m d h r2 m2 d2 h2, e = .returned (.tuple #[.slice r m d, .slice r2 m2 d2]) ∧ Us w' r m d h ∧ New w' w.heap.size r d ∧ Us w' r2 m2 d2 h2 ∧ New w' w.heap.size r2 d2 ∧ Below w.heap.size w w' ∧ Nm h m ∧ Nm h2 m2 ∧ Hid (val f n = val h m * val g n' + val h2 m2) ∧ val h2 m2 < val g n' ∧ m ≤ n ∧ m2 ≤ n' := by
  have lf := hu.lm
  have l1 := hu.le
  go_enter Tryd.func46, Tryd.ntmps46
  go_wp2_with (first | (go_at_call 47; refine (rtrim_any _ _ _ _ _ (by omega) hu').mono ?_; rintro e w1 ⟨ay, ny, cy, fy, rfl, x1, x2, x3, x4, x5, x6⟩) | (at_make; refine wpList_make_arr _ rfl _ _ 22 rfl 58 (.int .u32 0) 4 Tryd.underlying22 Tryd.info58 rfl _ _ _ _ n rfl rfl (by omega) (by omega) (by omega) (by omega) ?_))
  intro w2 hc1 hf1 hb1 hs1
  have C1 := Cs.made hc1
  have F1 : Fr w2 w1.heap.size 0 n := fun i _ => hf1 _
  have hs0 := Nat.le_of_eq hs1.symm
  clear hc1 hf1 hs1
  have hbb := x3.trans (hb1.mono x3.size)
  have Y0 : 0 < val fy ny := by rw [x5.out]; exact hY
  go_wp2
  go_loopw [8, 9, 10, 11] (fun rv iv kv cv wr => ∃ (k m d : Nat) (r : Option Addr) (h qf : Nat → Nat), k ≤ n ∧ iv = .int .i64 ((k : Int) - 1) ∧ rv = .slice r m d ∧ Us wr r m d h ∧ Nm h m ∧ Hid (val h m < val fy ny) ∧ Cs wr w1.heap.size 0 n qf ∧ Fr wr w1.heap.size 0 n ∧ Lm qf n ∧ (∀ j, j < k → qf j = 0) ∧ Hid (val qf n * val fy ny + val h m * pw k + val f k = val f n) ∧ Below w1.heap.size w1 wr ∧ w1.heap.size + 1 ≤ wr.heap.size) (fun _ iv _ _ _ => (intOf iv + 1).toNat)
  case atStart => exact ⟨n, 0, 0, none, f, _, Nat.le_refl _, rfl, rfl, Us.nil _ _, .inl rfl, hid Y0, C1, F1, fun _ _ => Nat.zero_le _, fun _ _ => rfl, by show _ = _; simp [val, val_zero], hb1, hs0⟩
  case round =>
    clear C1 F1 hb1 hs0
    obtain ⟨k, m, d, r, h, qf, hk, rfl, rfl, hU, hN, hR, hC, hF, hL, hZ, hV, hB, hS⟩ := hrel
    cases k with
    | succ k =>
      have ek : ((k + 1 : Nat) : Int) - 1 = k := by omega
      rw [ek]
      clear ek
      have hkn : k < n := by omega
      go_wp2
      go_loopw [8, 10, 11] (fun rv kv cv wr => ∃ (t m d : Nat) (r : Option Addr) (h qf : Nat → Nat), t ≤ 32 ∧ kv = .int .i64 ((t : Int) - 1) ∧ rv = .slice r m d ∧ Us wr r m d h ∧ Nm h m ∧ Hid (val h m < val fy ny) ∧ Cs wr w1.heap.size 0 n qf ∧ Fr wr w1.heap.size 0 n ∧ Lm qf n ∧ (∀ j, j < k → qf j = 0) ∧ Hid (qf k + 2 ^ t ≤ 4294967296) ∧ Hid (val qf n * val fy ny + (val h m * 2 ^ t + f k % 2 ^ t) * pw k + val f k = val f n) ∧ Below w1.heap.size w1 wr ∧ w1.heap.size + 1 ≤ wr.heap.size) (fun _ kv _ _ => (intOf kv + 1).toNat)
      case atStart =>
        refine ⟨32, m, d, r, h, qf, Nat.le_refl _, rfl, rfl, hU, hN, hR, hC, hF, hL, fun j hj => hZ j (by omega), hid (by rw [hZ k (by omega)]; decide), ?_, hB, hS⟩
        have hV' := hV.out
        rw [val_succ, pw_succ] at hV'
        show _ = _
        have lk := lf k (by omega)
        rw [Nat.mod_eq_of_lt (show f k < 2 ^ 32 by omega), Nat.add_mul, show val h m * 2 ^ 32 * pw k = val h m * (4294967296 * pw k) by rw [Nat.mul_assoc]]
        omega
      case round =>
        clear hU hN hR hC hF hL hZ hV hB hS
        obtain ⟨t, m, d, r, h, qf, ht, rfl, rfl, hU, hN, hR, hC, hF, hL, hZ, hT, hV, hB, hS⟩ := hrel
        cases t with
        | succ s =>
          have ek : ((s + 1 : Nat) : Int) - 1 = s := by omega
          rw [ek]
          clear ek
          have hs := hB.size
          obtain ⟨bl, ol, rfl, hcl⟩ := (hu.below (x3.trans (hB.mono x3.size)) (Nat.le_refl _)).cell k (by omega)
          have lk := lf k (by omega)
          have hb2 : ((f k : Int) / 2 ^ s).tmod 2 = ((f k / 2 ^ s % 2 : Nat) : Int) := by rw [Int.tmod_eq_emod_of_nonneg (Int.ediv_nonneg (by omega) (Int.le_of_lt (Int.pow_pos (by decide))))]; simp
          have hb3 : f k % 2 ^ (s + 1) = f k / 2 ^ s % 2 * 2 ^ s + f k % 2 ^ s := by rw [Nat.pow_succ, Nat.mod_mul, Nat.mul_comm]; omega
          have HB := hid hb2
          have HB3 := hid hb3
          clear hb2 hb3
          have hbt : f k / 2 ^ s % 2 ≤ 1 := by omega
          generalize hbit : f k / 2 ^ s % 2 = bit at HB HB3 hbt
          clear hbit
          have hfr := hF k (by omega)
          have hco := hC k (by omega)
          rw [Nat.zero_add] at hfr hco
          have lq := hL k (by omega)
          have hR' := hR.out
          have hmy : m ≤ ny := hN.few (Nat.lt_trans hR' (val_lt (x1.lm.mono x1.le)))
          rcases Nat.lt_trichotomy (val h m * 2 + bit) (val fy ny) with hc | hc | hc
          · clear hR'
            go_wp2_with (first | (go_at_call 70; rw [HB.out]; refine (times_any _ _ _ 2 bit _ _ (by omega) (by omega) (by omega) hU).mono ?_; rintro e w4 ⟨at', nt, ct, ft, rfl, t1, t2, t3, t4, t5, t6⟩; have hs4 := t3.size; have hco4 := (t3.cell (p := ⟨w1.heap.size, k, none⟩) (by simp; omega)).trans hco; have hfr4 := (t3.frozen (p := ⟨w1.heap.size, k, none⟩) (by simp; omega)).trans hfr) | (go_at_call 60; refine (rnatCmp_any _ _ _ _ _ _ _ _ _ (by omega) (by omega) t1 ((x1.below (hB.trans (t3.mono hs)) (Nat.le_refl _)))).mono ?_; rintro e w' ⟨rfl, hw⟩; obtain rfl := hw.symm; rw [t5.out, cmpN_lt hc]))
            go_roundw
            case rel =>
              go_light
              have hT' := hT.out
              rw [Nat.pow_succ] at hT'
              refine ⟨s, nt, ct, at', ft, qf, by omega, rfl, rfl, t1, t4, hid (by rw [t5.out]; exact hc), hC.below t3 (by omega), hF.below t3 (by omega), hL, hZ, hid (by omega), ?_, hB.trans (t3.mono hs), by omega⟩
              have hV' := hV.out
              rw [HB3.out, ← rbit_step t5.out] at hV'
              exact hV'
            case measure => simp [intOf]
          · clear hR'
            go_wp2_with (first | (go_at_call 70; rw [HB.out]; refine (times_any _ _ _ 2 bit _ _ (by omega) (by omega) (by omega) hU).mono ?_; rintro e w4 ⟨at', nt, ct, ft, rfl, t1, t2, t3, t4, t5, t6⟩; have hs4 := t3.size; have hco4 := (t3.cell (p := ⟨w1.heap.size, k, none⟩) (by simp; omega)).trans hco; have hfr4 := (t3.frozen (p := ⟨w1.heap.size, k, none⟩) (by simp; omega)).trans hfr) | (go_at_call 60; refine (rnatCmp_any _ _ _ _ _ _ _ _ _ (by omega) (by omega) t1 ((x1.below (hB.trans (t3.mono hs)) (Nat.le_refl _)))).mono ?_; rintro e w' ⟨rfl, hw⟩; obtain rfl := hw.symm; rw [t5.out, cmpN_eq hc]) | (go_at_call 62; refine (rnatSub_any _ _ _ _ _ _ _ _ _ (by omega) (by omega) t1 ((x1.below (hB.trans (t3.mono hs)) (Nat.le_refl _))) (by rw [t5.out]; omega)).mono ?_; rintro e w5 ⟨au, nu, cu, fu, rfl, u1, u2, u3, u4, u5, u6⟩; have hco5 := (u3.cell (p := ⟨w1.heap.size, k, none⟩) (by simp; omega)).trans hco4; have hfr5 := (u3.frozen (p := ⟨w1.heap.size, k, none⟩) (by simp; omega)).trans hfr4))
            go_region
            all_goals
              go_wp2
              go_roundw
              case rel =>
                go_light
                have hT' := hT.out
                have hR2 := hR.out
                have hV' := hV.out
                rw [Nat.pow_succ] at hT'
                have hp : 0 < 2 ^ s := Nat.two_pow_pos s
                have hB5 := hB.trans ((t3.trans (u3.mono hs4)).mono hs)
                have u5' := u5.out
                rw [t5.out] at u5'
                have C5 := (hC.below t3 (by omega)).below u3 (by omega)
                have k1 := C5.put (j := k) (by omega) (x := qf k + 2 ^ s) (v := ((qf k : Int) + 2 ^ s) % 4294967296) (by
                  have : ((qf k : Int) + 2 ^ s) = ((qf k + 2 ^ s : Nat) : Int) := by simp
                  rw [this]; omega)
                have F5 : Fr _ w1.heap.size 0 n := ((hF.below t3 (by omega)).below u3 (by omega)).set ⟨w1.heap.size, k, none⟩ (.int .u32 (((qf k : Int) + 2 ^ s) % 4294967296))
                refine ⟨s, nu, cu, au, fu, _, by omega, rfl, rfl, us_drew (us_apart u1 u2 (by simp; omega) _), u4, hid (by rw [u5']; omega), k1, F5, hL.upd (by omega), fun j hj => by rw [upd_other _ _ _ _ (by omega)]; exact hZ j hj, hid (by rw [upd_same]; omega), ?_, (hB5.setCell (Nat.le_refl _) _).drew, by have := u3.size; simp; omega⟩
                rw [HB3.out, ← rbit_step t5.out] at hV'
                have hvu := val_upd qf k (qf k + 2 ^ s) n (by omega)
                rw [Nat.add_mul] at hvu
                have e1 : val ft nt = val fy ny + val fu nu := by rw [u5.out]; have := t5.out; omega
                rw [e1] at hV'
                exact rdiv_step hV' (by omega)
              case measure => simp [intOf]
          · clear hR'
            go_wp2_with (first | (go_at_call 70; rw [HB.out]; refine (times_any _ _ _ 2 bit _ _ (by omega) (by omega) (by omega) hU).mono ?_; rintro e w4 ⟨at', nt, ct, ft, rfl, t1, t2, t3, t4, t5, t6⟩; have hs4 := t3.size; have hco4 := (t3.cell (p := ⟨w1.heap.size, k, none⟩) (by simp; omega)).trans hco; have hfr4 := (t3.frozen (p := ⟨w1.heap.size, k, none⟩) (by simp; omega)).trans hfr) | (go_at_call 60; refine (rnatCmp_any _ _ _ _ _ _ _ _ _ (by omega) (by omega) t1 ((x1.below (hB.trans (t3.mono hs)) (Nat.le_refl _)))).mono ?_; rintro e w' ⟨rfl, hw⟩; obtain rfl := hw.symm; rw [t5.out, cmpN_gt hc]) | (go_at_call 62; refine (rnatSub_any _ _ _ _ _ _ _ _ _ (by omega) (by omega) t1 ((x1.below (hB.trans (t3.mono hs)) (Nat.le_refl _))) (by rw [t5.out]; omega)).mono ?_; rintro e w5 ⟨au, nu, cu, fu, rfl, u1, u2, u3, u4, u5, u6⟩; have hco5 := (u3.cell (p := ⟨w1.heap.size, k, none⟩) (by simp; omega)).trans hco4; have hfr5 := (u3.frozen (p := ⟨w1.heap.size, k, none⟩) (by simp; omega)).trans hfr4))
            go_region
            all_goals
              go_wp2
              go_roundw
              case rel =>
                go_light
                have hT' := hT.out
                have hR2 := hR.out
                have hV' := hV.out
                rw [Nat.pow_succ] at hT'
                have hp : 0 < 2 ^ s := Nat.two_pow_pos s
                have hB5 := hB.trans ((t3.trans (u3.mono hs4)).mono hs)
                have u5' := u5.out
                rw [t5.out] at u5'
                have C5 := (hC.below t3 (by omega)).below u3 (by omega)
                have k1 := C5.put (j := k) (by omega) (x := qf k + 2 ^ s) (v := ((qf k : Int) + 2 ^ s) % 4294967296) (by
                  have : ((qf k : Int) + 2 ^ s) = ((qf k + 2 ^ s : Nat) : Int) := by simp
                  rw [this]; omega)
                have F5 : Fr _ w1.heap.size 0 n := ((hF.below t3 (by omega)).below u3 (by omega)).set ⟨w1.heap.size, k, none⟩ (.int .u32 (((qf k : Int) + 2 ^ s) % 4294967296))
                refine ⟨s, nu, cu, au, fu, _, by omega, rfl, rfl, us_drew (us_apart u1 u2 (by simp; omega) _), u4, hid (by rw [u5']; omega), k1, F5, hL.upd (by omega), fun j hj => by rw [upd_other _ _ _ _ (by omega)]; exact hZ j hj, hid (by rw [upd_same]; omega), ?_, (hB5.setCell (Nat.le_refl _) _).drew, by have := u3.size; simp; omega⟩
                rw [HB3.out, ← rbit_step t5.out] at hV'
                have hvu := val_upd qf k (qf k + 2 ^ s) n (by omega)
                rw [Nat.add_mul] at hvu
                have e1 : val ft nt = val fy ny + val fu nu := by rw [u5.out]; have := t5.out; omega
                rw [e1] at hV'
                exact rdiv_step hV' (by omega)
              case measure => simp [intOf]
        | zero =>
          go_wp2
          go_roundw
          case rel =>
            go_light
            refine ⟨k, m, d, r, h, qf, by omega, rfl, rfl, hU, hN, hR, hC, hF, hL, hZ, ?_, hB, hS⟩
            have hV' := hV.out
            rw [Nat.pow_zero, Nat.mul_one, Nat.mod_one, Nat.add_zero] at hV'
            exact hV'
          case measure => simp [intOf]
    | zero =>
      have HQ : Us wr (some ⟨w1.heap.size, 0, none⟩) n n qf := hC.us (Nat.le_refl _) (by unfold maxLen; omega) hL
      have hmy : m ≤ ny := hN.few (Nat.lt_trans hR.out (val_lt (x1.lm.mono x1.le)))
      go_wp2_with (first | (go_at_call_of 47 (Value.slice (some ⟨w1.heap.size, 0, none⟩) n n); refine (rtrim_any _ _ _ _ _ (by omega) HQ).mono ?_; rintro e w3 ⟨ar, nr, cr, fr, rfl, h1, h2, h3, h4, h5, h6⟩; have U3 := hU.below h3 (Nat.le_refl _)) | (go_at_call_of 47 (Value.slice r m d); refine (rtrim_any _ _ _ _ _ (by omega) U3).mono ?_; rintro e w4 ⟨ar2, nr2, cr2, fr2, rfl, j1, j2, j3, j4, j5, j6⟩))
      have b3 := x3.trans (hB.mono x3.size)
      have b4 := b3.trans (h3.mono b3.size)
      go_ret2
      refine ⟨_, _, _, _, _, _, _, _, rfl, h1.below j3 (Nat.le_refl _), (New.below h2 h1 j3 (Nat.le_refl _)).mono b3.size, j1, j2.mono b4.size, b4.trans (j3.mono b4.size), h4, j4, hid ?_, ?_, h6, by omega⟩
      · rw [h5.out, j5.out, ← x5.out]
        have hV' := hV.out
        simp only [val, pw] at hV'
        omega
      · rw [j5.out, ← x5.out]; exact hR.out
end Go.Proofs.YticfggljaagcmaaDoor
