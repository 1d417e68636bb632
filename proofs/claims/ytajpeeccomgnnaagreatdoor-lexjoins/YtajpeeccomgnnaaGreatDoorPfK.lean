/-
  The library's fast reading of a real, walked: its answer depends on its arguments and on the tables alone.
-/
import Derived.Test.YtajpeeccomgnnaaGreatDoorPdG
import Derived.BigQuiet
namespace Go.Proofs.YtajpeeccomgnnaaGreatDoor
set_option linter.all false
set_option maxRecDepth 100000
set_option maxHeartbeats 2000000
open Go Go.RowKit

theorem frombits (x : Int) (w : World) : (callFunc 130 #[.int .u64 x]).run Tryz.prog w = .ok (.value (.float .f64 x.toNat)) w := by
  rw [run_callFunc_extern Tryz.func130 (by kernel_rfl) (by kernel_rfl) (by kernel_rfl) (e := Extern.MathFloatBits.float64frombits) (by kernel_rfl)]
  rfl
theorem and63 (S : Int) : ∃ k : Nat, k < 64 ∧ bits .and .i64 S 63 = (k : Int) := by
  have h : (BitVec.ofInt 64 S &&& BitVec.ofInt 64 63).toNat ≤ 63 := by
    rw [BitVec.toNat_and]
    exact Nat.le_trans Nat.and_le_right (by decide)
  refine ⟨_, Nat.lt_succ_of_le h, ?_⟩
  show IntKind.i64.wrap (((BitVec.ofInt 64 S &&& BitVec.ofInt 64 63).toNat : Nat) : Int) = _
  exact IntWalk.i64_in _ (by omega)
theorem b2u_any (b : Bool) (w : World) : Calls Tryz.prog 129 #[.bool b] w fun e w' => e = .returned (.int .u64 (if b then 1 else 0)) ∧ w' = w := by
  go_enter Tryz.func129, Tryz.ntmps129
  cases b
  · go_wp2_with fail
    go_ret
    exact ⟨rfl, rfl⟩
  · go_wp2_with fail
    go_ret
    exact ⟨rfl, rfl⟩
theorem l2p_any (e : Int) (he : -1000 ≤ e ∧ e ≤ 1000) (w : World) : Calls Tryz.prog 144 #[.int .i64 e] w fun x w' => x = .returned (.int .i64 (e * 108853 / 2 ^ 15)) ∧ w' = w := by
  go_enter Tryz.func144, Tryz.ntmps144
  go_wp2_with fail
  go_ret
  exact ⟨rfl, rfl⟩
theorem unmin_any (w : World) : Calls Tryz.prog 148 #[.int .u64 9007199254740992] w fun x w' => x = .returned (.int .u64 36028797018963966) ∧ w' = w := by
  go_enter Tryz.func148, Tryz.ntmps148
  go_wp2_with fail
  go_ret
  exact ⟨rfl, rfl⟩
theorem round_ex (x : Int) : ∃ r : Int, ∀ w, Calls Tryz.prog 150 #[.int .u64 x] w fun e w' => e = .returned (.int .u64 r) ∧ w' = w := by
  apply Exists.intro
  intro w
  go_enter Tryz.func150, Tryz.ntmps150
  go_wp2_with fail
  go_ret
  exact ⟨rfl, rfl⟩
theorem pack64_ex (x e : Int) (he : -1074 ≤ e ∧ e ≤ 100000) : ∃ r er, (er = .nilIface ∨ er = .iface 112 (.int .i64 1)) ∧ ∀ w, Calls Tryz.prog 153 #[.int .u64 x, .int .i64 e] w fun o w' => o = .returned (.tuple #[.float .f64 r, er]) ∧ w' = w := by
  by_cases h : bits BinOp.and IntKind.u64 x 4503599627370496 = 0
  · have h1 : (bits BinOp.and IntKind.u64 x 4503599627370496 == 0) = true := by rw [h]; rfl
    have H := hid h
    clear h
    refine ⟨x.toNat, .nilIface, .inl rfl, fun w => ?_⟩
    go_enter Tryz.func153, Tryz.ntmps153
    go_wp2_with (rw [frombits])
    go_ret2
    exact ⟨rfl, rfl⟩
  · have h1 : (bits BinOp.and IntKind.u64 x 4503599627370496 == 0) = false := by simpa using h
    have H := hid h
    clear h
    by_cases h2 : 972 ≤ e
    · refine ⟨(bits BinOp.or IntKind.u64 (bits BinOp.and IntKind.u64 x 9223372036854775808) 9218868437227405312).toNat, .iface 112 (.int .i64 1), .inr rfl, fun w => ?_⟩
      go_enter Tryz.func153, Tryz.ntmps153
      go_wp2_with (rw [frombits])
      go_ret2
      exact ⟨rfl, rfl⟩
    · obtain ⟨n, rfl⟩ : ∃ n : Nat, e = (n : Int) - 1075 := ⟨(e + 1075).toNat, by omega⟩
      have hn : 0 < n ∧ n < 2047 := by omega
      have e1 : (1075 : Int) + ((n : Int) - 1075) = (n : Int) := by omega
      have e2 : IntKind.u64.wrap (n : Int) = (n : Int) := IntWalk.u64_in _ (by omega)
      obtain ⟨N, hN⟩ : ∃ N : Nat, n * 4503599627370496 = N := ⟨_, rfl⟩
      have e3 : IntKind.u64.wrap ((n : Int) * 4503599627370496) = (N : Int) := by rw [IntWalk.u64_in _ (by omega)]; omega
      have h3 : ¬ (972 : Int) ≤ (n : Int) - 1075 := h2
      clear hN he h2
      refine ⟨(bits BinOp.or IntKind.u64 (bits BinOp.andNot IntKind.u64 x 4503599627370496) (N : Int)).toNat, .nilIface, .inl rfl, fun w => ?_⟩
      go_enter Tryz.func153, Tryz.ntmps153
      go_upto_if 12 with fail
      go_wp2_with (rw [frombits])
      go_ret2
      exact ⟨rfl, rfl⟩
/-- The powers of ten in memory. -/
structure Tp (ph pl : Nat → Nat) (w : World) : Prop where
  lh : ∀ k, ph k < 18446744073709551616
  ll : ∀ k, pl k < 18446744073709551616
  ch : ∀ k, k < 696 → w.cell? ⟨12, k * 2, none⟩ = some (.int .u64 (ph k : Nat))
  cl : ∀ k, k < 696 → w.cell? ⟨12, k * 2 + 1, none⟩ = some (.int .u64 (pl k : Nat))
theorem Tp.keep {ph pl : Nat → Nat} {B : Nat} {w w' : World} (h : Tp ph pl w) (k : Below B w w') (hB : 12 < B) : Tp ph pl w' := by
  obtain ⟨h1, h2, h3, h4⟩ := h
  refine ⟨h1, h2, fun i hi => ?_, fun i hi => ?_⟩
  · rw [k.cell (by simpa using hB)]; exact h3 i hi
  · rw [k.cell (by simpa using hB)]; exact h4 i hi
theorem prescale_any (ph pl : Nat → Nat) (b k : Nat) (e lp : Int) (w : World) (hk : k < 696) (he : -100000 ≤ e ∧ e ≤ 100000) (hl : -100000 ≤ lp ∧ lp ≤ 100000) (hp : Tp ph pl w) (hb : 12 < b)
    (c0 : ∃ v, w.cell? ⟨b, 0, none⟩ = some v) (c1 : ∃ v, w.cell? ⟨b, 1, none⟩ = some v) (c2 : ∃ v, w.cell? ⟨b, 2, none⟩ = some v) (fr : ∀ o, w.frozen? ⟨b, o, none⟩ = false) :
    Calls Tryz.prog 145 #[.pointer (some ⟨b, 0, none⟩), .int .i64 e, .int .i64 ((k : Int) - 348), .int .i64 lp] w fun x w' => x = .returned (.tuple #[]) ∧
      w' = ((w.setCell ⟨b, 0, none⟩ (.int .u64 (ph k : Nat))).setCell ⟨b, 1, none⟩ (.int .u64 (pl k : Nat))).setCell ⟨b, 2, none⟩ (.int .i64 (-(e + lp + 3))) := by
  obtain ⟨v0, c0⟩ := c0
  obtain ⟨v1, c1⟩ := c1
  obtain ⟨v2, c2⟩ := c2
  have ch := hp.ch k hk
  have cl := hp.cl k hk
  have hk1 : (k : Int) - 348 - -348 = (k : Int) := by omega
  have hk2 : (k : Int) < 696 := by omega
  have hb12 : ¬ b = 12 := by omega
  have hb13 : ¬ 12 = b := by omega
  go_enter Tryz.func145, Tryz.ntmps145
  go_wp2_with fail
  go_end0
  exact ⟨rfl, rfl⟩
/-- What a scaling gives. -/
theorem u64_rng (n : Int) : 0 ≤ IntKind.u64.wrap n ∧ IntKind.u64.wrap n < 18446744073709551616 := by rw [IntKind.wrap_u64]; omega
theorem uscale_ex (x hi lo : Nat) (S : Int) (hx : x < 18446744073709551616) (hh : hi < 18446744073709551616) (hl : lo < 18446744073709551616) : ∃ r : Int, ∀ w b, w.cell? ⟨b, 0, none⟩ = some (.int .u64 (hi : Nat)) → w.cell? ⟨b, 1, none⟩ = some (.int .u64 (lo : Nat)) → w.cell? ⟨b, 2, none⟩ = some (.int .i64 S) →
    Calls Tryz.prog 146 #[.int .u64 (x : Nat), .pointer (some ⟨b, 0, none⟩)] w fun e w' => e = .returned (.int .u64 r) ∧ ∃ q, w' = w.drewN q := by
  obtain ⟨s, hs, h63⟩ := and63 S
  obtain ⟨H, hH⟩ : ∃ H : Nat, x * hi / 18446744073709551616 = H := ⟨_, rfl⟩
  obtain ⟨m1, hm1⟩ : ∃ H : Nat, x * hi % 18446744073709551616 = H := ⟨_, rfl⟩
  obtain ⟨L, hL⟩ : ∃ H : Nat, x * lo / 18446744073709551616 = H := ⟨_, rfl⟩
  have M1 := fun w => Tryz.bits_Mul64 x hi hx hh w
  have M2 := fun w => Tryz.bits_Mul64 x lo hx hl w
  rw [hH, hm1] at M1
  rw [hL] at M2
  have HM1 := hid M1
  have HM2 := hid M2
  clear M1 M2 hH hL
  have hs1 : (0 : Int) ≤ (s : Int) := by omega
  have hs2 : (s : Int) < 64 := by omega
  have h1 : x * hi % 18446744073709551616 < 18446744073709551616 := Nat.mod_lt _ (by omega)
  rw [hm1] at h1
  clear hm1
  by_cases hc : IntKind.u64.wrap ((H : Int) / 2 ^ s * 2 ^ s) = (H : Int)
  · have hc1 : (IntKind.u64.wrap ((H : Int) / 2 ^ s * 2 ^ s) != (H : Int)) = false := by simpa using hc
    have HC := hid hc
    clear hc
    obtain ⟨m2, hm2⟩ : ∃ H : Nat, x * lo % 18446744073709551616 = H := ⟨_, rfl⟩
    rw [hm2] at HM2
    have h2 : m2 < 18446744073709551616 := by rw [← hm2]; exact Nat.mod_lt _ (by omega)
    clear hm2
    obtain ⟨bt1, hb1⟩ : ∃ t : Int, (if decide (m1 < L) = true then (1 : Int) else 0) = t := ⟨_, rfl⟩
    have B1 : ∀ w, Calls Tryz.prog 129 #[.bool (decide (m1 < L))] w fun e w' => e = .returned (.int .u64 bt1) ∧ w' = w := fun w => by
      have := b2u_any (decide (m1 < L)) w
      rwa [hb1] at this
    have HB1 := hid B1
    clear B1 hb1
    obtain ⟨bt2, hb2⟩ : ∃ t : Int, (if decide ((1 : Int) < IntKind.u64.wrap ((m1 : Int) - (L : Int))) = true then (1 : Int) else 0) = t := ⟨_, rfl⟩
    have B2 : ∀ w, Calls Tryz.prog 129 #[.bool (decide ((1 : Int) < IntKind.u64.wrap ((m1 : Int) - (L : Int))))] w fun e w' => e = .returned (.int .u64 bt2) ∧ w' = w := fun w => by
      have := b2u_any (decide ((1 : Int) < IntKind.u64.wrap ((m1 : Int) - (L : Int)))) w
      rwa [hb2] at this
    have HB2 := hid B2
    clear B2 hb2
    apply Exists.intro
    intro w b c0 c1 c2
    go_enter Tryz.func146, Tryz.ntmps146
    go_upto_region 5 with (go_at_call 155; refine (HM1.out _).mono ?_; rintro e w' ⟨rfl, rfl⟩)

    go_upto_region 6 with (go_at_call 155; refine (HM2.out _).mono ?_; rintro e w' ⟨rfl, rfl⟩)

    go_upto_region 7 with (go_at_call 129; refine (HB1.out _).mono ?_; rintro e w' ⟨rfl, rfl⟩)

    go_quiet ((refine (HB2.out _).mono ?_; rintro e w' ⟨rfl, rfl⟩; exact ⟨rfl, _, rfl⟩))
    go_wp2_with fail
    go_ret
    exact ⟨rfl, _, rfl⟩
  · have hc1 : (IntKind.u64.wrap ((H : Int) / 2 ^ s * 2 ^ s) != (H : Int)) = true := by simpa using hc
    have HC := hid hc
    clear hc
    apply Exists.intro
    intro w b c0 c1 c2
    go_enter Tryz.func146, Tryz.ntmps146
    go_wp2_with (go_at_call 155; refine (HM1.out _).mono ?_; rintro e w' ⟨rfl, rfl⟩)
    go_ret
    exact ⟨rfl, 0, rfl⟩
end Go.Proofs.YtajpeeccomgnnaaGreatDoor
/-! The library's fast reading of a real, put together. -/
namespace Go.Proofs.YtajpeeccomgnnaaGreatDoor
set_option linter.all false
open Go Go.RowKit
set_option maxRecDepth 100000
set_option maxHeartbeats 4000000

theorem parse64_ex (ph pl : Nat → Nat) (d k : Nat) (sg : Int) (hd : 0 < d ∧ d < 18446744073709551616) (hk : 3 ≤ k ∧ k ≤ 658) (hph : ∀ k, ph k < 18446744073709551616) (hpl : ∀ k, pl k < 18446744073709551616) : ∃ f er, (er = .nilIface ∨ er = .iface 112 (.int .i64 1)) ∧ ∀ w, 12 < w.heap.size → Tp ph pl w →
    Calls Tryz.prog 132 #[.int .u64 (d : Nat), .int .i64 ((k : Int) - 348), .int .u64 sg] w fun x w' => x = .returned (.tuple #[.float .f64 f, er]) ∧ Below w.heap.size w w' := by
  obtain ⟨B, hB⟩ : ∃ B : Nat, Lib.bitLen d = B := ⟨_, rfl⟩
  have hB1 : 1 ≤ B ∧ B ≤ 64 := by
    rw [← hB]
    exact ⟨(Lib.bitLenAux_bounds 64 d hd.2 (by omega)).1, Lib.bitLen_le d 64 (by omega) hd.2⟩
  have L64 := fun w => Tryz.bits_Len64 (d : Int) w (by omega) (by omega)
  rw [show ((d : Int)).toNat = d by omega, hB] at L64
  have HL := hid L64
  clear L64 hB
  obtain ⟨lp, hlp⟩ : ∃ lp : Int, ((k : Int) - 348) * 108853 / 2 ^ 15 = lp := ⟨_, rfl⟩
  have hlp1 : -1200 ≤ lp ∧ lp ≤ 1100 := by omega
  have LP := fun w => l2p_any ((k : Int) - 348) (by omega) w
  rw [hlp] at LP
  have HLP := hid LP
  clear LP hlp
  obtain ⟨E, hE⟩ : ∃ E : Int, min 1074 ((53 : Int) - B - lp) = E := ⟨_, rfl⟩
  have hE1 : -1200 ≤ E ∧ E ≤ 1074 := by omega
  have HE := hid hE
  have hE2 : -E ≤ 1200 := by omega
  have hE3 : -1074 ≤ -E := by omega
  obtain ⟨m, hm⟩ : ∃ m : Nat, B + m = 64 := ⟨64 - B, by omega⟩
  have hm1 : (64 : Int) - (B : Int) = (m : Int) := by omega
  have hm63 : m ≤ 63 := by omega
  obtain ⟨S, hS⟩ : ∃ S : Int, -(E - (m : Int) + lp + 3) = S := ⟨_, rfl⟩
  have HS := hid hS
  obtain ⟨X, hX⟩ : ∃ X : Nat, IntKind.u64.wrap ((d : Int) * 2 ^ m) = (X : Int) := ⟨(IntKind.u64.wrap ((d : Int) * 2 ^ m)).toNat, by have := u64_rng ((d : Int) * 2 ^ m); omega⟩
  have hX1 : X < 18446744073709551616 := by have := u64_rng ((d : Int) * 2 ^ m); omega
  have h64i : 64 ≤ S → 64 ≤ -(E - (m : Int) + lp + 3) := by omega
  have h64j : ¬ 64 ≤ S → ¬ 64 ≤ -(E - (m : Int) + lp + 3) := by omega
  clear hE hS
  by_cases h64 : 64 ≤ S
  · clear hX
    have h64k := h64i h64
    clear h64i h64j
    refine ⟨(bits BinOp.or IntKind.u64 sg 0).toNat, .nilIface, .inl rfl, fun w hw ht => ?_⟩
    have Ht := hid ht
    clear ht
    go_enter Tryz.func132, Tryz.ntmps132
    go_upto_region 5 with (first | (go_at_call 143; refine (HL.out _).mono ?_; rintro e w' ⟨rfl, rfl⟩) | (go_at_call 144; refine (HLP.out _).mono ?_; rintro e w' ⟨rfl, rfl⟩))
    rw [HE.out]
    generalize hw1 : w'.alloc (Obj.cells #[Value.int IntKind.u64 0, Value.int IntKind.u64 0, Value.int IntKind.i64 0] 181) = w1
    have hb : Below w'.heap.size w' w1 := by rw [← hw1]; exact (Below.refl _ _).alloc (Nat.le_refl _) _
    have k0 : w1.cell? ⟨w'.heap.size, 0, none⟩ = some (.int .u64 0) := by rw [← hw1]; simp
    have k1 : w1.cell? ⟨w'.heap.size, 1, none⟩ = some (.int .u64 0) := by rw [← hw1]; simp
    have k2 : w1.cell? ⟨w'.heap.size, 2, none⟩ = some (.int .i64 0) := by rw [← hw1]; simp
    have kf : ∀ o, w1.frozen? ⟨w'.heap.size, o, none⟩ = false := by intro o; rw [← hw1]; simp
    have P1 := prescale_any ph pl w'.heap.size k (E - m) lp w1 (by omega) (by omega) (by omega) (Ht.out.keep hb hw) hw ⟨_, k0⟩ ⟨_, k1⟩ ⟨_, k2⟩ kf
    have HP1 := hid P1
    have Hb := hid hb
    have Hw1 := hid hw1
    clear P1 hb hw1
    go_upto_region 6 with (go_at_call 145; refine HP1.out.mono ?_; rintro e w2 ⟨rfl, rfl⟩)
    go_wp2_with (rw [frombits])
    go_ret2
    exact ⟨rfl, ((Hb.out.setCell (p := ⟨w'.heap.size, 0, none⟩) (Nat.le_refl _) _).setCell (p := ⟨w'.heap.size, 1, none⟩) (Nat.le_refl _) _).setCell (p := ⟨w'.heap.size, 2, none⟩) (Nat.le_refl _) _⟩
  · obtain ⟨r, hr⟩ := uscale_ex X (ph k) (pl k) S hX1 (hph k) (hpl k)
    have Hr := hid hr
    clear hr
    have h64k := h64j h64
    clear h64i h64j
    by_cases hv : 36028797018963966 ≤ r
    ·
      obtain ⟨rr, hrr⟩ := round_ex (bits BinOp.or IntKind.u64 (r / 2) (bits BinOp.and IntKind.u64 r 1))
      obtain ⟨f, er, her, hf⟩ := pack64_ex (bits BinOp.or IntKind.u64 sg rr) (-(E - 1)) (by omega)
      have Hrr := hid hrr
      have Hf := hid hf
      clear hrr hf
      have B2 : ∀ w, Calls Tryz.prog 147 #[.bool (decide (36028797018963966 ≤ r))] w fun e w' => e = .returned (.int .i64 1) ∧ w' = w := fun w => by
        have := Tryz.internal_strconv_bool2_int (decide (36028797018963966 ≤ r)) w
        simpa [hv] using this
      have HB2 := hid B2
      clear B2
      have Hv := hid hv
      clear hv
      refine ⟨f, er, her, fun w hw ht => ?_⟩
      have Ht := hid ht
      clear ht
      go_enter Tryz.func132, Tryz.ntmps132
      go_upto_region 5 with (first | (go_at_call 143; refine (HL.out _).mono ?_; rintro e w' ⟨rfl, rfl⟩) | (go_at_call 144; refine (HLP.out _).mono ?_; rintro e w' ⟨rfl, rfl⟩))
      rw [HE.out]
      generalize hw1 : w'.alloc (Obj.cells #[Value.int IntKind.u64 0, Value.int IntKind.u64 0, Value.int IntKind.i64 0] 181) = w1
      have hb : Below w'.heap.size w' w1 := by rw [← hw1]; exact (Below.refl _ _).alloc (Nat.le_refl _) _
      have k0 : w1.cell? ⟨w'.heap.size, 0, none⟩ = some (.int .u64 0) := by rw [← hw1]; simp
      have k1 : w1.cell? ⟨w'.heap.size, 1, none⟩ = some (.int .u64 0) := by rw [← hw1]; simp
      have k2 : w1.cell? ⟨w'.heap.size, 2, none⟩ = some (.int .i64 0) := by rw [← hw1]; simp
      have kf : ∀ o, w1.frozen? ⟨w'.heap.size, o, none⟩ = false := by intro o; rw [← hw1]; simp
      have P1 := prescale_any ph pl w'.heap.size k (E - m) lp w1 (by omega) (by omega) (by omega) (Ht.out.keep hb hw) hw ⟨_, k0⟩ ⟨_, k1⟩ ⟨_, k2⟩ kf
      have HP1 := hid P1
      have Hb := hid hb
      have Hw1 := hid hw1
      clear P1 hb hw1
      go_upto_region 6 with (go_at_call 145; refine HP1.out.mono ?_; rintro e w2 ⟨rfl, rfl⟩)
      generalize hw3 : ((w1.setCell ⟨w'.heap.size, 0, none⟩ (.int .u64 (ph k : Nat))).setCell ⟨w'.heap.size, 1, none⟩ (.int .u64 (pl k : Nat))).setCell ⟨w'.heap.size, 2, none⟩ (.int .i64 (-(E - (m : Int) + lp + 3))) = w3
      have d0 : w3.cell? ⟨w'.heap.size, 0, none⟩ = some (.int .u64 (ph k : Nat)) := by rw [← hw3, World.cell?_setCell_other _ _ _ _ (off_ne (by omega)), World.cell?_setCell_other _ _ _ _ (off_ne (by omega))]; exact World.cell?_setCell_same _ _ _ k0
      have d1 : w3.cell? ⟨w'.heap.size, 1, none⟩ = some (.int .u64 (pl k : Nat)) := by
        rw [← hw3, World.cell?_setCell_other _ _ _ _ (off_ne (by omega))]
        refine World.cell?_setCell_same _ _ _ (?_ : _ = some (.int .u64 0))
        rw [World.cell?_setCell_other _ _ _ _ (off_ne (by omega))]; exact k1
      have d2 : w3.cell? ⟨w'.heap.size, 2, none⟩ = some (.int .i64 (-(E - (m : Int) + lp + 3))) := by
        rw [← hw3]
        refine World.cell?_setCell_same _ _ _ (?_ : _ = some (.int .i64 0))
        rw [World.cell?_setCell_other _ _ _ _ (off_ne (by omega)), World.cell?_setCell_other _ _ _ _ (off_ne (by omega))]; exact k2
      have hbl : Below w'.heap.size w' w3 := by rw [← hw3]; exact ((Hb.out.setCell (p := ⟨w'.heap.size, 0, none⟩) (Nat.le_refl _) _).setCell (p := ⟨w'.heap.size, 1, none⟩) (Nat.le_refl _) _).setCell (p := ⟨w'.heap.size, 2, none⟩) (Nat.le_refl _) _
      have HU := hid (Hr.out w3 w'.heap.size d0 d1 (by rw [d2]; exact congrArg (fun z => some (Value.int .i64 z)) HS.out))
      have Hbl := hid hbl
      clear hw3 hbl k0 k1 k2 kf
      go_upto_region 9 with (go_at_call 146; refine HU.out.mono ?_; rintro e w4 ⟨rfl, q, rfl⟩)
      go_upto_region 12 with (first | (go_at_call 148; refine (unmin_any _).mono ?_; rintro e w4 ⟨rfl, rfl⟩) | (go_at_call 147; refine (HB2.out _).mono ?_; rintro e w4 ⟨rfl, rfl⟩))
      go_wp2_with (first | (go_at_call 150; refine (Hrr.out _).mono ?_; rintro e w4 ⟨rfl, rfl⟩) | (go_at_call 153; refine (Hf.out _).mono ?_; rintro e w4 ⟨rfl, rfl⟩))
      go_ret2
      exact ⟨rfl, Hbl.out.trans (dN _ _ _)⟩
    ·
      obtain ⟨rr, hrr⟩ := round_ex (bits BinOp.or IntKind.u64 r (bits BinOp.and IntKind.u64 r 1))
      obtain ⟨f, er, her, hf⟩ := pack64_ex (bits BinOp.or IntKind.u64 sg rr) (-E) (by omega)
      have Hrr := hid hrr
      have Hf := hid hf
      clear hrr hf
      have B2 : ∀ w, Calls Tryz.prog 147 #[.bool (decide (36028797018963966 ≤ r))] w fun e w' => e = .returned (.int .i64 0) ∧ w' = w := fun w => by
        have := Tryz.internal_strconv_bool2_int (decide (36028797018963966 ≤ r)) w
        simpa [hv] using this
      have HB2 := hid B2
      clear B2
      have Hv := hid hv
      clear hv
      refine ⟨f, er, her, fun w hw ht => ?_⟩
      have Ht := hid ht
      clear ht
      go_enter Tryz.func132, Tryz.ntmps132
      go_upto_region 5 with (first | (go_at_call 143; refine (HL.out _).mono ?_; rintro e w' ⟨rfl, rfl⟩) | (go_at_call 144; refine (HLP.out _).mono ?_; rintro e w' ⟨rfl, rfl⟩))
      rw [HE.out]
      generalize hw1 : w'.alloc (Obj.cells #[Value.int IntKind.u64 0, Value.int IntKind.u64 0, Value.int IntKind.i64 0] 181) = w1
      have hb : Below w'.heap.size w' w1 := by rw [← hw1]; exact (Below.refl _ _).alloc (Nat.le_refl _) _
      have k0 : w1.cell? ⟨w'.heap.size, 0, none⟩ = some (.int .u64 0) := by rw [← hw1]; simp
      have k1 : w1.cell? ⟨w'.heap.size, 1, none⟩ = some (.int .u64 0) := by rw [← hw1]; simp
      have k2 : w1.cell? ⟨w'.heap.size, 2, none⟩ = some (.int .i64 0) := by rw [← hw1]; simp
      have kf : ∀ o, w1.frozen? ⟨w'.heap.size, o, none⟩ = false := by intro o; rw [← hw1]; simp
      have P1 := prescale_any ph pl w'.heap.size k (E - m) lp w1 (by omega) (by omega) (by omega) (Ht.out.keep hb hw) hw ⟨_, k0⟩ ⟨_, k1⟩ ⟨_, k2⟩ kf
      have HP1 := hid P1
      have Hb := hid hb
      have Hw1 := hid hw1
      clear P1 hb hw1
      go_upto_region 6 with (go_at_call 145; refine HP1.out.mono ?_; rintro e w2 ⟨rfl, rfl⟩)
      generalize hw3 : ((w1.setCell ⟨w'.heap.size, 0, none⟩ (.int .u64 (ph k : Nat))).setCell ⟨w'.heap.size, 1, none⟩ (.int .u64 (pl k : Nat))).setCell ⟨w'.heap.size, 2, none⟩ (.int .i64 (-(E - (m : Int) + lp + 3))) = w3
      have d0 : w3.cell? ⟨w'.heap.size, 0, none⟩ = some (.int .u64 (ph k : Nat)) := by rw [← hw3, World.cell?_setCell_other _ _ _ _ (off_ne (by omega)), World.cell?_setCell_other _ _ _ _ (off_ne (by omega))]; exact World.cell?_setCell_same _ _ _ k0
      have d1 : w3.cell? ⟨w'.heap.size, 1, none⟩ = some (.int .u64 (pl k : Nat)) := by
        rw [← hw3, World.cell?_setCell_other _ _ _ _ (off_ne (by omega))]
        refine World.cell?_setCell_same _ _ _ (?_ : _ = some (.int .u64 0))
        rw [World.cell?_setCell_other _ _ _ _ (off_ne (by omega))]; exact k1
      have d2 : w3.cell? ⟨w'.heap.size, 2, none⟩ = some (.int .i64 (-(E - (m : Int) + lp + 3))) := by
        rw [← hw3]
        refine World.cell?_setCell_same _ _ _ (?_ : _ = some (.int .i64 0))
        rw [World.cell?_setCell_other _ _ _ _ (off_ne (by omega)), World.cell?_setCell_other _ _ _ _ (off_ne (by omega))]; exact k2
      have hbl : Below w'.heap.size w' w3 := by rw [← hw3]; exact ((Hb.out.setCell (p := ⟨w'.heap.size, 0, none⟩) (Nat.le_refl _) _).setCell (p := ⟨w'.heap.size, 1, none⟩) (Nat.le_refl _) _).setCell (p := ⟨w'.heap.size, 2, none⟩) (Nat.le_refl _) _
      have HU := hid (Hr.out w3 w'.heap.size d0 d1 (by rw [d2]; exact congrArg (fun z => some (Value.int .i64 z)) HS.out))
      have Hbl := hid hbl
      clear hw3 hbl k0 k1 k2 kf
      go_upto_region 9 with (go_at_call 146; refine HU.out.mono ?_; rintro e w4 ⟨rfl, q, rfl⟩)
      go_upto_region 12 with (first | (go_at_call 148; refine (unmin_any _).mono ?_; rintro e w4 ⟨rfl, rfl⟩) | (go_at_call 147; refine (HB2.out _).mono ?_; rintro e w4 ⟨rfl, rfl⟩))
      go_wp2_with (first | (go_at_call 150; refine (Hrr.out _).mono ?_; rintro e w4 ⟨rfl, rfl⟩) | (go_at_call 153; refine (Hf.out _).mono ?_; rintro e w4 ⟨rfl, rfl⟩))
      go_ret2
      exact ⟨rfl, Hbl.out.trans (dN _ _ _)⟩
end Go.Proofs.YtajpeeccomgnnaaGreatDoor
