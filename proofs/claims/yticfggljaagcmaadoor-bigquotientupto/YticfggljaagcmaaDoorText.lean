/-
  big.natText, walked.
-/
import Derived.Test.YticfggljaagcmaaDoorBuild
import Derived.Test.YticfggljaagcmaaDoorDec
import Derived.Test.YticfggljaagcmaaDoorApp2
namespace Go.Proofs.YticfggljaagcmaaDoor
set_option linter.all false
open Go.RowKit

theorem info9 : (Tryd.prog.info? 9).map (fun i => (i.zero, i.size, i.bytes)) = some (some (.string ⟨#[]⟩), 1, 16) := by kernel_rfl
theorem enc_dig {d : Nat} (h : d < 10) : Utf8.encode (48 + (d : Int)) = ⟨#[UInt8.ofNat (48 + d)]⟩ := by
  have : ∀ d : Nat, d < 10 → Utf8.encode (48 + (d : Int)) = ⟨#[UInt8.ofNat (48 + d)]⟩ := by decide
  exact this d h
/-- A slice's length. -/
def lenS : Value → Nat | .slice _ n _ => n | _ => 0
/-- The text of nine digits. -/
def nineT (v k : Nat) : Value := .string ⟨(dig 9 (v / 10 ^ (9 * k))).toArray⟩
theorem pw_nine (n : Nat) : pw n ≤ 10 ^ (9 * (2 * n)) := by
  induction n with
  | zero => simp [pw]
  | succ n ih =>
    rw [pw_succ, show 9 * (2 * (n + 1)) = 9 * (2 * n) + 18 by omega, Nat.pow_add]
    have : 4294967296 ≤ 10 ^ 18 := by decide
    calc 4294967296 * pw n ≤ 10 ^ 18 * 10 ^ (9 * (2 * n)) := Nat.mul_le_mul this ih
      _ = _ := Nat.mul_comm _ _
theorem nine_few {v k n : Nat} (h : 0 < v / 10 ^ (9 * k)) (hv : v < pw n) : k < 2 * n ∧ k < v := by
  have h1 : 10 ^ (9 * k) ≤ v := by
    rcases Nat.lt_or_ge v (10 ^ (9 * k)) with q | q
    · rw [Nat.div_eq_of_lt q] at h; omega
    · exact q
  constructor
  · rcases Nat.lt_or_ge k (2 * n) with q | q
    · exact q
    · have h2 : 10 ^ (9 * (2 * n)) ≤ 10 ^ (9 * k) := Nat.pow_le_pow_right (by decide) (by omega)
      have := pw_nine n
      omega
  · have h2 : k < 10 ^ k := Nat.lt_pow_self (by decide)
    have h3 : 10 ^ k ≤ 10 ^ (9 * k) := Nat.pow_le_pow_right (by decide) (by omega)
    omega

set_option maxHeartbeats 2000000 in
theorem natText_any (a : Option Addr) (n c : Nat) (f : Nat → Nat) (w : World) (hn : n ≤ 274877906944) (hu : Us w a n c f) :
    Calls Tryd.prog 53 #[.slice a n c] w fun e w' => e = .returned (.string ⟨(Lib.decDigits (val f n)).toArray⟩) ∧ Below w.heap.size w w' := by
  have hle := hu.le
  have hnr := nrm_le f n
  have hvn := hid (val_nrm f n)
  have hlt := hid (val_lt (hu.lm.mono hle))
  have U0 := hu.cut (Nat.le_refl (nrm f n)) (Nat.le_trans hnr hle)
  generalize val f n = V at hvn hlt
  go_enter Tryd.func53, Tryd.ntmps53
  go_wp2_with (go_at_call 64; refine (bare_any _ _ _ _ _ (by omega) hu).mono ?_; rintro e w' ⟨rfl, rfl⟩)
  go_loopw [3, 4, 5, 6, 7] (fun pv rv qv sv tv wr => ∃ (k m d cp : Nat) (r ap : Option Addr) (h : Nat → Nat) (p : Nat → Value), rv = .slice r m d ∧ Us wr r m d h ∧ Nm h m ∧ Hid (val h m = V / 10 ^ (9 * k)) ∧ m ≤ n ∧ pv = .slice ap k cp ∧ Arr wr ap k cp p ∧ New wr w.heap.size ap cp ∧ Hid (∀ i, i < k → p i = nineT V i) ∧ k ≤ 2 * n ∧ Hid (0 < k → 0 < V) ∧ Below w.heap.size w wr) (fun pv _ _ _ _ _ => V - lenS pv)
  case atStart => exact ⟨0, _, _, 0, _, none, f, fun _ => .nilIface, rfl, U0, nrm_nm f n, hid (by rw [hvn.out]; simp), hnr, rfl, Arr.empty _ _ _, New.nil _ _ _, hid (fun _ hi => by omega), by omega, hid (fun h => by omega), Below.refl _ _⟩
  case round =>
    obtain ⟨k, m, d, cp, r, ap, h, p, rfl, hU, hN, hW, hm, rfl, hA, hP, hE, hk, hK0, hB⟩ := hrel
    have hbs := hB.size
    by_cases h0 : 0 < m
    · have hpos : 0 < V / 10 ^ (9 * k) := by
        rw [← hW.out]
        rcases Nat.eq_zero_or_pos (val h m) with q | q
        · have := hN.zero.1 q; omega
        · exact q
      obtain ⟨hk1, hk2⟩ := nine_few hpos hlt.out
      clear hpos
      go_wp2_with (go_at_call 65; refine (short_any _ _ _ 1000000000 _ _ (by omega) (by omega) (by omega) hU).mono ?_; rintro e w' ⟨r2, m2, d2, h2, t, rfl, k1, k2, k3, k4, k5, k6, k7⟩; have K5 := hid k5; clear k5)
      go_loopw [6, 7, 20] (fun tv sv iv wr => wr = w' ∧ ∃ (j R : Nat) (D : List UInt8), j ≤ 9 ∧ R ≤ 1000000000 ∧ D.length ≤ 9 ∧ iv = .int .i64 j ∧ tv = .int .u32 R ∧ sv = .string ⟨D.toArray⟩ ∧ Hid (R = t / 10 ^ j ∧ D = dig j t)) (fun _ _ iv _ => 9 - (intOf iv).toNat)
      case atStart => exact ⟨rfl, 0, t, [], by omega, by omega, by simp, rfl, rfl, rfl, hid ⟨by simp, rfl⟩⟩
      case round =>
        obtain ⟨hww, j, R, D, hj, hR, hD, rfl, rfl, rfl, HR⟩ := hrel
        obtain rfl := hww.symm
        by_cases hj9 : j < 9
        · have hsz : ¬ 9223372036854775807 < (Utf8.encode (48 + (R : Int) % 10)).size + D.length := by
            rw [show (R : Int) % 10 = ((R % 10 : Nat) : Int) by simp, enc_dig (by omega)]
            show ¬ 9223372036854775807 < 1 + D.length
            omega
          go_wp2
          refine ⟨⟨trivial, j + 1, R / 10, UInt8.ofNat (48 + R % 10) :: D, by omega, by omega, ?_, rfl, by simp, ?_, ?_⟩, by simp [intOf]; omega⟩
          · rw [HR.out.2]; simp [dig_length]; omega
          · rw [show (R : Int) % 10 = ((R % 10 : Nat) : Int) by simp, enc_dig (by omega), cat_byte]
          · refine hid ⟨?_, ?_⟩
            · rw [HR.out.1, Nat.div_div_eq_div_mul, Nat.pow_succ]
            · rw [HR.out.1, HR.out.2]; rfl
        · obtain rfl : j = 9 := by omega
          have A1 := hA.below (k3.mono (Nat.le_refl _)) (Nat.le_refl _)
          have N1 := hP.below_arr hA k3 (Nat.le_refl _)
          have hs1 := k3.size
          go_wp2_with (at_builtin; refine wpList_append_frame _ rfl _ _ 73 73 rfl 9 9 (.string ⟨#[]⟩) 16 Tryd.underlying73 Tryd.underlying73 info9 rfl w.heap.size (by simp; omega) _ _ _ _ 1 1 p (fun _ => .string ⟨D.toArray⟩) rfl rfl (A1.below (below_alloc _ _) (Nat.le_refl _)) (N1.below_arr A1 (below_alloc _ _) (Nat.le_refl _)) (one_arr _ _ _) (fun _ _ => rfl) (by omega) (by omega) ?_; intro a' c' rr w1 q1 q2 q3 q4 q5; clear q1)
          go_wp2
          go_roundw
          case rel =>
            go_light
            have e1 := K5.out
            have e2 := HR.out.2
            refine ⟨k + 1, m2, d2, c', r2, a', h2, _, rfl, (k1.alloc _).frame q5 ?_, k4, ?_, by omega, rfl, q2, q3, ?_, by omega, hid (fun _ => by omega), hB.trans ((k3.mono hbs).trans (((below_alloc _ _).mono (by omega)).trans q4))⟩
            · intro b off b2 off2 h1 h2 h3 h4
              have g1 := hA.lt h2 h4
              obtain ⟨b3, o3, g2, g3, _⟩ := k2 0 h3
              rw [h1] at g2
              simp only [Option.some.injEq, Addr.mk.injEq, and_true] at g2
              omega
            · refine hid ?_
              rw [show 9 * (k + 1) = 9 * k + 9 by omega, Nat.pow_add, ← Nat.div_div_eq_div_mul, ← hW.out]
              omega
            · refine hid (fun i hi => ?_)
              unfold cat
              by_cases hik : i < k
              · rw [if_pos hik]; exact hE.out i hik
              · obtain rfl : i = k := by omega
                rw [if_neg (by omega), if_pos (by omega)]
                unfold nineT
                have e3 : t = val h m % 10 ^ 9 := by rw [show (10 : Nat) ^ 9 = 1000000000 from rfl]; omega
                rw [e2, ← hW.out, ← dig_mod 9 9 (val h m) (Nat.le_refl _), ← e3]
          case measure => simp [lenS]; omega
    · have hm0 : m = 0 := by omega
      subst hm0
      have hlt0 : Hid (V < 10 ^ (9 * k)) := by
        have := hW.out
        simp only [val] at this
        refine hid ?_
        rcases Nat.lt_or_ge V (10 ^ (9 * k)) with q | q
        · exact q
        · have := Nat.div_pos q (Nat.pow_pos (by decide)); omega
      by_cases hk0 : k = 0
      · subst hk0
        go_wp2
        go_ret
        refine ⟨?_, hB⟩
        have h1 := hlt0.out
        obtain rfl : V = 0 := by simpa using h1
        rw [Lib.decDigits_one (by omega)]
        rfl
      · have hkz : ¬ (k : Int) = 0 := by omega
        have hkb : ((k : Int) == 0) = false := by simpa using hkz
        go_wp2
        have hVp := hid (hK0.out (by omega))
        obtain ⟨wo, rfl⟩ : ∃ wo : World, wo = wr := ⟨_, rfl⟩
        go_loopw [9] (fun iv wx => ∃ i : Nat, i ≤ k ∧ iv = .int .i64 ((i : Int) - 1) ∧ Lib.IsBuilder 76 5 wo.heap.size wo.heap.size (Lib.byteCells (dig (9 * (k - i)) (V / 10 ^ (9 * i)))) wx ∧ Below wo.heap.size wo wx ∧ wo.heap.size + 1 ≤ wx.heap.size) (fun iv _ => (intOf iv + 1).toNat)
        case atStart =>
          refine ⟨k, Nat.le_refl _, rfl, ?_, below_alloc _ _, by simp⟩
          rw [Nat.sub_self]
          exact Lib.fresh_isBuilder 76 5 wo
        case round =>
          obtain ⟨i, hi, rfl, hI, hb, hz⟩ := hrel
          cases i with
          | succ i =>
            have ek : ((i + 1 : Nat) : Int) - 1 = i := by omega
            rw [ek]
            clear ek
            obtain ⟨bl, ol, rfl, hcl⟩ := (hA.below hb (Nat.le_refl _)).cell i (by have := hA.le; omega)
            have hpi := hE.out i (by omega)
            rw [hpi] at hcl
            unfold nineT at hcl
            clear hpi
            have hik : i < k := by omega
            have hds := dig_length 9 (V / 10 ^ (9 * i))
            have HI := hid hI
            clear hI
            go_wp2_with (go_at_call 75; refine (writeString_any _ _ _ _ _ HI.out (by simp [Lib.byteCells_length, dig_length, ByteArray.size]; omega) (by omega)).mono ?_; rintro e w2 ⟨rfl, j1, j2⟩)
            go_roundw
            case rel =>
              go_light
              refine ⟨i, by omega, rfl, .inr ?_, hb.trans j2, by have := j2.size; omega⟩
              have e4 : dig (9 * (k - i)) (V / 10 ^ (9 * i)) = dig (9 * (k - (i + 1))) (V / 10 ^ (9 * (i + 1))) ++ dig 9 (V / 10 ^ (9 * i)) := by
                rw [show 9 * (k - i) = 9 * (k - (i + 1)) + 9 by omega, dig_add, Nat.div_div_eq_div_mul, ← Nat.pow_add]
                congr 3
              rw [e4, Lib.byteCells_append]
              exact j1
            case measure => simp [intOf]
          | zero =>
            rw [Nat.sub_zero, Nat.mul_zero, Nat.pow_zero, Nat.div_one] at hI
            have HI := hid hI
            clear hI
            have htl : Hid (Lib.trimLeftB (dig (9 * k) V) 48 = Lib.decDigits V) := hid (trim_dig _ _ hVp.out hlt0.out)
            go_wp2_with (first | (go_at_call 77; refine (Tryd.Builder_String_any _ _ _ _ HI.out (by omega)).mono ?_; rintro e w2 ⟨rfl, j2⟩) | (go_at_call 76; refine (Tryd.strings_TrimLeft_one _ 48 (by decide) _).mono ?_; rintro e w3 ⟨rfl, hw⟩; obtain rfl := hw.symm))
            go_ret
            refine ⟨?_, hB.trans ((hb.trans j2).mono hbs)⟩
            rw [← htl.out]
            rfl
end Go.Proofs.YticfggljaagcmaaDoor
