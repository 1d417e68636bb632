/-
  The library's exact reading of a real.
-/
import Derived.Test.YtajpeeccomgnnaaGreatDoorPfK
import Derived.BigQuiet
import Derived.Laws.FloatArith
namespace Go.Proofs.YtajpeeccomgnnaaGreatDoor
set_option linter.all false
open Go Go.RowKit
set_option maxRecDepth 100000
set_option maxHeartbeats 1000000

/-- The small powers of ten, as floats, in memory. -/
structure Te (pf : Nat → Nat) (z off : Nat) (w : World) : Prop where
  f0 : w.cell? ⟨8, 0, none⟩ = some (.int .u64 52)
  g0 : w.cell? ⟨11, 0, none⟩ = some (.slice (some ⟨z, off, none⟩) 23 23)
  gg : ∀ i, i < 23 → w.cell? ⟨z, off + i, none⟩ = some (.float .f64 (pf i))
theorem Te.keep {pf : Nat → Nat} {z off B : Nat} {w w' : World} (h : Te pf z off w) (k : Below B w w') (hB : 12 < B) (hz : z < B) : Te pf z off w' := by
  obtain ⟨h1, h2, h3⟩ := h
  refine ⟨?_, ?_, fun i hi => ?_⟩
  · rw [k.cell (by simp; omega)]; exact h1
  · rw [k.cell (by simp; omega)]; exact h2
  · rw [k.cell (by simpa using hz)]; exact h3 i hi
/-- Not a NaN's bits. -/
def NN (x : Nat) : Prop := x % 9223372036854775808 ≤ 9218868437227405312
theorem NN_word (neg : Bool) {r : Nat} (h : r ≤ 9218868437227405312) : NN (Ieee.double.word neg r) := by
  unfold NN Ieee.Format.word
  have e : Ieee.double.signWeight = 9223372036854775808 := by decide
  rw [e]
  split <;> omega
theorem inf_dbl : Ieee.double.infRung = 9218868437227405312 := by decide
theorem NN_num (neg : Bool) (m : Nat) (q : Int) : NN (Ieee.double.write (.number neg m q)) := by
  show NN (Ieee.double.nearest neg m q)
  unfold Ieee.Format.nearest
  dsimp only
  split
  · exact NN_word neg (by omega)
  · refine NN_word neg ?_
    rw [inf_dbl]
    exact Nat.min_le_right _ _
theorem NN_inf (neg : Bool) : NN (Ieee.double.write (.infinity neg)) := NN_word neg (by rw [inf_dbl]; omega)
theorem NN_read {x : Nat} (h : NN x) (s : Bool) (f : Nat) : Ieee.double.read x ≠ .nan s f := by
  unfold Ieee.Format.read
  have e : Ieee.double.signWeight = 9223372036854775808 := by decide
  rw [e, inf_dbl]
  unfold NN at h
  dsimp only
  split
  · simp
  · split
    · simp
    · rw [if_pos (by omega)]; simp
theorem NN_neg {x : Nat} (h : NN x) : NN (Op.negFloat .f64 x) := by
  unfold NN at *
  have e : Op.negFloat .f64 x = x ^^^ 2 ^ 63 := rfl
  rw [e, show (9223372036854775808 : Nat) = 2 ^ 63 by decide, Nat.xor_mod_two_pow, Nat.mod_self, Nat.xor_zero]
  rw [show (9223372036854775808 : Nat) = 2 ^ 63 by decide] at h
  exact h
/-- A number that is not nought. -/
def NZ (x : Nat) : Prop := ∃ s n j, Ieee.double.read x = .number s n j ∧ n ≠ 0
theorem mul_NN {x y : Nat} (hx : NN x) (hy : NZ y) : ∃ r, floatBits .mul .f64 x y = some r ∧ NN r := by
  obtain ⟨t, n, j, hr, hn⟩ := hy
  show ∃ r, ((Ieee.double.read x).product (Ieee.double.read y)).map Ieee.double.write = some r ∧ NN r
  rw [hr]
  cases hd : Ieee.double.read x with
  | number s m i => exact ⟨_, rfl, NN_num _ _ _⟩
  | infinity s => exact ⟨_, by simp only [Ieee.Datum.product, if_neg hn]; rfl, NN_inf _⟩
  | nan s f => exact absurd hd (NN_read hx s f)
theorem div_NN {x y : Nat} (hx : NN x) (hy : NZ y) : ∃ r, floatBits .quo .f64 x y = some r ∧ NN r := by
  obtain ⟨t, n, j, hr, hn⟩ := hy
  show ∃ r, ((Ieee.double.read x).quotient _ (Ieee.double.read y)).map Ieee.double.write = some r ∧ NN r
  rw [hr]
  cases hd : Ieee.double.read x with
  | number s m i => exact ⟨_, by simp only [Ieee.Datum.quotient, if_neg hn]; rfl, NN_num _ _ _⟩
  | infinity s => exact ⟨_, rfl, NN_inf _⟩
  | nan s f => exact absurd hd (NN_read hx s f)
theorem NN_int (n : Int) : NN (floatOfInt .f64 n) := NN_num _ _ _
theorem run_unary_neg_float (w : World) (A : Nat) : (Op.unary .neg (.float .f64 A)).run Tryz.prog w = .ok (.float .f64 (Op.negFloat .f64 A)) w := rfl
theorem exact_ex (pf : Nat → Nat) (z off : Nat) (hz : ∀ i, i < 23 → NZ (pf i)) (d : Nat) (p : Int) (ng : Bool) : ∃ f ok, ∀ w, Te pf z off w →
    Calls Tryz.prog 131 #[.int .u64 (d : Nat), .int .i64 p, .bool ng] w fun x w' => x = .returned (.tuple #[.float .f64 f, .bool ok]) ∧ w' = w := by
  by_cases h1 : d / 2 ^ 52 = 0
  · have e1 : ((d : Int) / 4503599627370496 == 0) = true := by
      have : (d : Int) / 4503599627370496 = ((d / 2 ^ 52 : Nat) : Int) := by omega
      rw [this, h1]; rfl
    have H1 := hid h1
    clear h1
    obtain ⟨F, hF⟩ : ∃ F, (if ng = true then Op.negFloat .f64 (floatOfInt .f64 (d : Int)) else floatOfInt .f64 (d : Int)) = F := ⟨_, rfl⟩
    have hN : NN F := by
      rw [← hF]; split
      · exact NN_neg (NN_int _)
      · exact NN_int _
    have HF := hid hF
    clear hF
    rcases Int.lt_trichotomy p 0 with hp | rfl | hp
    · by_cases h22 : -22 ≤ p
      · obtain ⟨i, rfl⟩ : ∃ i : Nat, p = -(i : Int) := ⟨(-p).toNat, by omega⟩
        obtain ⟨r, hr, hrN⟩ := div_NN hN (hz i (by omega))
        have hm := fun w => run_float_arith (P := Tryz.prog) w .quo 76 .f64 F (pf i) r hr
        have hp2 : -(i : Int) < 0 := hp
        have hne : (-(i : Int) == 0) = false := by simp; omega
        have hnp : ¬ (0 : Int) < -(i : Int) := by omega
        have hi23 : (i : Int) < 23 := by omega
        clear hr
        refine ⟨r, true, fun w ht => ?_⟩
        have f0 := ht.f0
        have g0 := ht.g0
        have gg := ht.gg i (by omega)
        clear ht
        go_enter Tryz.func131, Tryz.ntmps131
        go_upto_if 15 with fail
        go_cut [6] from 12 to 17 (fun fv wx => fv = .float .f64 F ∧ wx = w)
        case first =>
          cases ng
          · have hF1 : floatOfInt .f64 (d : Int) = F := by have h5 := HF.out; rw [if_neg (by simp)] at h5; exact h5
            have HF1 := hid hF1
            clear hF1
            go_wp2_with fail
            go_meet
            exact ⟨by first | rfl | rw [HF1.out], rfl⟩
          · have hF1 : Op.negFloat .f64 (floatOfInt .f64 (d : Int)) = F := by have h5 := HF.out; rw [if_pos rfl] at h5; exact h5
            have hng : ∀ w, (Op.unary .neg (.float .f64 (floatOfInt .f64 (d : Int)))).run Tryz.prog w = .ok (.float .f64 F) w := fun w => by rw [← hF1]; exact run_unary_neg_float w _
            have HF1 := hid hF1
            clear hF1
            go_wp2_with fail
            go_meet
            exact ⟨by first | rfl | rw [HF1.out], rfl⟩
        case rest =>
        obtain ⟨rfl, rfl⟩ := hcut
        go_wp2_with fail
        go_ret2
        exact ⟨rfl, rfl⟩
      · have hne : (p == 0) = false := by simp; omega
        have hnp : ¬ (0 : Int) < p := by omega
        refine ⟨F, false, fun w ht => ?_⟩
        have f0 := ht.f0
        have g0 := ht.g0
        clear ht
        go_enter Tryz.func131, Tryz.ntmps131
        go_upto_if 15 with fail
        go_cut [6] from 12 to 17 (fun fv wx => fv = .float .f64 F ∧ wx = w)
        case first =>
          cases ng
          · have hF1 : floatOfInt .f64 (d : Int) = F := by have h5 := HF.out; rw [if_neg (by simp)] at h5; exact h5
            have HF1 := hid hF1
            clear hF1
            go_wp2_with fail
            go_meet
            exact ⟨by first | rfl | rw [HF1.out], rfl⟩
          · have hF1 : Op.negFloat .f64 (floatOfInt .f64 (d : Int)) = F := by have h5 := HF.out; rw [if_pos rfl] at h5; exact h5
            have hng : ∀ w, (Op.unary .neg (.float .f64 (floatOfInt .f64 (d : Int)))).run Tryz.prog w = .ok (.float .f64 F) w := fun w => by rw [← hF1]; exact run_unary_neg_float w _
            have HF1 := hid hF1
            clear hF1
            go_wp2_with fail
            go_meet
            exact ⟨by first | rfl | rw [HF1.out], rfl⟩
        case rest =>
        obtain ⟨rfl, rfl⟩ := hcut
        go_wp2_with fail
        go_ret2
        exact ⟨rfl, rfl⟩
    · skip
      refine ⟨F, true, fun w ht => ?_⟩
      have f0 := ht.f0
      have g0 := ht.g0
      clear ht
      go_enter Tryz.func131, Tryz.ntmps131
      go_upto_if 15 with fail
      go_cut [6] from 12 to 17 (fun fv wx => fv = .float .f64 F ∧ wx = w)
      case first =>
        cases ng
        · have hF1 : floatOfInt .f64 (d : Int) = F := by have h5 := HF.out; rw [if_neg (by simp)] at h5; exact h5
          have HF1 := hid hF1
          clear hF1
          go_wp2_with fail
          go_meet
          exact ⟨by first | rfl | rw [HF1.out], rfl⟩
        · have hF1 : Op.negFloat .f64 (floatOfInt .f64 (d : Int)) = F := by have h5 := HF.out; rw [if_pos rfl] at h5; exact h5
          have hng : ∀ w, (Op.unary .neg (.float .f64 (floatOfInt .f64 (d : Int)))).run Tryz.prog w = .ok (.float .f64 F) w := fun w => by rw [← hF1]; exact run_unary_neg_float w _
          have HF1 := hid hF1
          clear hF1
          go_wp2_with fail
          go_meet
          exact ⟨by first | rfl | rw [HF1.out], rfl⟩
      case rest =>
      obtain ⟨rfl, rfl⟩ := hcut
      go_wp2_with fail
      go_ret2
      exact ⟨rfl, rfl⟩
    · have hne : (p == 0) = false := by simp; omega
      by_cases h37 : p ≤ 37
      · by_cases h22 : 22 < p
        · obtain ⟨i, rfl⟩ : ∃ i : Nat, p = (i : Int) + 22 := ⟨(p - 22).toNat, by omega⟩
          obtain ⟨r, hr, hrN⟩ := mul_NN hN (hz i (by omega))
          have hm := fun w => run_float_arith (P := Tryz.prog) w .mul 76 .f64 F (pf i) r hr
          obtain ⟨r2, hr2, _⟩ := mul_NN hrN (hz 22 (by omega))
          have hm2 := fun w => run_float_arith (P := Tryz.prog) w .mul 76 .f64 r (pf 22) r2 hr2
          have hi23 : (i : Int) < 23 := by omega
          clear hr hr2
          rcases hc1 : (FloatKind.f64.format.order r 4831355200913801216 == some Ordering.gt) with _ | _
          · rcases hc2 : (FloatKind.f64.format.order r 14054727237768577024 == some Ordering.lt) with _ | _
            · skip
              refine ⟨r2, true, fun w ht => ?_⟩
              have f0 := ht.f0
              have g0 := ht.g0
              have gg := ht.gg i (by omega)
              have gg22 := ht.gg 22 (by omega)
              clear ht
              go_enter Tryz.func131, Tryz.ntmps131
              go_upto_if 15 with fail
              go_cut [6] from 12 to 17 (fun fv wx => fv = .float .f64 F ∧ wx = w)
              case first =>
                cases ng
                · have hF1 : floatOfInt .f64 (d : Int) = F := by have h5 := HF.out; rw [if_neg (by simp)] at h5; exact h5
                  have HF1 := hid hF1
                  clear hF1
                  go_wp2_with fail
                  go_meet
                  exact ⟨by first | rfl | rw [HF1.out], rfl⟩
                · have hF1 : Op.negFloat .f64 (floatOfInt .f64 (d : Int)) = F := by have h5 := HF.out; rw [if_pos rfl] at h5; exact h5
                  have hng : ∀ w, (Op.unary .neg (.float .f64 (floatOfInt .f64 (d : Int)))).run Tryz.prog w = .ok (.float .f64 F) w := fun w => by rw [← hF1]; exact run_unary_neg_float w _
                  have HF1 := hid hF1
                  clear hF1
                  go_wp2_with fail
                  go_meet
                  exact ⟨by first | rfl | rw [HF1.out], rfl⟩
              case rest =>
              obtain ⟨rfl, rfl⟩ := hcut
              go_wp2_with fail
              go_ret2
              exact ⟨rfl, rfl⟩
            · skip
              refine ⟨r, false, fun w ht => ?_⟩
              have f0 := ht.f0
              have g0 := ht.g0
              have gg := ht.gg i (by omega)
              clear ht
              go_enter Tryz.func131, Tryz.ntmps131
              go_upto_if 15 with fail
              go_cut [6] from 12 to 17 (fun fv wx => fv = .float .f64 F ∧ wx = w)
              case first =>
                cases ng
                · have hF1 : floatOfInt .f64 (d : Int) = F := by have h5 := HF.out; rw [if_neg (by simp)] at h5; exact h5
                  have HF1 := hid hF1
                  clear hF1
                  go_wp2_with fail
                  go_meet
                  exact ⟨by first | rfl | rw [HF1.out], rfl⟩
                · have hF1 : Op.negFloat .f64 (floatOfInt .f64 (d : Int)) = F := by have h5 := HF.out; rw [if_pos rfl] at h5; exact h5
                  have hng : ∀ w, (Op.unary .neg (.float .f64 (floatOfInt .f64 (d : Int)))).run Tryz.prog w = .ok (.float .f64 F) w := fun w => by rw [← hF1]; exact run_unary_neg_float w _
                  have HF1 := hid hF1
                  clear hF1
                  go_wp2_with fail
                  go_meet
                  exact ⟨by first | rfl | rw [HF1.out], rfl⟩
              case rest =>
              obtain ⟨rfl, rfl⟩ := hcut
              go_wp2_with fail
              go_ret2
              exact ⟨rfl, rfl⟩
          · skip
            refine ⟨r, false, fun w ht => ?_⟩
            have f0 := ht.f0
            have g0 := ht.g0
            have gg := ht.gg i (by omega)
            clear ht
            go_enter Tryz.func131, Tryz.ntmps131
            go_upto_if 15 with fail
            go_cut [6] from 12 to 17 (fun fv wx => fv = .float .f64 F ∧ wx = w)
            case first =>
              cases ng
              · have hF1 : floatOfInt .f64 (d : Int) = F := by have h5 := HF.out; rw [if_neg (by simp)] at h5; exact h5
                have HF1 := hid hF1
                clear hF1
                go_wp2_with fail
                go_meet
                exact ⟨by first | rfl | rw [HF1.out], rfl⟩
              · have hF1 : Op.negFloat .f64 (floatOfInt .f64 (d : Int)) = F := by have h5 := HF.out; rw [if_pos rfl] at h5; exact h5
                have hng : ∀ w, (Op.unary .neg (.float .f64 (floatOfInt .f64 (d : Int)))).run Tryz.prog w = .ok (.float .f64 F) w := fun w => by rw [← hF1]; exact run_unary_neg_float w _
                have HF1 := hid hF1
                clear hF1
                go_wp2_with fail
                go_meet
                exact ⟨by first | rfl | rw [HF1.out], rfl⟩
            case rest =>
            obtain ⟨rfl, rfl⟩ := hcut
            go_wp2_with fail
            go_ret2
            exact ⟨rfl, rfl⟩
        · obtain ⟨i, rfl⟩ : ∃ i : Nat, p = (i : Int) := ⟨p.toNat, by omega⟩
          obtain ⟨r, hr, hrN⟩ := mul_NN hN (hz i (by omega))
          have hm := fun w => run_float_arith (P := Tryz.prog) w .mul 76 .f64 F (pf i) r hr
          have hi23 : (i : Int) < 23 := by omega
          clear hr
          rcases hc1 : (FloatKind.f64.format.order F 4831355200913801216 == some Ordering.gt) with _ | _
          · rcases hc2 : (FloatKind.f64.format.order F 14054727237768577024 == some Ordering.lt) with _ | _
            · skip
              refine ⟨r, true, fun w ht => ?_⟩
              have f0 := ht.f0
              have g0 := ht.g0
              have gg := ht.gg i (by omega)
              clear ht
              go_enter Tryz.func131, Tryz.ntmps131
              go_upto_if 15 with fail
              go_cut [6] from 12 to 17 (fun fv wx => fv = .float .f64 F ∧ wx = w)
              case first =>
                cases ng
                · have hF1 : floatOfInt .f64 (d : Int) = F := by have h5 := HF.out; rw [if_neg (by simp)] at h5; exact h5
                  have HF1 := hid hF1
                  clear hF1
                  go_wp2_with fail
                  go_meet
                  exact ⟨by first | rfl | rw [HF1.out], rfl⟩
                · have hF1 : Op.negFloat .f64 (floatOfInt .f64 (d : Int)) = F := by have h5 := HF.out; rw [if_pos rfl] at h5; exact h5
                  have hng : ∀ w, (Op.unary .neg (.float .f64 (floatOfInt .f64 (d : Int)))).run Tryz.prog w = .ok (.float .f64 F) w := fun w => by rw [← hF1]; exact run_unary_neg_float w _
                  have HF1 := hid hF1
                  clear hF1
                  go_wp2_with fail
                  go_meet
                  exact ⟨by first | rfl | rw [HF1.out], rfl⟩
              case rest =>
              obtain ⟨rfl, rfl⟩ := hcut
              go_wp2_with fail
              go_ret2
              exact ⟨rfl, rfl⟩
            · skip
              refine ⟨F, false, fun w ht => ?_⟩
              have f0 := ht.f0
              have g0 := ht.g0
              have gg := ht.gg i (by omega)
              clear ht
              go_enter Tryz.func131, Tryz.ntmps131
              go_upto_if 15 with fail
              go_cut [6] from 12 to 17 (fun fv wx => fv = .float .f64 F ∧ wx = w)
              case first =>
                cases ng
                · have hF1 : floatOfInt .f64 (d : Int) = F := by have h5 := HF.out; rw [if_neg (by simp)] at h5; exact h5
                  have HF1 := hid hF1
                  clear hF1
                  go_wp2_with fail
                  go_meet
                  exact ⟨by first | rfl | rw [HF1.out], rfl⟩
                · have hF1 : Op.negFloat .f64 (floatOfInt .f64 (d : Int)) = F := by have h5 := HF.out; rw [if_pos rfl] at h5; exact h5
                  have hng : ∀ w, (Op.unary .neg (.float .f64 (floatOfInt .f64 (d : Int)))).run Tryz.prog w = .ok (.float .f64 F) w := fun w => by rw [← hF1]; exact run_unary_neg_float w _
                  have HF1 := hid hF1
                  clear hF1
                  go_wp2_with fail
                  go_meet
                  exact ⟨by first | rfl | rw [HF1.out], rfl⟩
              case rest =>
              obtain ⟨rfl, rfl⟩ := hcut
              go_wp2_with fail
              go_ret2
              exact ⟨rfl, rfl⟩
          · skip
            refine ⟨F, false, fun w ht => ?_⟩
            have f0 := ht.f0
            have g0 := ht.g0
            have gg := ht.gg i (by omega)
            clear ht
            go_enter Tryz.func131, Tryz.ntmps131
            go_upto_if 15 with fail
            go_cut [6] from 12 to 17 (fun fv wx => fv = .float .f64 F ∧ wx = w)
            case first =>
              cases ng
              · have hF1 : floatOfInt .f64 (d : Int) = F := by have h5 := HF.out; rw [if_neg (by simp)] at h5; exact h5
                have HF1 := hid hF1
                clear hF1
                go_wp2_with fail
                go_meet
                exact ⟨by first | rfl | rw [HF1.out], rfl⟩
              · have hF1 : Op.negFloat .f64 (floatOfInt .f64 (d : Int)) = F := by have h5 := HF.out; rw [if_pos rfl] at h5; exact h5
                have hng : ∀ w, (Op.unary .neg (.float .f64 (floatOfInt .f64 (d : Int)))).run Tryz.prog w = .ok (.float .f64 F) w := fun w => by rw [← hF1]; exact run_unary_neg_float w _
                have HF1 := hid hF1
                clear hF1
                go_wp2_with fail
                go_meet
                exact ⟨by first | rfl | rw [HF1.out], rfl⟩
            case rest =>
            obtain ⟨rfl, rfl⟩ := hcut
            go_wp2_with fail
            go_ret2
            exact ⟨rfl, rfl⟩
      · have hnm : ¬ p < 0 := by omega
        refine ⟨F, false, fun w ht => ?_⟩
        have f0 := ht.f0
        have g0 := ht.g0
        clear ht
        go_enter Tryz.func131, Tryz.ntmps131
        go_upto_if 15 with fail
        go_cut [6] from 12 to 17 (fun fv wx => fv = .float .f64 F ∧ wx = w)
        case first =>
          cases ng
          · have hF1 : floatOfInt .f64 (d : Int) = F := by have h5 := HF.out; rw [if_neg (by simp)] at h5; exact h5
            have HF1 := hid hF1
            clear hF1
            go_wp2_with fail
            go_meet
            exact ⟨by first | rfl | rw [HF1.out], rfl⟩
          · have hF1 : Op.negFloat .f64 (floatOfInt .f64 (d : Int)) = F := by have h5 := HF.out; rw [if_pos rfl] at h5; exact h5
            have hng : ∀ w, (Op.unary .neg (.float .f64 (floatOfInt .f64 (d : Int)))).run Tryz.prog w = .ok (.float .f64 F) w := fun w => by rw [← hF1]; exact run_unary_neg_float w _
            have HF1 := hid hF1
            clear hF1
            go_wp2_with fail
            go_meet
            exact ⟨by first | rfl | rw [HF1.out], rfl⟩
        case rest =>
        obtain ⟨rfl, rfl⟩ := hcut
        go_wp2_with fail
        go_ret2
        exact ⟨rfl, rfl⟩
  · have e1 : ((d : Int) / 4503599627370496 == 0) = false := by
      have : (d : Int) / 4503599627370496 = ((d / 2 ^ 52 : Nat) : Int) := by omega
      rw [this]; simp; omega
    have H1 := hid h1
    clear h1
    refine ⟨0, false, fun w ht => ?_⟩
    have f0 := ht.f0
    clear ht
    go_enter Tryz.func131, Tryz.ntmps131
    go_wp2_with fail
    go_ret2
    exact ⟨rfl, rfl⟩
end Go.Proofs.YtajpeeccomgnnaaGreatDoor
