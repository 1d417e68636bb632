/-
  Reserved, walked: the program's and the reference's.
-/
import Derived.Test.YtajpeeccomgnnaaGreatDoorLxRes
namespace Go.Proofs.YtajpeeccomgnnaaGreatDoor
set_option linter.all false
open Go Go.RowKit

theorem bytes_list (l : List UInt8) : (⟨l.toArray⟩ : ByteArray).data.toList = l := by simp
theorem bytes_blanks (l : List UInt8) : ((⟨#[32]⟩ : ByteArray) ++ ⟨l.toArray⟩ ++ ⟨#[32]⟩).data.toList = 32 :: (l ++ [32]) := by simp
set_option maxHeartbeats 8000000 in
set_option maxRecDepth 100000 in
theorem reserved_any (l : List UInt8) (m : Int) (w : World) (hm : w.cell? ⟨1, 0, none⟩ = some (.int .i64 m)) (hl : l.length ≤ 281474976710656) :
    Calls Tryz.prog 11 #[.string ⟨l.toArray⟩] w fun e w' => e = .returned (.bool (rsv l)) ∧ w' = w := by
  have HE := hid (rsv_eq l)
  have tk1 : True := trivial
  have tk2 : True := trivial
  have tk3 : True := trivial
  have tk4 : True := trivial
  have hc1 : ¬ 9223372036854775807 < (⟨#[32]⟩ : ByteArray).size + (⟨l.toArray⟩ : ByteArray).size := by simp [ByteArray.size]; omega
  have hc2 : ¬ 9223372036854775807 < ((⟨#[32]⟩ : ByteArray) ++ ⟨l.toArray⟩).size + (⟨#[32]⟩ : ByteArray).size := by simp [ByteArray.size]; omega
  by_cases hne : l = []
  · subst hne
    go_enter Tryz.func11, Tryz.ntmps11
    go_wp2
    go_ret
    exact ⟨rfl, rfl⟩
  have hemp : l.isEmpty = false := by simpa using hne
  clear hne
  rcases h1 : decide (0 ≤ Lib.indexByte l 32) with _ | _
  · have H1 := hid h1
    rcases h2 : Lib.contains wordsL (32 :: (l ++ [32])) with _ | _
    · have H2 := hid h2
      rcases h3 : Lib.contains signsL (32 :: (l ++ [32])) with _ | _
      · have H3 := hid h3
        clear h1 h2 h3
        by_cases h4 : l.length = 1
        · have h4' : ((l.length : Int) == 1) = true := by simp [h4]
          have HV : Hid (rsvP l = Lib.contains oneL l) := hid (by unfold rsvP; rw [H1.out, H2.out, H3.out]; simp [hemp, h4])
          go_enter Tryz.func11, Tryz.ntmps11
          go_wp2_with (first | (have _t := tk1; go_at_call 20; refine (Tryz.strings_Contains_one _ _ _).mono ?_; rintro e w' ⟨rfl, rfl⟩; rw [bytes_list, H1.out]; clear tk1) | (have _t := tk2; go_at_call 20; refine (Tryz.strings_Contains ⟨wordsL.toArray⟩ _ m _ (by decide) (by assumption)).mono ?_; rintro e w' ⟨rfl, rfl⟩; rw [bytes_blanks, bytes_list, H2.out]; clear tk2) | (have _t := tk3; go_at_call 20; refine (Tryz.strings_Contains ⟨signsL.toArray⟩ _ m _ (by decide) (by assumption)).mono ?_; rintro e w' ⟨rfl, rfl⟩; rw [bytes_blanks, bytes_list, H3.out]; clear tk3) | (have _t := tk4; go_at_call 20; refine (Tryz.strings_Contains ⟨oneL.toArray⟩ _ m _ (by decide) (by assumption)).mono ?_; rintro e w' ⟨rfl, rfl⟩; rw [bytes_list, bytes_list]; clear tk4))
          go_ret
          exact ⟨by rw [← HE.out, HV.out]; rfl, rfl⟩
        · have h4' : ((l.length : Int) == 1) = false := by simp; omega
          have HV : Hid (rsvP l = false) := hid (by unfold rsvP; rw [H1.out, H2.out, H3.out]; simp [h4])
          go_enter Tryz.func11, Tryz.ntmps11
          go_wp2_with (first | (have _t := tk1; go_at_call 20; refine (Tryz.strings_Contains_one _ _ _).mono ?_; rintro e w' ⟨rfl, rfl⟩; rw [bytes_list, H1.out]; clear tk1) | (have _t := tk2; go_at_call 20; refine (Tryz.strings_Contains ⟨wordsL.toArray⟩ _ m _ (by decide) (by assumption)).mono ?_; rintro e w' ⟨rfl, rfl⟩; rw [bytes_blanks, bytes_list, H2.out]; clear tk2) | (have _t := tk3; go_at_call 20; refine (Tryz.strings_Contains ⟨signsL.toArray⟩ _ m _ (by decide) (by assumption)).mono ?_; rintro e w' ⟨rfl, rfl⟩; rw [bytes_blanks, bytes_list, H3.out]; clear tk3))
          go_ret
          exact ⟨by rw [← HE.out, HV.out]; rfl, rfl⟩
      · have H3 := hid h3
        clear h1 h2 h3
        have HV : Hid (rsvP l = true) := hid (by unfold rsvP; rw [H1.out, H2.out, H3.out]; simp [hemp])
        go_enter Tryz.func11, Tryz.ntmps11
        go_wp2_with (first | (have _t := tk1; go_at_call 20; refine (Tryz.strings_Contains_one _ _ _).mono ?_; rintro e w' ⟨rfl, rfl⟩; rw [bytes_list, H1.out]; clear tk1) | (have _t := tk2; go_at_call 20; refine (Tryz.strings_Contains ⟨wordsL.toArray⟩ _ m _ (by decide) (by assumption)).mono ?_; rintro e w' ⟨rfl, rfl⟩; rw [bytes_blanks, bytes_list, H2.out]; clear tk2) | (have _t := tk3; go_at_call 20; refine (Tryz.strings_Contains ⟨signsL.toArray⟩ _ m _ (by decide) (by assumption)).mono ?_; rintro e w' ⟨rfl, rfl⟩; rw [bytes_blanks, bytes_list, H3.out]; clear tk3))
        go_ret
        exact ⟨by rw [← HE.out, HV.out]; rfl, rfl⟩
    · have H2 := hid h2
      clear h1 h2
      have HV : Hid (rsvP l = true) := hid (by unfold rsvP; rw [H1.out, H2.out]; simp [hemp])
      go_enter Tryz.func11, Tryz.ntmps11
      go_wp2_with (first | (have _t := tk1; go_at_call 20; refine (Tryz.strings_Contains_one _ _ _).mono ?_; rintro e w' ⟨rfl, rfl⟩; rw [bytes_list, H1.out]; clear tk1) | (have _t := tk2; go_at_call 20; refine (Tryz.strings_Contains ⟨wordsL.toArray⟩ _ m _ (by decide) (by assumption)).mono ?_; rintro e w' ⟨rfl, rfl⟩; rw [bytes_blanks, bytes_list, H2.out]; clear tk2))
      go_ret
      exact ⟨by rw [← HE.out, HV.out]; rfl, rfl⟩
  · have H1 := hid h1
    clear h1
    have HV : Hid (rsvP l = false) := hid (by unfold rsvP; rw [H1.out]; simp)
    go_enter Tryz.func11, Tryz.ntmps11
    go_wp2_with ((have _t := tk1; go_at_call 20; refine (Tryz.strings_Contains_one _ _ _).mono ?_; rintro e w' ⟨rfl, rfl⟩; rw [bytes_list, H1.out]; clear tk1))
    go_ret
    exact ⟨by rw [← HE.out, HV.out]; rfl, rfl⟩
end Go.Proofs.YtajpeeccomgnnaaGreatDoor
