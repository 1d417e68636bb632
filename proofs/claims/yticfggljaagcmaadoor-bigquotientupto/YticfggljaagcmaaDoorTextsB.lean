/-
  big.Parse at a text that is no number's, walked.
-/
import Derived.Test.YticfggljaagcmaaDoorTexts
namespace Go.Proofs.YticfggljaagcmaaDoor
set_option linter.all false
open Go.RowKit Go.Shelf

/-- No number is answered. -/
def ResE (w w' : World) (e : Ending) : Prop := e = .returned (.tuple #[.agg #[.bool false, .slice none 0 0], .int .i64 11]) ∧ Below w.heap.size w w'

set_option maxHeartbeats 2000000 in
theorem parse_no (pre : Bool) (l d : List UInt8) (w : World) (hl : l.length ≤ 274877906944) (hl2 : d.length ≤ l.length) (h1 : Lib.trimPrefix l [126] = d) (h2 : Lib.hasPrefix l [126] = pre) (hd : isNum d = false) :
    Calls Tryd.prog 14 #[.string ⟨l.toArray⟩] w fun e w' => ResE w w' e := by
  have H1 := hid h1
  have H2 := hid h2
  clear h1 h2
  cases pre
  all_goals
    go_enter Tryd.func14, Tryd.ntmps14
    go_wp2_with (first | (go_at_call 49; refine (Tryd.strings_CutPrefix ⟨l.toArray⟩ ⟨#[126]⟩ _).mono ?_; rintro e w' ⟨rfl, rfl⟩; rw [show (⟨l.toArray⟩ : ByteArray).data.toList = l from rfl, show (⟨#[126]⟩ : ByteArray).data.toList = [126] from rfl, H1.out, H2.out]) | (go_at_call 50; refine (natParse_bad _ _ (by omega) hd).mono ?_; rintro e w1 ⟨rfl, k3⟩; obtain ⟨r0, r1, r2, r3, r4⟩ := new2 k3))
    have hB : Below w.heap.size w w1 := (below_alloc w _).trans (k3.mono (by simp))
    exact bodyPost_ret (by simp [results, Tryd.results14, go_sem, r0, r1, r4]) rfl ⟨rfl, (hB.setCell (by simp) _).setCell (by simp) _⟩

set_option maxHeartbeats 2000000 in
theorem parse_nought (l d : List UInt8) (w : World) (hl : l.length ≤ 274877906944) (hl2 : d.length ≤ l.length) (h1 : Lib.trimPrefix l [126] = d) (h2 : Lib.hasPrefix l [126] = true) (hd : isNum d = true) (h0 : rdr 0 d = 0) :
    Calls Tryd.prog 14 #[.string ⟨l.toArray⟩] w fun e w' => ResE w w' e := by
  have H1 := hid h1
  have H2 := hid h2
  have H0 := hid h0
  clear h1 h2 h0
  go_enter Tryd.func14, Tryd.ntmps14
  go_wp2_with (first | (go_at_call 49; refine (Tryd.strings_CutPrefix ⟨l.toArray⟩ ⟨#[126]⟩ _).mono ?_; rintro e w' ⟨rfl, rfl⟩; rw [show (⟨l.toArray⟩ : ByteArray).data.toList = l from rfl, show (⟨#[126]⟩ : ByteArray).data.toList = [126] from rfl, H1.out, H2.out]) | (go_at_call 50; refine (natParse_good _ _ (by omega) hd).mono ?_; rintro e w1 ⟨ap, np, cp, hp, rfl, k1, k2, k3, k4, k5⟩; obtain ⟨r0, r1, r2, r3, r4⟩ := new2 k3) | (go_at_call 51; refine (trim_any _ _ _ _ _ (by omega) k1).mono ?_; rintro e w2 ⟨at', nt, ct, ft, rfl, t1, t2, t3, t4, t5, t6⟩; have T5 := hid t5; clear t5; obtain ⟨hct, hft⟩ := bcell t3; have hz2 : w.heap.size < w2.heap.size := Nat.lt_of_lt_of_le r4 t3.size; have hne : nt = 0 := (t4.zero.1 (by rw [T5.out, k4.out]; exact H0.out)); subst hne))
  have hB : Below w.heap.size w w1 := (below_alloc w _).trans (k3.mono (by simp))
  have hB2 : Below w.heap.size w w2 := hB.trans (t3.mono hB.size)
  exact bodyPost_ret (by simp [results, Tryd.results14, go_sem, hct, r0, r1, r4, hz2]) rfl ⟨rfl, (hB2.setCell (by simp) _).setCell (by simp) _⟩

theorem parse_bad (l : List UInt8) (w : World) (hl : l.length ≤ 274877906944) (h : prs l = none) :
    Calls Tryd.prog 14 #[.string ⟨l.toArray⟩] w fun e w' => ResE w w' e := by
  unfold prs at h
  split at h
  · rename_i hh
    rcases l with _ | ⟨c, d⟩
    · cases hh
    · simp only [List.head?_cons, Option.some.injEq] at hh
      subst hh
      change (if isNum d = true ∧ rdr 0 d ≠ 0 then some (-(rdr 0 d : Int)) else none) = none at h
      obtain ⟨p1, p2⟩ := pre_cons d
      by_cases hq : isNum d = true ∧ rdr 0 d ≠ 0
      · rw [if_pos hq] at h; cases h
      · rcases hn : isNum d with _ | _
        · exact parse_no true (126 :: d) d w hl (by simp) p1 p2 hn
        · have h0 : rdr 0 d = 0 := by
            rcases Nat.eq_zero_or_pos (rdr 0 d) with q | q
            · exact q
            · exact absurd ⟨hn, by omega⟩ hq
          exact parse_nought (126 :: d) d w hl (by simp) p1 p2 hn h0
  · rename_i hh
    split at h
    · cases h
    · rename_i hq
      obtain ⟨p1, p2⟩ := pre_else l hh
      exact parse_no false l l w hl (Nat.le_refl _) p1 p2 (by simpa using hq)
end Go.Proofs.YticfggljaagcmaaDoor
