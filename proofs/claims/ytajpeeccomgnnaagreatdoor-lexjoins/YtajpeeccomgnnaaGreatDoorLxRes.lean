/-
  Reserved words: the pure law.
-/
import Derived.Test.YtajpeeccomgnnaaGreatDoorLx2
namespace Go.Proofs.YtajpeeccomgnnaaGreatDoor
set_option linter.all false
open Go Go.RowKit

def wordsL : List UInt8 := [32, 97, 110, 100, 32, 97, 110, 100, 97, 108, 115, 111, 32, 97, 115, 32, 99, 97, 115, 101, 32, 100, 97, 116, 97, 116, 121, 112, 101, 32, 100, 111, 32, 101, 108, 115, 101, 32, 101, 110, 100, 32, 101, 120, 99, 101, 112, 116, 105, 111, 110, 32, 102, 110, 32, 102, 117, 110, 32, 104, 97, 110, 100, 108, 101, 32, 105, 102, 32, 105, 110, 32, 105, 110, 102, 105, 120, 32, 105, 110, 102, 105, 120, 114, 32, 108, 101, 116, 32, 110, 111, 110, 102, 105, 120, 32, 111, 102, 32, 111, 112, 32, 111, 114, 101, 108, 115, 101, 32, 114, 97, 105, 115, 101, 32, 115, 105, 103, 32, 115, 105, 103, 110, 97, 116, 117, 114, 101, 32, 115, 116, 114, 117, 99, 116, 32, 115, 116, 114, 117, 99, 116, 117, 114, 101, 32, 116, 104, 101, 110, 32, 116, 121, 112, 101, 32, 118, 97, 108, 32, 119, 104, 105, 108, 101, 32]
def signsL : List UInt8 := [32, 45, 62, 32, 61, 62, 32, 58, 32, 58, 62, 32, 61, 32, 124, 32, 35, 32]
/-- The reserved words. -/
def resL : List (List UInt8) := [[97, 110, 100], [97, 110, 100, 97, 108, 115, 111], [97, 115], [99, 97, 115, 101], [100, 97, 116, 97, 116, 121, 112, 101], [100, 111], [101, 108, 115, 101], [101, 110, 100], [101, 120, 99, 101, 112, 116, 105, 111, 110], [102, 110], [102, 117, 110], [104, 97, 110, 100, 108, 101], [105, 102], [105, 110], [105, 110, 102, 105, 120], [105, 110, 102, 105, 120, 114], [108, 101, 116], [110, 111, 110, 102, 105, 120], [111, 102], [111, 112], [111, 114, 101, 108, 115, 101], [114, 97, 105, 115, 101], [115, 105, 103], [115, 105, 103, 110, 97, 116, 117, 114, 101], [115, 116, 114, 117, 99, 116], [115, 116, 114, 117, 99, 116, 117, 114, 101], [116, 104, 101, 110], [116, 121, 112, 101], [118, 97, 108], [119, 104, 105, 108, 101], [45, 62], [61, 62], [58], [58, 62], [61], [124], [35], [40], [41], [91], [93], [123], [125], [44], [59], [95]]
/-- Is a text one? -/
def rsv (l : List UInt8) : Bool := resL.contains l
/-- What stands between blanks. -/
def cands : List UInt8 → List (List UInt8)
  | [] => []
  | c :: l => (if c = 32 then [l.takeWhile (· != 32)] else []) ++ cands l
theorem take_blank {l r X : List UInt8} (hl : l.contains 32 = false) (h : X = l ++ 32 :: r) : X.takeWhile (· != 32) = l := by
  subst h
  induction l with
  | nil => simp
  | cons c l ih =>
    simp only [List.contains_cons, Bool.or_eq_false_iff] at hl
    have hc : (c != 32) = true := by
      have := hl.1
      simp only [beq_eq_false_iff_ne, ne_eq] at this
      simp only [bne_iff_ne, ne_eq]
      exact fun h => this h.symm
    rw [List.cons_append, List.takeWhile_cons, if_pos hc, ih hl.2]
theorem cands_of {l : List UInt8} (hl : l.contains 32 = false) : ∀ W : List UInt8, Lib.contains W (32 :: (l ++ [32])) = true → l ∈ cands W
  | [], h => by simp [Lib.contains, Lib.index] at h
  | c :: W, h => by
    unfold Lib.contains at h
    rw [Lib.index] at h
    split at h
    · rename_i hp
      obtain ⟨r, hr⟩ := List.isPrefixOf_iff_prefix.1 hp
      simp only [List.cons_append, List.append_assoc, List.nil_append, List.cons.injEq] at hr
      obtain ⟨rfl, hr⟩ := hr
      unfold cands
      rw [if_pos rfl, take_blank hl hr.symm]
      simp
    · have h2 : Lib.contains W (32 :: (l ++ [32])) = true := by
        unfold Lib.contains
        split at h
        · simp at h
        · rename_i hne
          have := Lib.index_ge W (32 :: (l ++ [32]))
          simp only [beq_iff_eq] at hne
          simp only [decide_eq_true_eq]
          omega
      have := cands_of hl W h2
      unfold cands
      exact List.mem_append_right _ this
theorem cands_words : ∀ x ∈ cands wordsL, x = [] ∨ rsv x = true := by decide +kernel
theorem cands_signs : ∀ x ∈ cands signsL, x = [] ∨ rsv x = true := by decide +kernel
theorem one_res : ∀ c ∈ oneL, rsv [c] = true := by decide +kernel
theorem idx_mem {c : UInt8} : ∀ l : List UInt8, (0 ≤ Lib.indexByte l c) ↔ c ∈ l
  | [] => by simp [Lib.indexByte]
  | b :: l => by
    have ih := idx_mem (c := c) l
    have hg := Lib.indexByte_ge l c
    rw [Lib.indexByte]
    by_cases hb : b = c
    · subst hb; simp
    · have hb' : (b == c) = false := by simpa using hb
      rw [if_neg (by rw [hb']; simp)]
      by_cases hi : Lib.indexByte l c = -1
      · rw [if_pos (by simpa using hi)]
        constructor
        · intro h; omega
        · intro h
          simp only [List.mem_cons] at h
          rcases h with h | h
          · exact absurd h.symm hb
          · have := ih.2 h; omega
      · rw [if_neg (by simpa using hi)]
        constructor
        · intro _; exact List.mem_cons_of_mem _ (ih.1 (by omega))
        · intro _; omega
/-- What the program asks. -/
def rsvP (l : List UInt8) : Bool := !l.isEmpty && !decide (0 ≤ Lib.indexByte l 32) && (Lib.contains wordsL (32 :: (l ++ [32])) || Lib.contains signsL (32 :: (l ++ [32])) || decide (l.length = 1) && Lib.contains oneL l)
theorem res_all : ∀ x ∈ resL, rsvP x = true := by decide +kernel
theorem rsv_mem {l : List UInt8} : rsv l = true ↔ l ∈ resL := by
  unfold rsv; exact List.contains_iff_mem
theorem contains_one {W : List UInt8} {c : UInt8} : Lib.contains W [c] = true → c ∈ W := by
  induction W with
  | nil => intro h; simp [Lib.contains, Lib.index] at h
  | cons b W ih =>
    intro h
    unfold Lib.contains at h
    rw [Lib.index] at h
    split at h
    · rename_i hp
      simp at hp
      simp [hp]
    · have hg := Lib.index_ge W [c]
      split at h
      · simp at h
      · rename_i hne
        simp only [beq_iff_eq] at hne
        exact List.mem_cons_of_mem _ (ih (by unfold Lib.contains; simp only [decide_eq_true_eq]; omega))
theorem rsv_eq (l : List UInt8) : rsvP l = rsv l := by
  rcases hr : rsv l with _ | _
  · rcases hp : rsvP l with _ | _
    · rfl
    · exfalso
      unfold rsvP at hp
      simp only [Bool.and_eq_true, Bool.or_eq_true, Bool.not_eq_true', List.isEmpty_eq_false_iff, decide_eq_false_iff_not, decide_eq_true_eq] at hp
      obtain ⟨⟨h0, h1⟩, h2⟩ := hp
      have hl : l.contains 32 = false := by
        rcases hc : l.contains 32 with _ | _
        · rfl
        · exact absurd ((idx_mem l).2 (List.contains_iff_mem.1 hc)) h1
      rcases h2 with (h2 | h2) | h2
      · rcases cands_words l (cands_of hl _ h2) with h | h
        · exact h0 h
        · rw [hr] at h; cases h
      · rcases cands_signs l (cands_of hl _ h2) with h | h
        · exact h0 h
        · rw [hr] at h; cases h
      · obtain ⟨c, rfl⟩ := List.length_eq_one_iff.1 h2.1
        have := one_res c (contains_one h2.2)
        rw [hr] at this; cases this
  · exact res_all l (rsv_mem.1 hr)
end Go.Proofs.YtajpeeccomgnnaaGreatDoor
