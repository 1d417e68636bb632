/-
  blanks, walked.
-/
import Derived.Test.YtajpeeccomgnnaaGreatDoorLxName
namespace Go.Proofs.YtajpeeccomgnnaaGreatDoor
set_option linter.all false
open Go Go.RowKit

theorem St.at {w : World} {b : Nat} {s : ByteArray} {p p' : Nat} {ts : List Tok} {base : Nat} (h : St w b s p ts base) (hp : p ≤ p') : St (w.setCell ⟨b, 1, none⟩ (.int .i64 (p' : Nat))) b s p' ts base := by
  obtain ⟨la, lc, h1, h2, h3, h4, h5, h6⟩ := h
  have c1 := h1.c1
  have u : UsK w (w.setCell ⟨b, 1, none⟩ (.int .i64 (p' : Nat))) := (UsK.refl w).set c1 (fun _ h => by cases h) _
  refine ⟨la, lc, ⟨by simpa using h1.lt, ?_, ?_, ?_, ?_, ?_, fun o => by simpa using h1.fr o⟩, ?_, h3.set _ _, h4, fun x off e => by simpa using h5 x off e, by omega⟩
  · rw [World.cell?_setCell_other _ _ _ _ (by intro h; simp at h)]; exact h1.c0
  · rw [World.cell?_setCell_same _ _ _ c1]
  · rw [World.cell?_setCell_other _ _ _ _ (by intro h; simp at h)]; exact h1.c2
  · rw [World.cell?_setCell_other _ _ _ _ (by intro h; simp at h)]; exact h1.c3
  · rw [World.cell?_setCell_other _ _ _ _ (by intro h; simp at h)]; exact h1.c4
  · obtain ⟨hh, A, e, z, tk⟩ := h2
    refine ⟨hh, ⟨A.le, A.mx, fun j hj => ?_⟩, e, z, fun i t ht => (tk i t ht).keep u⟩
    obtain ⟨x, off, ea, hc⟩ := A.cell j hj
    refine ⟨x, off, ea, ?_⟩
    have := (h5 x off ea).1
    rw [World.cell?_setCell_other _ _ _ _ (by intro h; simp only [Addr.mk.injEq] at h; omega)]
    exact hc
theorem St.usAt {w : World} {b : Nat} {s : ByteArray} {p : Nat} {ts : List Tok} {base : Nat} (h : St w b s p ts base) (v : Value) : UsK w (w.setCell ⟨b, 1, none⟩ v) := by
  obtain ⟨la, lc, h1, _⟩ := h
  exact (UsK.refl w).set h1.c1 (fun _ h => by cases h) _
theorem St.base {w : World} {b : Nat} {s : ByteArray} {p : Nat} {ts : List Tok} {base : Nat} (h : St w b s p ts base) : base ≤ b := by
  obtain ⟨la, lc, _, _, _, h4, _⟩ := h; exact h4
theorem bt_in2 {s : ByteArray} {i : Nat} {c : Nat} (h : bt s i = c) (hc : c ≠ 0) : i < s.size := bt_in (by omega)
theorem blankS_fuel (s : ByteArray) : ∀ m m' d i, i ≤ s.size → s.size + 1 ≤ m + i → s.size + 1 ≤ m' + i → blankS s m d i = blankS s m' d i := by
  intro m
  induction m with
  | zero => intro m' d i hi h h'; omega
  | succ m ih =>
    intro m' d i hi h h'
    obtain ⟨m', rfl⟩ : ∃ k, m' = k + 1 := ⟨m' - 1, by omega⟩
    unfold blankS
    by_cases hA : bt s i = 40 ∧ bt s (i + 1) = 42
    · have h1 := bt_in2 hA.2 (by omega)
      rw [if_pos hA, if_pos hA, ih m' (d + 1) (i + 2) (by omega) (by omega) (by omega)]
    · rw [if_neg hA, if_neg hA]
      by_cases hB : 0 < d ∧ bt s i = 42 ∧ bt s (i + 1) = 41
      · have h1 := bt_in2 hB.2.2 (by omega)
        rw [if_pos hB, if_pos hB, ih m' (d - 1) (i + 2) (by omega) (by omega) (by omega)]
      · rw [if_neg hB, if_neg hB]
        by_cases hC : 0 < d ∧ s.size ≤ i
        · rw [if_pos hC, if_pos hC]
        · rw [if_neg hC, if_neg hC]
          by_cases hD : 0 < d ∨ i < s.size ∧ (bt s i = 32 ∨ bt s i = 9 ∨ bt s i = 10 ∨ bt s i = 13)
          · rw [if_pos hD, if_pos hD, ih m' d (i + 1) (by omega) (by omega) (by omega)]
          · rw [if_neg hD, if_neg hD]
def blankE (s : ByteArray) (d i : Nat) : Option Nat := blankS s (s.size + 2 - i) d i
theorem blankE_unfold {s : ByteArray} {d i : Nat} (hi : i ≤ s.size) : blankE s d i =
    if bt s i = 40 ∧ bt s (i + 1) = 42 then blankE s (d + 1) (i + 2)
    else if 0 < d ∧ bt s i = 42 ∧ bt s (i + 1) = 41 then blankE s (d - 1) (i + 2)
    else if 0 < d ∧ s.size ≤ i then none
    else if 0 < d ∨ i < s.size ∧ (bt s i = 32 ∨ bt s i = 9 ∨ bt s i = 10 ∨ bt s i = 13) then blankE s d (i + 1)
    else some i := by
  unfold blankE
  obtain ⟨m, hm⟩ : ∃ m, s.size + 2 - i = m + 1 := ⟨s.size + 1 - i, by omega⟩
  rw [hm]
  conv => lhs; unfold blankS
  by_cases hA : bt s i = 40 ∧ bt s (i + 1) = 42
  · have h1 := bt_in2 hA.2 (by omega)
    rw [if_pos hA, if_pos hA, blankS_fuel s m (s.size + 2 - (i + 2)) (d + 1) (i + 2) (by omega) (by omega) (by omega)]
  · rw [if_neg hA, if_neg hA]
    by_cases hB : 0 < d ∧ bt s i = 42 ∧ bt s (i + 1) = 41
    · have h1 := bt_in2 hB.2.2 (by omega)
      rw [if_pos hB, if_pos hB, blankS_fuel s m (s.size + 2 - (i + 2)) (d - 1) (i + 2) (by omega) (by omega) (by omega)]
    · rw [if_neg hB, if_neg hB]
      by_cases hC : 0 < d ∧ s.size ≤ i
      · rw [if_pos hC, if_pos hC]
      · rw [if_neg hC, if_neg hC]
        by_cases hD : 0 < d ∨ i < s.size ∧ (bt s i = 32 ∨ bt s i = 9 ∨ bt s i = 10 ∨ bt s i = 13)
        · rw [if_pos hD, if_pos hD, blankS_fuel s m (s.size + 2 - (i + 1)) d (i + 1) (by omega) (by omega) (by omega)]
        · rw [if_neg hD, if_neg hD]
def scPos (w : World) (b : Nat) : Nat := (intOf ((w.cell? ⟨b, 1, none⟩).getD (.int .i64 0))).toNat
def scGo (w : World) (b : Nat) : Nat := if intOf ((w.cell? ⟨b, 3, none⟩).getD (.int .i64 0)) = 0 then 1 else 0
theorem Sc.pos {w : World} {b : Nat} {s : ByteArray} {p : Nat} {la : Option Addr} {ln lc : Nat} {code mat : Int} (h : Sc w b s p la ln lc code mat) : scPos w b = p := by
  unfold scPos; rw [h.c1]; rfl
theorem Sc.go {w : World} {b : Nat} {s : ByteArray} {p : Nat} {la : Option Addr} {ln lc : Nat} {code mat : Int} (h : Sc w b s p la ln lc code mat) : scGo w b = if code = 0 then 1 else 0 := by
  unfold scGo; rw [h.c3]; rfl
def zr (w : World) (b : Nat) (s : ByteArray) : Nat := 2 * (s.size - scPos w b) + scGo w b
theorem St.zr {w : World} {b : Nat} {s : ByteArray} {p : Nat} {ts : List Tok} {base : Nat} (h : St w b s p ts base) : zr w b s = 2 * (s.size - p) + 1 := by
  obtain ⟨la, lc, h1, _⟩ := h
  unfold Go.Proofs.YtajpeeccomgnnaaGreatDoor.zr
  rw [h1.pos, h1.go]; rfl
theorem zr_at {w : World} {b : Nat} {s : ByteArray} {p p' : Nat} {ts : List Tok} {base : Nat} {v : Value} (h : St w b s p ts base) (hv : v = .int .i64 (p' : Nat)) (hp : p ≤ p') : Go.Proofs.YtajpeeccomgnnaaGreatDoor.zr (w.setCell ⟨b, 1, none⟩ v) b s = 2 * (s.size - p') + 1 := by
  subst hv; exact (h.at hp).zr
/-- What a scanner holds behind blanks. -/
def OutB (w w' : World) (b : Nat) (s : ByteArray) (ts : List Tok) (base : Nat) (e : Ending) (r : Option Nat) : Prop :=
  e = .returned (.tuple #[]) ∧ Below base w w' ∧ UsK w w' ∧
  match r with
  | some q => St w' b s q ts base ∧ q ≤ s.size
  | none => ∃ p la ln lc, Sc w' b s p la ln lc 31 (s.size : Nat)
def BR (w : World) (b : Nat) (s : ByteArray) (ts : List Tok) (base : Nat) (R : Option Nat) (dv : Value) (wr : World) : Prop :=
  (∃ d p : Nat, dv = .int .i64 (d : Nat) ∧ d ≤ p ∧ p ≤ s.size ∧ St wr b s p ts base ∧ Below base w wr ∧ UsK w wr ∧ Hid (blankE s d p = R)) ∨
  (∃ p la ln lc, Sc wr b s p la ln lc 31 (s.size : Nat) ∧ p = s.size ∧ Below base w wr ∧ UsK w wr ∧ R = none)

end Go.Proofs.YtajpeeccomgnnaaGreatDoor
