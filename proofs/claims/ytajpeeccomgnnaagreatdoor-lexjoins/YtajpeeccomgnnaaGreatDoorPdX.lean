/-
  The decimal's steps as functions on its state. Plain.
-/
import Derived.Test.YtajpeeccomgnnaaGreatDoorPdQ
namespace Go.Proofs.YtajpeeccomgnnaaGreatDoor
set_option linter.all false
open Go

structure Sd where
  D : Nat → Nat
  nd : Nat
  dp : Int
  tr : Bool
structure SdOk (S : Sd) : Prop where
  pos : 0 < S.nd
  le : S.nd ≤ 800
  dg : Digs S.D S.nd
  top : S.D 0 ≠ 48
/-- A left shift's new digits, by the table. -/
def dlOf (cd : Nat → Nat) (cs : Nat → ByteArray) (k : Nat) (S : Sd) : Nat :=
  if lessP S.D S.nd (bt (cs k)) (cs k).size 0 = true then cd k - 1 else cd k
def shl (cd : Nat → Nat) (cs : Nat → ByteArray) (k : Nat) (S : Sd) : Sd :=
  let dl := dlOf cd cs k S
  ⟨lD S.D S.nd k dl, trimN (lD S.D S.nd k dl) (min (S.nd + dl) 800), IntKind.i64.wrap (S.dp + (dl : Nat)), lT S.D S.nd k dl S.tr S.nd⟩
def Cheats (cd : Nat → Nat) (cs : Nat → ByteArray) : Prop := ∀ k, 1 ≤ k → k ≤ 60 → Cheat k (cd k) (cs k).size (bt (cs k))
theorem shl_exact {cd : Nat → Nat} {cs : Nat → ByteArray} {k : Nat} {S : Sd} (hc : Cheats cd cs) (h1 : 1 ≤ k) (h60 : k ≤ 60) (h : SdOk S) : Exact S.D S.nd k (dlOf cd cs k S) := Exact.of h.dg h.pos h.top (hc k h1 h60)
theorem shl_ok {cd : Nat → Nat} {cs : Nat → ByteArray} {k : Nat} {S : Sd} (hc : Cheats cd cs) (h1 : 1 ≤ k) (h60 : k ≤ 60) (h : SdOk S) : SdOk (shl cd cs k S) := by
  have he := shl_exact hc h1 h60 h
  obtain ⟨p, l, d, t⟩ := h
  unfold shl
  generalize dlOf cd cs k S = dl at *
  have ht := (lD_top d p t h1 he).1
  have hl := trimN_le (lD S.D S.nd k dl) (min (S.nd + dl) 800)
  refine ⟨trimN_pos ht _ (by omega), by show trimN _ _ ≤ 800; omega, ?_, ht⟩
  show Digs _ (trimN _ _)
  intro i hi
  exact lD_digs (m := min (S.nd + dl) 800) (by omega) (by omega) i (by omega)
theorem shl_dp {cd : Nat → Nat} {cs : Nat → ByteArray} {k : Nat} {S : Sd} (hc : Cheats cd cs) (h1 : 1 ≤ k) (h60 : k ≤ 60) (h : SdOk S) :
    ∃ dl : Nat, dl ≤ 60 ∧ (shl cd cs k S).dp = IntKind.i64.wrap (S.dp + (dl : Nat)) ∧ (dl = 0 → S.D 0 < (shl cd cs k S).D 0) := by
  have he := shl_exact hc h1 h60 h
  refine ⟨dlOf cd cs k S, ?_, rfl, fun e => ?_⟩
  · have := (hc k h1 h60).two
    have := (hc k h1 h60).len
    have := (hc k h1 h60).pos
    unfold dlOf; split <;> omega
  · exact (lD_top h.dg h.pos h.top h1 he).2 e
/-- A right shift: how many digits it reads first, how many it puts down. -/
structure Rsh (k : Nat) (S : Sd) (R J : Nat) : Prop where
  r0 : 0 < R
  r1 : R ≤ k + 1
  lo : 2 ^ k ≤ dval (ext S.D S.nd) R
  hi : dval (ext S.D S.nd) R < 10 * 2 ^ k
  bf : ∀ j, j < R → dval (ext S.D S.nd) j < 2 ^ k
  j0 : S.nd ≤ R + J
  jr : R ≤ S.nd → S.nd - R ≤ J
  z : rn (ext S.D S.nd) k R J = 0
  nz : ∀ j, S.nd ≤ R + j → j < J → rn (ext S.D S.nd) k R j ≠ 0
theorem rsh_ex (k : Nat) {S : Sd} (h : SdOk S) : ∃ R J, Rsh k S R J := by
  obtain ⟨R, r0, r1, lo, hi, bf⟩ := first_ex k h.dg h.pos h.top
  obtain ⟨J, j0, j1, z, nz⟩ := end_ex (X := ext S.D S.nd) (k := k) (R := R) (J0 := S.nd - R) (fun i hi => ext_out (by omega))
  exact ⟨R, J, r0, r1, lo, hi, bf, by omega, fun _ => j0, z, fun j a b => nz j (by omega) b⟩
def shrW (k : Nat) (S : Sd) (R J : Nat) : Sd :=
  ⟨rE S.D (ext S.D S.nd) k R J, trimN (rE S.D (ext S.D S.nd) k R J) (min J 800), IntKind.i64.wrap (S.dp - IntKind.i64.wrap ((R : Nat) - 1)), rT (ext S.D S.nd) k R S.tr J⟩
theorem Rsh.jpos {k : Nat} {S : Sd} {R J : Nat} (h : Rsh k S R J) : 0 < J := by
  rcases J with _ | J
  · have := h.z
    have h2 := h.lo
    have hp : 0 < (2 : Nat) ^ k := Nat.pow_pos (by omega)
    rw [rn] at this; omega
  · omega
open Classical in
noncomputable def shr (k : Nat) (S : Sd) : Sd := if h : SdOk S then shrW k S (Classical.choose (rsh_ex k h)) (Classical.choose (Classical.choose_spec (rsh_ex k h))) else S
theorem shr_spec (k : Nat) {S : Sd} (h : SdOk S) : ∃ R J, Rsh k S R J ∧ shr k S = shrW k S R J := by
  refine ⟨_, _, Classical.choose_spec (Classical.choose_spec (rsh_ex k h)), ?_⟩
  unfold shr
  rw [dif_pos h]
theorem shrW_ok {k : Nat} {S : Sd} {R J : Nat} (h : SdOk S) (r : Rsh k S R J) : SdOk (shrW k S R J) := by
  have hX := fun m => ext_digs h.dg m
  have hj := r.jpos
  have ht : rE S.D (ext S.D S.nd) k R J 0 ≠ 48 := by
    rw [rE_top hX r.hi hj]
    have : 0 < dval (ext S.D S.nd) R / 2 ^ k := Nat.div_pos r.lo (Nat.pow_pos (by omega))
    omega
  unfold shrW
  have hl := trimN_le (rE S.D (ext S.D S.nd) k R J) (min J 800)
  refine ⟨trimN_pos ht _ (by omega), by show trimN _ _ ≤ 800; omega, ?_, ht⟩
  show Digs _ (trimN _ _)
  intro i hi
  exact rE_digs hX r.hi (m := min J 800) (by omega) (by omega) i (by omega)
theorem shr_ok {k : Nat} {S : Sd} (h : SdOk S) : SdOk (shr k S) := by
  obtain ⟨R, J, r, e⟩ := shr_spec k h
  rw [e]; exact shrW_ok h r
theorem shr_dp {k : Nat} {S : Sd} (h3 : 3 ≤ k) (h60 : k ≤ 60) (h : SdOk S) (hd : 0 < S.dp) (hd2 : S.dp ≤ 1000000) :
    (shr k S).dp ≤ S.dp ∧ -100 ≤ (shr k S).dp ∧ (2 * (shr k S).dp + (if 56 ≤ (shr k S).D 0 then 1 else 0) < 2 * S.dp + (if 56 ≤ S.D 0 then 1 else 0)) := by
  obtain ⟨R, J, r, e⟩ := shr_spec k h
  rw [e]
  have hX := fun m => ext_digs h.dg m
  have r0 := r.r0
  have r1 := r.r1
  have e1 : (shrW k S R J).dp = S.dp - ((R : Nat) - 1) := by
    show IntKind.i64.wrap (S.dp - IntKind.i64.wrap ((R : Nat) - 1)) = _
    rw [IntWalk.i64_in ((R : Int) - 1) (by omega)]
    exact IntWalk.i64_in _ (by omega)
  have e2 : (shrW k S R J).D 0 = dval (ext S.D S.nd) R / 2 ^ k + 48 := rE_top hX r.hi r.jpos
  rw [e1]
  refine ⟨by omega, by omega, ?_⟩
  rw [e2]
  rcases Nat.lt_or_ge R 2 with c | c
  · obtain rfl : R = 1 := by omega
    have h1 : dval (ext S.D S.nd) 1 = S.D 0 - 48 := by simp [dval, ext_in h.pos]
    have hd0 := h.dg 0 h.pos
    have lo := r.lo
    rw [h1] at lo ⊢
    have h8 : 2 ^ 3 ≤ 2 ^ k := Nat.pow_le_pow_right (by omega) h3
    have hle : (S.D 0 - 48) / 2 ^ k ≤ 1 := by
      have : (S.D 0 - 48) / 2 ^ k < 2 := Nat.div_lt_of_lt_mul (by omega)
      omega
    rw [if_neg (by omega), if_pos (by omega)]
    omega
  · split <;> split <;> omega
/-- Shifts by any count: at most sixty at once. -/
def shL (cd : Nat → Nat) (cs : Nat → ByteArray) (k : Nat) (S : Sd) : Sd := if 60 < k then shL cd cs (k - 60) (shl cd cs 60 S) else shl cd cs k S
noncomputable def shR (k : Nat) (S : Sd) : Sd := if 60 < k then shR (k - 60) (shr 60 S) else shr k S
theorem shL_ok {cd : Nat → Nat} {cs : Nat → ByteArray} (hc : Cheats cd cs) : ∀ {k : Nat} {S : Sd}, 1 ≤ k → SdOk S → SdOk (shL cd cs k S) := by
  intro k
  induction k using Nat.strongRecOn with
  | ind k ih =>
    intro S h1 h
    unfold shL
    split
    · exact ih (k - 60) (by omega) (by omega) (shl_ok hc (by omega) (by omega) h)
    · exact shl_ok hc h1 (by omega) h
theorem shR_ok : ∀ {k : Nat} {S : Sd}, SdOk S → SdOk (shR k S) := by
  intro k
  induction k using Nat.strongRecOn with
  | ind k ih =>
    intro S h
    unfold shR
    split
    · exact ih (k - 60) (by omega) (shr_ok h)
    · exact shr_ok h
/-- Any shift. -/
noncomputable def shS (cd : Nat → Nat) (cs : Nat → ByteArray) (k : Int) (S : Sd) : Sd :=
  if 0 < k then shL cd cs k.toNat S else if k < 0 then shR (-k).toNat S else S
theorem shS_ok {cd : Nat → Nat} {cs : Nat → ByteArray} (hc : Cheats cd cs) {k : Int} {S : Sd} (h : SdOk S) : SdOk (shS cd cs k S) := by
  unfold shS
  split
  · exact shL_ok hc (by omega) h
  · split
    · exact shR_ok h
    · exact h
end Go.Proofs.YtajpeeccomgnnaaGreatDoor
