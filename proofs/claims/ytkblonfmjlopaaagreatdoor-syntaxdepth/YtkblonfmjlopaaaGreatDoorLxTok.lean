/-
  The lexer's kinds of bytes.
-/
import Derived.Test.YtkblonfmjlopaaaGreatDoorLx1
import Derived.BigQuiet
import Derived.Deep.RegionHeld3
set_option linter.all false
set_option maxRecDepth 1000000
set_option maxHeartbeats 16000000
namespace Go.Proofs.YtkblonfmjlopaaaGreatDoor
open Go Go.RowKit
def isLet (c : Nat) : Bool := decide (97 ≤ c ∧ c ≤ 122 ∨ 65 ≤ c ∧ c ≤ 90)
def isDig (c : Nat) : Bool := decide (48 ≤ c ∧ c ≤ 57)
def isNam (c : Nat) : Bool := isLet c || isDig c || decide (c = 95) || decide (c = 39)
def symL : List UInt8 := [33, 37, 38, 36, 35, 43, 45, 47, 58, 60, 61, 62, 63, 64, 92, 126, 96, 94, 124, 42]
def oneL : List UInt8 := [40, 41, 91, 93, 123, 125, 44, 59, 95]
def isSym (c : Nat) : Bool := decide (0 ≤ Lib.indexByte symL c.toUInt8)
def isOne (c : Nat) : Bool := decide (0 ≤ Lib.indexByte oneL c.toUInt8)
theorem let_bits : ∀ c : Nat, c < 256 → (isLet c = (decide (97 ≤ bits .or .u8 (c : Int) 32) && decide (bits .or .u8 (c : Int) 32 ≤ 122))) := by decide +kernel
theorem letter_any (c : Nat) (w : World) (hc : c < 256) :
    Calls Tryz.prog 49 #[.int .u8 (c : Nat)] w fun e w' => e = .returned (.bool (isLet c)) ∧ w' = w := by
  have hb := hid (let_bits c hc); go_enter Tryz.func49, Tryz.ntmps49
  go_wp2
  · have h : 97 ≤ bits .or .u8 (c : Int) 32 := by assumption
    go_ret; refine ⟨?_, rfl⟩; rw [hb.out, decide_eq_true h, Bool.true_and]; rfl
  · have h : bits .or .u8 (c : Int) 32 < 97 := by assumption
    go_ret; refine ⟨?_, rfl⟩; rw [hb.out, decide_eq_false (by omega), Bool.false_and]; rfl
theorem digit_any (c : Nat) (w : World) (hc : c < 256) :
    Calls Tryz.prog 51 #[.int .u8 (c : Nat)] w fun e w' => e = .returned (.bool (isDig c)) ∧ w' = w := by
  go_enter Tryz.func51, Tryz.ntmps51
  go_wp2
  · have h : (48 : Int) ≤ c := by assumption
    go_ret; refine ⟨?_, rfl⟩; have e : isDig c = decide ((c : Int) ≤ 57) := by unfold isDig; rw [decide_eq_decide]; omega
    rw [e]; rfl
  · have h : (c : Int) < 48 := by assumption
    go_ret; refine ⟨?_, rfl⟩; have e : isDig c = false := by unfold isDig; rw [decide_eq_false_iff_not]; omega
    rw [e]; rfl
theorem inName_any (c : Nat) (w : World) (hc : c < 256) :
    Calls Tryz.prog 56 #[.int .u8 (c : Nat)] w fun e w' => e = .returned (.bool (isNam c)) ∧ w' = w := by
  rcases hl : isLet c with _ | _
  · rcases hd : isDig c with _ | _
    · go_enter Tryz.func56, Tryz.ntmps56
      go_wp2_with (first | (go_at_call 49; refine (letter_any _ _ hc).mono ?_; rintro e w' ⟨rfl, rfl⟩; rw [hl]) | (go_at_call 51; refine (digit_any _ _ hc).mono ?_; rintro e w' ⟨rfl, rfl⟩; rw [hd]))
      · have h : (c : Int) = 95 := by assumption
        go_ret; have h2 : c = 95 := by omega
        subst h2; exact ⟨rfl, rfl⟩
      · have h : ¬ (c : Int) = 95 := by assumption
        go_ret; refine ⟨?_, rfl⟩
        have e : isNam c = ((c : Int) == 95 || (c : Int) == 39) := by
          unfold isNam; rw [hl, hd]
          by_cases h3 : c = 39
          · subst h3; rfl
          · have h4 : ¬ c = 95 := by omega
            simp [h3, h4]; omega
        rw [e]; rfl
    · go_enter Tryz.func56, Tryz.ntmps56
      go_wp2_with (first | (go_at_call 49; refine (letter_any _ _ hc).mono ?_; rintro e w' ⟨rfl, rfl⟩; rw [hl]) | (go_at_call 51; refine (digit_any _ _ hc).mono ?_; rintro e w' ⟨rfl, rfl⟩; rw [hd]))
      go_ret; exact ⟨by unfold isNam; rw [hl, hd]; rfl, rfl⟩
  · go_enter Tryz.func56, Tryz.ntmps56
    go_wp2_with (go_at_call 49; refine (letter_any _ _ hc).mono ?_; rintro e w' ⟨rfl, rfl⟩; rw [hl])
    go_ret; exact ⟨by unfold isNam; rw [hl]; rfl, rfl⟩
theorem symbol_any (c : Nat) (w : World) (hc : c < 256) :
    Calls Tryz.prog 59 #[.int .u8 (c : Nat)] w fun e w' => e = .returned (.bool (isSym c)) ∧ w' = w := by
  go_enter Tryz.func59, Tryz.ntmps59
  go_wp2_with (go_at_call 57; refine (Tryz.strings_IndexByte _ _ _).mono ?_; rintro e w' ⟨rfl, rfl⟩)
  go_ret; exact ⟨rfl, rfl⟩
def runN (p : Nat → Bool) (s : ByteArray) : Nat → Nat → Nat
  | 0, i => i
  | k + 1, i => if i < s.size ∧ p (bt s i) = true then runN p s k (i + 1) else i
def runE (p : Nat → Bool) (s : ByteArray) (i : Nat) : Nat := runN p s (s.size - i) i
theorem runE_step {p : Nat → Bool} {s : ByteArray} {i : Nat} (h : i < s.size) (hp : p (bt s i) = true) : runE p s i = runE p s (i + 1) := by
  unfold runE; rw [show s.size - i = (s.size - (i + 1)) + 1 by omega, runN, if_pos ⟨h, hp⟩]
theorem runE_stop {p : Nat → Bool} {s : ByteArray} {i : Nat} (h : ¬ (i < s.size ∧ p (bt s i) = true)) : runE p s i = i := by
  unfold runE; cases s.size - i with
  | zero => rfl
  | succ k => rw [runN, if_neg h]
theorem while_digit (b : Nat) (s : ByteArray) (p n : Nat) (la : Option Addr) (ln lc : Nat) (code mat : Int) (w : World) (hs : s.size ≤ 1099511627776) (hp : p + n ≤ s.size) (h : Sc w b s p la ln lc code mat) :
    Calls Tryz.prog 55 #[.pointer (some ⟨b, 0, none⟩), .int .i64 (n : Nat), .func (.func 51) #[] #[]] w fun e w' => e = .returned (.string (s.extract (p + n) (runE isDig s (p + n)))) ∧ ∃ q, w' = w.drewN q := by
  obtain ⟨_, c0, c1, _, _, _, _⟩ := h; go_enter Tryz.func55, Tryz.ntmps55
  go_wp2
  go_loopw [7] (fun kv wr => (∃ q, wr = w.drewN q) ∧ ∃ k : Nat, n ≤ k ∧ p + k ≤ s.size ∧ kv = .int .i64 (k : Nat) ∧ Hid (runE isDig s (p + n) = runE isDig s (p + k))) (fun kv _ => s.size - (intOf kv).toNat)
  case atStart => exact ⟨⟨0, rfl⟩, n, Nat.le_refl _, hp, rfl, hid rfl⟩
  case round =>
    obtain ⟨⟨q, rfl⟩, k, hk, hkp, rfl, HR⟩ := hrel
    by_cases hc : p + k < s.size
    · have hci : (p : Int) + (k : Int) < (s.size : Int) := by omega
      have hwr : IntKind.i64.wrap ((p : Int) + (k : Int)) = (p : Int) + (k : Int) := IntWalk.i64_in _ (by omega); have hix : ∀ w, (Instr.index 9 (.string s) (.int .i64 ((p : Int) + (k : Int)))).run Tryz.prog w = .ok (.int .u8 (bt s (p + k) : Nat)) w := fun w => run_bt Tryz.underlying9 hc rfl
      rcases hp2 : isDig (bt s (p + k)) with _ | _
      · go_wp2
        go_quiet ((refine (digit_any _ _ (bt_lt _ _)).mono ?_; rintro e w' ⟨rfl, rfl⟩; exact ⟨congrArg (fun x => Ending.returned (Value.bool x)) hp2, _, rfl⟩))
        go_wp2
        have hwn : IntKind.i64.wrap ((p : Int) + (n : Int)) = (p : Int) + (n : Int) := IntWalk.i64_in _ (by omega); have hp2' := hid hp2; clear hix hp2
        go_quiet (fail)
        go_wp2
        go_ret; refine ⟨?_, _, by rw [World.drewN_drewN, World.drewN_drewN]⟩; have e : runE isDig s (p + n) = p + k := by rw [HR.out, runE_stop (by rw [hp2'.out]; simp)]
        rw [e]
        rfl
      · go_wp2
        go_quiet ((refine (digit_any _ _ (bt_lt _ _)).mono ?_; rintro e w' ⟨rfl, rfl⟩; exact ⟨congrArg (fun x => Ending.returned (Value.bool x)) hp2, _, rfl⟩))
        go_wp2
        exact ⟨⟨⟨_, rfl⟩, k + 1, by omega, by omega, rfl, hid (by rw [HR.out, runE_step hc hp2]; rfl)⟩, by simp [intOf]; omega⟩
    · have hci : (s.size : Int) ≤ (p : Int) + (k : Int) := by omega
      have hd : decide ((p : Int) + (k : Int) < (s.size : Int)) = false := by rw [decide_eq_false_iff_not]; omega
      have hwr : IntKind.i64.wrap ((p : Int) + (k : Int)) = (p : Int) + (k : Int) := IntWalk.i64_in _ (by omega)
      go_wp2
      go_quiet (fail)
      go_wp2
      have hwn : IntKind.i64.wrap ((p : Int) + (n : Int)) = (p : Int) + (n : Int) := IntWalk.i64_in _ (by omega); clear hd
      go_quiet (fail)
      go_wp2
      go_ret; refine ⟨?_, _, by rw [World.drewN_drewN, World.drewN_drewN]⟩; have e : runE isDig s (p + n) = p + k := by rw [HR.out, runE_stop (fun h => hc h.1)]
      rw [e]
      rfl
theorem while_name (b : Nat) (s : ByteArray) (p n : Nat) (la : Option Addr) (ln lc : Nat) (code mat : Int) (w : World) (hs : s.size ≤ 1099511627776) (hp : p + n ≤ s.size) (h : Sc w b s p la ln lc code mat) :
    Calls Tryz.prog 55 #[.pointer (some ⟨b, 0, none⟩), .int .i64 (n : Nat), .func (.func 56) #[] #[]] w fun e w' => e = .returned (.string (s.extract (p + n) (runE isNam s (p + n)))) ∧ ∃ q, w' = w.drewN q := by
  obtain ⟨_, c0, c1, _, _, _, _⟩ := h; go_enter Tryz.func55, Tryz.ntmps55
  go_wp2
  go_loopw [7] (fun kv wr => (∃ q, wr = w.drewN q) ∧ ∃ k : Nat, n ≤ k ∧ p + k ≤ s.size ∧ kv = .int .i64 (k : Nat) ∧ Hid (runE isNam s (p + n) = runE isNam s (p + k))) (fun kv _ => s.size - (intOf kv).toNat)
  case atStart => exact ⟨⟨0, rfl⟩, n, Nat.le_refl _, hp, rfl, hid rfl⟩
  case round =>
    obtain ⟨⟨q, rfl⟩, k, hk, hkp, rfl, HR⟩ := hrel
    by_cases hc : p + k < s.size
    · have hci : (p : Int) + (k : Int) < (s.size : Int) := by omega
      have hwr : IntKind.i64.wrap ((p : Int) + (k : Int)) = (p : Int) + (k : Int) := IntWalk.i64_in _ (by omega); have hix : ∀ w, (Instr.index 9 (.string s) (.int .i64 ((p : Int) + (k : Int)))).run Tryz.prog w = .ok (.int .u8 (bt s (p + k) : Nat)) w := fun w => run_bt Tryz.underlying9 hc rfl
      rcases hp2 : isNam (bt s (p + k)) with _ | _
      · go_wp2
        go_quiet ((refine (inName_any _ _ (bt_lt _ _)).mono ?_; rintro e w' ⟨rfl, rfl⟩; exact ⟨congrArg (fun x => Ending.returned (Value.bool x)) hp2, _, rfl⟩))
        go_wp2
        have hwn : IntKind.i64.wrap ((p : Int) + (n : Int)) = (p : Int) + (n : Int) := IntWalk.i64_in _ (by omega); have hp2' := hid hp2; clear hix hp2
        go_quiet (fail)
        go_wp2
        go_ret; refine ⟨?_, _, by rw [World.drewN_drewN, World.drewN_drewN]⟩; have e : runE isNam s (p + n) = p + k := by rw [HR.out, runE_stop (by rw [hp2'.out]; simp)]
        rw [e]
        rfl
      · go_wp2
        go_quiet ((refine (inName_any _ _ (bt_lt _ _)).mono ?_; rintro e w' ⟨rfl, rfl⟩; exact ⟨congrArg (fun x => Ending.returned (Value.bool x)) hp2, _, rfl⟩))
        go_wp2
        exact ⟨⟨⟨_, rfl⟩, k + 1, by omega, by omega, rfl, hid (by rw [HR.out, runE_step hc hp2]; rfl)⟩, by simp [intOf]; omega⟩
    · have hci : (s.size : Int) ≤ (p : Int) + (k : Int) := by omega
      have hd : decide ((p : Int) + (k : Int) < (s.size : Int)) = false := by rw [decide_eq_false_iff_not]; omega
      have hwr : IntKind.i64.wrap ((p : Int) + (k : Int)) = (p : Int) + (k : Int) := IntWalk.i64_in _ (by omega)
      go_wp2
      go_quiet (fail)
      go_wp2
      have hwn : IntKind.i64.wrap ((p : Int) + (n : Int)) = (p : Int) + (n : Int) := IntWalk.i64_in _ (by omega); clear hd
      go_quiet (fail)
      go_wp2
      go_ret; refine ⟨?_, _, by rw [World.drewN_drewN, World.drewN_drewN]⟩; have e : runE isNam s (p + n) = p + k := by rw [HR.out, runE_stop (fun h => hc h.1)]
      rw [e]
      rfl
theorem while_sym (b : Nat) (s : ByteArray) (p n : Nat) (la : Option Addr) (ln lc : Nat) (code mat : Int) (w : World) (hs : s.size ≤ 1099511627776) (hp : p + n ≤ s.size) (h : Sc w b s p la ln lc code mat) :
    Calls Tryz.prog 55 #[.pointer (some ⟨b, 0, none⟩), .int .i64 (n : Nat), .func (.func 59) #[] #[]] w fun e w' => e = .returned (.string (s.extract (p + n) (runE isSym s (p + n)))) ∧ ∃ q, w' = w.drewN q := by
  obtain ⟨_, c0, c1, _, _, _, _⟩ := h; go_enter Tryz.func55, Tryz.ntmps55
  go_wp2
  go_loopw [7] (fun kv wr => (∃ q, wr = w.drewN q) ∧ ∃ k : Nat, n ≤ k ∧ p + k ≤ s.size ∧ kv = .int .i64 (k : Nat) ∧ Hid (runE isSym s (p + n) = runE isSym s (p + k))) (fun kv _ => s.size - (intOf kv).toNat)
  case atStart => exact ⟨⟨0, rfl⟩, n, Nat.le_refl _, hp, rfl, hid rfl⟩
  case round =>
    obtain ⟨⟨q, rfl⟩, k, hk, hkp, rfl, HR⟩ := hrel
    by_cases hc : p + k < s.size
    · have hci : (p : Int) + (k : Int) < (s.size : Int) := by omega
      have hwr : IntKind.i64.wrap ((p : Int) + (k : Int)) = (p : Int) + (k : Int) := IntWalk.i64_in _ (by omega); have hix : ∀ w, (Instr.index 9 (.string s) (.int .i64 ((p : Int) + (k : Int)))).run Tryz.prog w = .ok (.int .u8 (bt s (p + k) : Nat)) w := fun w => run_bt Tryz.underlying9 hc rfl
      rcases hp2 : isSym (bt s (p + k)) with _ | _
      · go_wp2
        go_quiet ((refine (symbol_any _ _ (bt_lt _ _)).mono ?_; rintro e w' ⟨rfl, rfl⟩; exact ⟨congrArg (fun x => Ending.returned (Value.bool x)) hp2, _, rfl⟩))
        go_wp2
        have hwn : IntKind.i64.wrap ((p : Int) + (n : Int)) = (p : Int) + (n : Int) := IntWalk.i64_in _ (by omega); have hp2' := hid hp2; clear hix hp2
        go_quiet (fail)
        go_wp2
        go_ret; refine ⟨?_, _, by rw [World.drewN_drewN, World.drewN_drewN]⟩; have e : runE isSym s (p + n) = p + k := by rw [HR.out, runE_stop (by rw [hp2'.out]; simp)]
        rw [e]
        rfl
      · go_wp2
        go_quiet ((refine (symbol_any _ _ (bt_lt _ _)).mono ?_; rintro e w' ⟨rfl, rfl⟩; exact ⟨congrArg (fun x => Ending.returned (Value.bool x)) hp2, _, rfl⟩))
        go_wp2
        exact ⟨⟨⟨_, rfl⟩, k + 1, by omega, by omega, rfl, hid (by rw [HR.out, runE_step hc hp2]; rfl)⟩, by simp [intOf]; omega⟩
    · have hci : (s.size : Int) ≤ (p : Int) + (k : Int) := by omega
      have hd : decide ((p : Int) + (k : Int) < (s.size : Int)) = false := by rw [decide_eq_false_iff_not]; omega
      have hwr : IntKind.i64.wrap ((p : Int) + (k : Int)) = (p : Int) + (k : Int) := IntWalk.i64_in _ (by omega)
      go_wp2
      go_quiet (fail)
      go_wp2
      have hwn : IntKind.i64.wrap ((p : Int) + (n : Int)) = (p : Int) + (n : Int) := IntWalk.i64_in _ (by omega); clear hd
      go_quiet (fail)
      go_wp2
      go_ret; refine ⟨?_, _, by rw [World.drewN_drewN, World.drewN_drewN]⟩; have e : runE isSym s (p + n) = p + k := by rw [HR.out, runE_stop (fun h => hc h.1)]
      rw [e]
      rfl
section
open Go
section
variable {P : Program} {ops : Array Oper} {Q : Exit → Act → World → Prop} {md : Region.Mode} {S : World → Prop} {T : Nat → Bool}
def anyT (P : Program) (md : Region.Mode) (ops : Array Oper) (Q : Exit → Act → World → Prop) (S : World → Prop) (T : Nat → Bool) : Nat → Array Bool → Act → World → Prop
  | 0, L, a, w => Region.ready md ops L = [] ∧ Q .normal a w
  | m + 1, L, a, w => (Region.ready md ops L = [] → Q .normal a w) ∧
    ∀ i ∈ Region.ready md ops L, wpOp P ops Q i (fun b v => (T i = false → S v) ∧ anyT P md ops Q S T m (L.setIfInBounds i true) b v) a w
theorem any_of_T : ∀ (m : Nat) (L : Array Bool) (a : Act) (w : World), anyT P md ops Q S T m L a w → wpAny P md ops Q m L a w
  | 0, _, _, _, h => h
  | m + 1, _, _, _, h => ⟨h.1, fun i hi => wpOp_mono (fun b v k => any_of_T m _ b v k.2) (h.2 i hi)⟩
def waitsT (md : Region.Mode) (ops : Array Oper) (k i : Nat) : Bool :=
  match ops[k]? with
  | some o => o.after.any fun e => Region.binds md e && e.on == i
  | none => false
def waitT (md : Region.Mode) (ops : Array Oper) (T : Nat → Bool) (i : Nat) : Bool :=
  !T i && (List.range ops.size).all fun j => !T j || match ops[j]? with
    | some o => o.after.any fun e => Region.binds md e && (e.on == i || waitsT md ops e.on i)
    | none => true
def midT (md : Region.Mode) (ops : Array Oper) (L : Array Bool) (i : Nat) : Bool :=
  (List.range ops.size).all fun k => !waitsT md ops k i || !L.getD k true
theorem waitsT_size {k i : Nat} (h : waitsT md ops k i = true) : k < ops.size := by
  rcases Nat.lt_or_ge k ops.size with q | q
  · exact q
  · unfold waitsT at h; rw [Array.getElem?_eq_none q] at h; cases h
theorem midT_spec {L : Array Bool} {k i : Nat} (h : midT md ops L i = true) (hk : waitsT md ops k i = true) : L.getD k true = false := by
  unfold midT at h; rw [List.all_eq_true] at h; have h2 := h k (List.mem_range.2 (waitsT_size hk)); rw [hk] at h2
  simpa using h2
theorem midT_set {L : Array Bool} {j i : Nat} (h : midT md ops L i = true) (hj : waitsT md ops j i = false) : midT md ops (L.setIfInBounds j true) i = true := by
  unfold midT; rw [List.all_eq_true]; intro k hk
  rcases hw : waitsT md ops k i with _ | _
  · rfl
  · have e : j ≠ k := fun e => by subst e; rw [hw] at hj; cases hj
    rw [getD_set_ne true e, midT_spec h hw]; rfl
theorem waitT_spec {L : Array Bool} {i j : Nat} {o : Oper} (h : waitT md ops T i = true) (hM : midT md ops L i = true) (hj : ops[j]? = some o) (hno : ∀ e ∈ o.after, Region.binds md e = true → e.on ≠ i)
    (hall : ∀ e ∈ o.after, Region.binds md e = true → L.getD e.on true = true) : T j = false := by
  unfold waitT at h; rw [Bool.and_eq_true, List.all_eq_true] at h
  have hlt : j < ops.size := by
    rcases Nat.lt_or_ge j ops.size with k | k
    · exact k
    · rw [Array.getElem?_eq_none k] at hj; cases hj
  have h2 := h.2 j (List.mem_range.2 hlt); rw [hj] at h2
  rcases hT : T j with _ | _
  · rfl
  · rw [hT] at h2; simp only [Bool.not_true, Bool.false_or] at h2; rw [Array.any_eq_true'] at h2; obtain ⟨e, he, hb⟩ := h2; rw [Bool.and_eq_true, Bool.or_eq_true] at hb
    rcases hb.2 with q | q
    · exact absurd (by simpa using q) (hno e he hb.1)
    · have k1 := midT_spec hM q; rw [hall e he hb.1] at k1; cases k1
theorem waitsT_no {j i : Nat} {o : Oper} (hj : ops[j]? = some o) (hno : ∀ e ∈ o.after, Region.binds md e = true → e.on ≠ i) : waitsT md ops j i = false := by
  unfold waitsT; rw [hj]
  rcases hq : (o.after.any fun e => Region.binds md e && e.on == i) with _ | _
  · exact hq
  · rw [Array.any_eq_true'] at hq; obtain ⟨e, he, hb⟩ := hq; rw [Bool.and_eq_true] at hb; exact absurd (by simpa using hb.2) (hno e he hb.1)
theorem anyT_first {i : Nat} {oi : Oper} {v : Value} (hi : ops[i]? = some oi) (hsel : ∀ (j : Nat) (o : Oper) cs b, ops[j]? = some o → o.op ≠ .select cs b)
    (hQ : ∀ c a w, Q (.panic c) (a.put oi.dst v) w → Q (.panic c) a w) (hw : waitT md ops T i = true) :
    ∀ (m : Nat) (L : Array Bool) (a : Act) (w : World),
      (∀ j oj, ops[j]? = some oj → j ≠ i → L.getD j true = false → (∀ e ∈ oj.after, Region.binds md e = true → e.on ≠ i) → oi.apart ops oj = true) →
      midT md ops L i = true → i ∈ Region.ready md ops L → YieldsIf P ops S oi v a → S w →
      anyT P md ops Q S T m (L.setIfInBounds i true) (a.put oi.dst v) w → anyT P md ops Q S T (m + 1) L a w := by
  intro m
  induction m with
  | zero =>
    intro L a w _ _ hr hy hS H; refine ⟨fun h => (by rw [h] at hr; cases hr), fun j hj => ?_⟩
    by_cases e : j = i
    · subst e; exact hy.wpOp hi hS ⟨fun _ => hS, H⟩
    · have := ready_mono hj e; rw [H.1] at this; cases this
  | succ m ih =>
    intro L a w hfree hM hr hy hS H; refine ⟨fun h => (by rw [h] at hr; cases hr), fun j hj => ?_⟩
    by_cases e : j = i
    · subst e; exact hy.wpOp hi hS ⟨fun _ => hS, H⟩
    · have h1 := H.2 j (ready_mono hj e); obtain ⟨hjun, oj, hoj, hall⟩ := mem_ready.1 hj
      have hnot : ∀ d ∈ oj.after, Region.binds md d = true → d.on ≠ i := fun d hd hb heq => by
        have k1 := hall d hd hb; have k0 := (mem_ready.1 hr).1; rw [heq] at k1
        rcases Nat.lt_or_ge i L.size with h' | h'
        · simp [h'] at k0 k1; rw [k0] at k1; cases k1
        · simp [Array.getElem?_eq_none h'] at k1
      have hT := waitT_spec hw hM hoj hnot (fun e he hb => (by have := hall e he hb; rcases hq : L[e.on]? with _ | q <;> simp [hq] at this ⊢; exact this))
      have h2 := wpOp_putIf hoj (hfree j oj hoj e hjun hnot) (fun cs b => hsel i oi cs b hi) (fun cs b => hsel j oj cs b hoj) hQ hy h1
      have hfree' : ∀ k ok, ops[k]? = some ok → k ≠ i → (L.setIfInBounds j true).getD k true = false →
          (∀ d ∈ ok.after, Region.binds md d = true → d.on ≠ i) → oi.apart ops ok = true := fun k ok hk hki hun hno => by
        refine hfree k ok hk hki ?_ hno
        by_cases hjk : j = k
        · subst hjk; exact hjun
        · rw [getD_set_ne true hjk] at hun; exact hun
      refine wpOp_mono (fun b x h3 => ⟨h3.2.1, ih (L.setIfInBounds j true) b x hfree' (midT_set hM (waitsT_no hoj hnot)) (ready_mono hr (Ne.symm e)) h3.1 (h3.2.1 hT) ?_⟩) h2; rw [Array.setIfInBounds_comm _ _ e]; exact h3.2.2
theorem anyT_take {i : Nat} {oi : Oper} {v : Value} {m : Nat} {L : Array Bool} {a : Act} {w : World} (hi : ops[i]? = some oi)
    (hs : Region.noSelect ops = true) (hf : Region.free md ops L i = true) (hr : (Region.ready md ops L).contains i = true) (hw : waitT md ops T i = true) (hM : midT md ops L i = true)
    (hQ : ∀ c a w, Q (.panic c) (a.put oi.dst v) w → Q (.panic c) a w) (hy : YieldsIf P ops S oi v a) (hS : S w)
    (h : anyT P md ops Q S T m (L.setIfInBounds i true) (a.put oi.dst v) w) : anyT P md ops Q S T (m + 1) L a w :=
  anyT_first hi (Region.noSelect_spec hs) hQ hw m L a w (Region.free_spec hi hf) hM (by simpa using hr) hy hS h
theorem tq (i : Nat) {oi : Oper} {v : Value} {m : Nat} {L L' : Array Bool} {a b : Act} {w : World} (hS : S w) (h : anyT P md ops Q S T m L' b w)
    (hi : ops[i]? = some oi := by rfl) (hs : Region.noSelect ops = true := by kernel_rfl) (hf : Region.free md ops L i = true := by kernel_rfl) (hr : (Region.ready md ops L).contains i = true := by kernel_rfl) (hw : waitT md ops T i = true := by kernel_rfl) (hM : midT md ops L i = true := by kernel_rfl)
    (hQ : ∀ c a w, Q (.panic c) (a.put oi.dst v) w → Q (.panic c) a w := by exact fun _ _ _ h => h) (hy : YieldsIf P ops S oi v a := by refine Or.inl ⟨by rfl, ?_⟩; intro wz hz; (repeat (have hz1 := And.left hz; replace hz := And.right hz)); go_simp; try with_reducible rfl)
    (hL : L.setIfInBounds i true = L' := by (try simp only [List.setIfInBounds_toArray, List.set_cons_zero, List.set_cons_succ]); (try rfl)) (hb : a.put oi.dst v = b := by (try simp only [Act.put, List.getElem_toArray, List.getElem_cons_zero, List.getElem_cons_succ, List.setIfInBounds_toArray, List.set_cons_zero, List.set_cons_succ]); (try rfl)) : anyT P md ops Q S T (m + 1) L a w :=
  anyT_take hi hs hf hr hw hM hQ hy hS (by rw [hL, hb]; exact h)
theorem tqu (i : Nat) {oi : Oper} {m : Nat} {L L' : Array Bool} {a b : Act} {w : World} (hS : S w) (h : anyT P md ops Q S T m L' b w)
    (hi : ops[i]? = some oi := by rfl) (hs : Region.noSelect ops = true := by kernel_rfl) (hf : Region.free md ops L i = true := by kernel_rfl) (hr : (Region.ready md ops L).contains i = true := by kernel_rfl) (hw : waitT md ops T i = true := by kernel_rfl) (hM : midT md ops L i = true := by kernel_rfl)
    (hQ : ∀ c a w, Q (.panic c) (a.put oi.dst undef) w → Q (.panic c) a w := by exact fun _ _ _ h => h) (hy : YieldsIf P ops S oi undef a := by exact Or.inr ⟨by rfl, rfl⟩)
    (hL : L.setIfInBounds i true = L' := by (try simp only [List.setIfInBounds_toArray, List.set_cons_zero, List.set_cons_succ]); (try rfl)) (hb : a.put oi.dst undef = b := by (try simp only [Act.put, List.getElem_toArray, List.getElem_cons_zero, List.getElem_cons_succ, List.setIfInBounds_toArray, List.set_cons_zero, List.set_cons_succ]); (try rfl)) : anyT P md ops Q S T (m + 1) L a w :=
  anyT_take hi hs hf hr hw hM hQ hy hS (by rw [hL, hb]; exact h)
theorem anyT_one {i : Nat} {o : Oper} {m : Nat} {L : Array Bool} {a : Act} {w : World} (hr : Region.ready md ops L = [i]) (ho : ops[i]? = some o)
    (h : ∀ K : Act → World → Prop, Shut (∀ b v, (T i = false → S v) → anyT P md ops Q S T m (L.setIfInBounds i true) b v → K b v) → if Region.wanted o (yielded ops a.tmps) = true then Oper.wp P o a w K Q else K (a.put o.dst undef) w) :
    anyT P md ops Q S T (m + 1) L a w :=
  ⟨fun h0 => (by rw [hr] at h0; cases h0), fun j hj => by
    rw [hr] at hj; obtain rfl : j = i := by simpa using hj
    exact wpOp_step ho (fun K hK => h K (fun b v hS hA => hK b v ⟨hS, hA⟩))⟩
theorem on1 (i : Nat) {o : Oper} {m : Nat} {L : Array Bool} {a : Act} {w : World} (h : ∀ K : Act → World → Prop, Shut (∀ b v, (T i = false → S v) → anyT P md ops Q S T m (L.setIfInBounds i true) b v → K b v) → if Region.wanted o (yielded ops a.tmps) = true then Oper.wp P o a w K Q else K (a.put o.dst undef) w)
    (hr : Region.ready md ops L = [i] := by kernel_rfl) (ho : ops[i]? = some o := by rfl) : anyT P md ops Q S T (m + 1) L a w := anyT_one hr ho h
theorem nx {p : Prop} {K : Act → World → Prop} {m : Nat} {L L' : Array Bool} {b b' : Act} {v : World} (hK : Shut (∀ b v, (p → S v) → anyT P md ops Q S T m L b v → K b v)) (hS : S v) (h : anyT P md ops Q S T m L' b' v) (hL : L = L' := by (try simp only [List.setIfInBounds_toArray, List.set_cons_zero, List.set_cons_succ]); (try rfl)) (hb : b = b' := by (try simp only [Act.put, List.getElem_toArray, List.getElem_cons_zero, List.getElem_cons_succ, List.setIfInBounds_toArray, List.set_cons_zero, List.set_cons_succ]); (try rfl)) : K b v := hK.out b v (fun _ => hS) (by rw [hL, hb]; exact h)
theorem nxT {p : Prop} {K : Act → World → Prop} {m : Nat} {L L' : Array Bool} {b b' : Act} {v : World} (hK : Shut (∀ b v, (p → S v) → anyT P md ops Q S T m L b v → K b v)) (h : anyT P md ops Q S T m L' b' v) (hp : ¬ p := by exact fun h => by cases h) (hL : L = L' := by (try simp only [List.setIfInBounds_toArray, List.set_cons_zero, List.set_cons_succ]); (try rfl)) (hb : b = b' := by (try simp only [Act.put, List.getElem_toArray, List.getElem_cons_zero, List.getElem_cons_succ, List.setIfInBounds_toArray, List.set_cons_zero, List.set_cons_succ]); (try rfl)) : K b v := hK.out b v (fun h => absurd h hp) (by rw [hL, hb]; exact h)
theorem anyT_done {L : Array Bool} {a : Act} {w : World} (hr : Region.ready md ops L = []) (h : Q .normal a w) : ∀ m, anyT P md ops Q S T m L a w
  | 0 => ⟨hr, h⟩
  | _ + 1 => ⟨fun _ => h, by rw [hr]; simp⟩
theorem region_T {id : Nat} {a : Act} {w : World} (hm : P.follows .mixedOrders = true)
    (h : anyT P .any ops Q S T ops.size (Array.replicate ops.size false) a w.drew) : (Code.region id ops true).wp P Q a w :=
  wp_region_any hm (any_of_T _ _ _ _ h)
end
end
structure Tok where
  kind : Nat
  text : List UInt8
  num : Int
  bits : Nat
  n : Nat
  pos : Nat
def Mg (w : World) (sg : Bool) (a : Option Addr) (n c : Nat) (z : Int) : Prop :=
  ∃ f, Us w a n c f ∧ n ≤ 1048576 ∧ Nm f n ∧ (n = 0 → sg = false) ∧ ival sg (val f n) = z
def TokC (w : World) (t : Tok) (h : Nat → Value) (o : Nat) : Prop :=
  ∃ sg a n c, h o = .int .i64 (t.kind : Nat) ∧ h (o + 1) = .string ⟨t.text.toArray⟩ ∧ h (o + 2) = .bool sg ∧ h (o + 3) = .slice a n c ∧ h (o + 4) = .int .u64 (t.bits : Nat) ∧ h (o + 5) = .int .i64 (t.n : Nat) ∧ h (o + 6) = .int .i64 (t.pos : Nat) ∧ Mg w sg a n c t.num
def UsK (w w' : World) : Prop := ∀ a n c f, Us w a n c f → Us w' a n c f
theorem UsK.refl (w : World) : UsK w w := fun _ _ _ _ h => h
theorem UsK.trans {w w' w'' : World} (h : UsK w w') (k : UsK w' w'') : UsK w w'' := fun a n c f u => k a n c f (h a n c f u)
theorem UsK.below {w w' : World} (h : Below w.heap.size w w') : UsK w w' := fun _ _ _ _ u => u.below h (Nat.le_refl _)
theorem UsK.set {w w' : World} (h : UsK w w') {p : Addr} {v : Value} (hp : w'.cell? p = some v) (hv : ∀ x, v ≠ .int .u32 x) (y : Value) : UsK w (w'.setCell p y) := fun a n c f u => us_kind (h a n c f u) hp hv y
theorem Mg.keep {w w' : World} {sg : Bool} {a : Option Addr} {n c : Nat} {z : Int} (h : Mg w sg a n c z) (k : UsK w w') : Mg w' sg a n c z := by
  obtain ⟨f, u, r⟩ := h; exact ⟨f, k _ _ _ _ u, r⟩
theorem TokC.keep {w w' : World} {t : Tok} {h : Nat → Value} {o : Nat} (c : TokC w t h o) (k : UsK w w') : TokC w' t h o := by
  obtain ⟨sg, a, n, d, h0, h1, h2, h3, h4, h5, h6, m⟩ := c; exact ⟨sg, a, n, d, h0, h1, h2, h3, h4, h5, h6, m.keep k⟩
def tokZ : Value := .agg #[.int .i64 0, .string ⟨#[]⟩, .bool false, .slice none 0 0, .int .u64 0, .int .i64 0, .int .i64 0]
theorem tokZ_kind (j : Nat) (x : Int) : zcS tokZ j ≠ .int .u32 x := by
  unfold zcS; have h7 : j % 7 < 7 := Nat.mod_lt _ (by omega); have hz7 : tokZ.cells.size = 7 := rfl; rw [hz7]; generalize j % 7 = r7 at h7
  match r7, h7 with
  | 0, _ => intro h; cases h
  | 1, _ => intro h; cases h
  | 2, _ => intro h; cases h
  | 3, _ => intro h; cases h
  | 4, _ => intro h; cases h
  | 5, _ => intro h; cases h
  | 6, _ => intro h; cases h
theorem TokC.congr {w : World} {t : Tok} {h g : Nat → Value} {o : Nat} (c : TokC w t h o) (e : ∀ k, k < 7 → g (o + k) = h (o + k)) : TokC w t g o := by
  obtain ⟨sg, a, n, d, h0, h1, h2, h3, h4, h5, h6, m⟩ := c; exact ⟨sg, a, n, d, (e 0 (by omega)).trans h0, (e 1 (by omega)).trans h1, (e 2 (by omega)).trans h2, (e 3 (by omega)).trans h3, (e 4 (by omega)).trans h4, (e 5 (by omega)).trans h5, (e 6 (by omega)).trans h6, m⟩
def Toks (w : World) (a : Option Addr) (n c : Nat) (ts : List Tok) : Prop :=
  ∃ h, ArrS w a n c 7 h ∧ n = ts.length ∧ (∀ j, n * 7 ≤ j → j < c * 7 → h j = zcS tokZ j) ∧ ∀ i t, ts[i]? = some t → TokC w t h (i * 7)
theorem Tryz.info75 : (Tryz.prog.info? 75).map (fun i => (i.zero, i.size, i.bytes)) = some (some tokZ, 7, 80) := by kernel_rfl
theorem gen_world {P : Program} {c : Code} {Q : Exit → Act → World → Prop} {a : Act} (w : World) (h : ∀ W, W = w → Code.wp P c Q a W) : Code.wp P c Q a w := h w rfl
theorem tell_any (b : Nat) (s : ByteArray) (p n : Nat) (la : Option Addr) (ln lc : Nat) (code mat : Int) (kind bits N : Nat) (tx : ByteArray) (sg : Bool) (am : Option Addr) (nm cm : Nat) (z : Int) (at0 : Int) (ts : List Tok) (base : Nat) (w : World)
    (hs : s.size ≤ 1099511627776) (hp : p + n ≤ s.size) (h : Sc w b s p la ln lc code mat) (hT : Toks w la ln lc ts) (hN : New w base la (lc * 7)) (hb : base ≤ b) (hlb : ∀ x off, la = some ⟨x, off, none⟩ → b < x ∧ x < w.heap.size) (hm : Mg w sg am nm cm z) (hln : ln ≤ 1099511627776) :
    Calls Tryz.prog 58 #[.pointer (some ⟨b, 0, none⟩), .agg #[.int .i64 (kind : Nat), .string tx, .bool sg, .slice am nm cm, .int .u64 (bits : Nat), .int .i64 (N : Nat), .int .i64 at0], .int .i64 (n : Nat)] w fun e w' =>
      ∃ la' lc', e = .returned (.tuple #[]) ∧ Sc w' b s (p + n) la' (ln + 1) lc' code mat ∧ Toks w' la' (ln + 1) lc' (ts ++ [⟨kind, (s.extract p (p + n)).data.toList, z, bits, N, p⟩]) ∧ New w' base la' (lc' * 7) ∧ (∀ x off, la' = some ⟨x, off, none⟩ → b < x ∧ x < w'.heap.size) ∧ Below base w w' ∧ UsK w w' := by
  obtain ⟨blt, c0, c1, c2, c3, c4, fr⟩ := h; go_enter Tryz.func58, Tryz.ntmps58
  go_wp2
  have hwr : IntKind.i64.wrap ((p : Int) + (n : Int)) = (p : Int) + (n : Int) := IntWalk.i64_in _ (by omega); have lne : b ≠ w.heap.size := by omega
  go_region
  go_wp2
  have hT0 := hT; obtain ⟨hh, hA, rfl, hz0, htk⟩ := hT0; have blt1 : b < ((w.alloc (.cells #[.int .i64 (kind : Nat), .string (s.extract p (p + n)), .bool sg, .slice am nm cm, .int .u64 (bits : Nat), .int .i64 (N : Nat), .int .i64 (p : Nat)] 75)).drew).heap.size := by simp; omega
  have hb1 : Below w.heap.size w (w.alloc (.cells #[.int .i64 (kind : Nat), .string (s.extract p (p + n)), .bool sg, .slice am nm cm, .int .u64 (bits : Nat), .int .i64 (N : Nat), .int .i64 (p : Nat)] 75)).drew := (below_alloc w _).drew; have nw := fun (j : Nat) (v : Value) (e : (#[.int .i64 (kind : Nat), .string (s.extract p (p + n)), .bool sg, .slice am nm cm, .int .u64 (bits : Nat), .int .i64 (N : Nat), .int .i64 (p : Nat)] : Array Value)[j]? = some v) => show (w.alloc (.cells #[.int .i64 (kind : Nat), .string (s.extract p (p + n)), .bool sg, .slice am nm cm, .int .u64 (bits : Nat), .int .i64 (N : Nat), .int .i64 (p : Nat)] 75)).drew.cell? ⟨w.heap.size, j, none⟩ = some v from (World.cell?_alloc_new w _ _ j).trans e; have x0 := nw 0 _ rfl; have x1 := nw 1 _ rfl; have x2 := nw 2 _ rfl; have x3 := nw 3 _ rfl; have x4 := nw 4 _ rfl; have x5 := nw 5 _ rfl; have x6 := nw 6 _ rfl; have d2 := (hb1.cell (p := ⟨b, 2, none⟩) blt).trans c2; refine gen_world _ (fun W hW => ?_); rw [← hW] at blt1 hb1 x0 x1 x2 x3 x4 x5 x6 d2; clear hW nw; refine region_T (S := fun wx => wx.cell? ⟨b, 2, none⟩ = some (.slice la ts.length lc) ∧ wx.cell? ⟨w.heap.size, 0, none⟩ = some (.int .i64 (kind : Nat)) ∧ wx.cell? ⟨w.heap.size, 1, none⟩ = some (.string (s.extract p (p + n))) ∧ wx.cell? ⟨w.heap.size, 2, none⟩ = some (.bool sg) ∧ wx.cell? ⟨w.heap.size, 3, none⟩ = some (.slice am nm cm) ∧ wx.cell? ⟨w.heap.size, 4, none⟩ = some (.int .u64 (bits : Nat)) ∧ wx.cell? ⟨w.heap.size, 5, none⟩ = some (.int .i64 (N : Nat)) ∧ wx.cell? ⟨w.heap.size, 6, none⟩ = some (.int .i64 (p : Nat))) (T := fun j => j == 10) (by kernel_rfl) ?_; have hS0 := And.intro d2 (And.intro x0 (And.intro x1 (And.intro x2 (And.intro x3 (And.intro x4 (And.intro x5 x6)))))); refine tq 0 hS0 ?_; refine tq 1 hS0 ?_; refine tq 2 hS0 ?_; refine tq 3 hS0 ?_; refine tq 4 hS0 ?_; refine tq 5 hS0 ?_; refine on1 6 fun K hK => ?_; go_simp; have hb2 : Below W.heap.size W (W.alloc (.cells #[.int .i64 (kind : Nat), .string (s.extract p (p + n)), .bool sg, .slice am nm cm, .int .u64 (bits : Nat), .int .i64 (N : Nat), .int .i64 (p : Nat)] 75)).drew := (below_alloc W _).drew; have hs2 : (W.alloc (.cells #[.int .i64 (kind : Nat), .string (s.extract p (p + n)), .bool sg, .slice am nm cm, .int .u64 (bits : Nat), .int .i64 (N : Nat), .int .i64 (p : Nat)] 75)).drew.heap.size = W.heap.size + 1 := by simp
  have nw := fun (j : Nat) (v : Value) (e : (#[.int .i64 (kind : Nat), .string (s.extract p (p + n)), .bool sg, .slice am nm cm, .int .u64 (bits : Nat), .int .i64 (N : Nat), .int .i64 (p : Nat)] : Array Value)[j]? = some v) => show (W.alloc (.cells #[.int .i64 (kind : Nat), .string (s.extract p (p + n)), .bool sg, .slice am nm cm, .int .u64 (bits : Nat), .int .i64 (N : Nat), .int .i64 (p : Nat)] 75)).drew.cell? ⟨W.heap.size, j, none⟩ = some v from (World.cell?_alloc_new W _ _ j).trans e; have lW : w.heap.size < W.heap.size := World.block_lt_of_cell? W _ x0; have hS1 := And.intro ((hb2.cell (p := ⟨b, 2, none⟩) blt1).trans d2) (And.intro ((hb2.cell (p := ⟨w.heap.size, 0, none⟩) lW).trans x0) (And.intro ((hb2.cell (p := ⟨w.heap.size, 1, none⟩) lW).trans x1) (And.intro ((hb2.cell (p := ⟨w.heap.size, 2, none⟩) lW).trans x2) (And.intro ((hb2.cell (p := ⟨w.heap.size, 3, none⟩) lW).trans x3) (And.intro ((hb2.cell (p := ⟨w.heap.size, 4, none⟩) lW).trans x4) (And.intro ((hb2.cell (p := ⟨w.heap.size, 5, none⟩) lW).trans x5) ((hb2.cell (p := ⟨w.heap.size, 6, none⟩) lW).trans x6))))))); have hbw : Below w.heap.size w (W.alloc (.cells #[.int .i64 (kind : Nat), .string (s.extract p (p + n)), .bool sg, .slice am nm cm, .int .u64 (bits : Nat), .int .i64 (N : Nat), .int .i64 (p : Nat)] 75)).drew := hb1.trans (hb2.mono (by omega)); refine hK.out _ _ (fun _ => hS1) ?_; clear hK K; generalize (W.alloc (.cells #[.int .i64 (kind : Nat), .string (s.extract p (p + n)), .bool sg, .slice am nm cm, .int .u64 (bits : Nat), .int .i64 (N : Nat), .int .i64 (p : Nat)] 75)).drew = W2 at hb2 hs2 nw hS1 hbw ⊢
  have A2 : ArrS W2 la ts.length lc 7 hh := ⟨hA.le, hA.mx, fun j hj => by
    obtain ⟨x, off, e, hc⟩ := hA.cell j hj
    exact ⟨x, off, e, (hbw.cell (p := ⟨x, off + j, none⟩) (by have := hlb x off e; simp; omega)).trans hc⟩⟩
  have N2 : New W2 base la (lc * 7) := fun j hj => by
    obtain ⟨x, off, e, h1, h2⟩ := hN j hj; exact ⟨x, off, e, h1, (hbw.frozen (p := ⟨x, off + j, none⟩) (by have := hlb x off e; simp; omega)).trans h2⟩
  have hg : ∀ j, j < 7 → W2.cell? ⟨W.heap.size, 0 + j, none⟩ = some ((#[.int .i64 (kind : Nat), .string (s.extract p (p + n)), .bool sg, .slice am nm cm, .int .u64 (bits : Nat), .int .i64 (N : Nat), .int .i64 (p : Nat)] : Array Value)[j]!) := fun j hj => by
    rw [Nat.zero_add]
    match j, hj with
    | 0, _ => exact nw 0 _ rfl
    | 1, _ => exact nw 1 _ rfl
    | 2, _ => exact nw 2 _ rfl
    | 3, _ => exact nw 3 _ rfl
    | 4, _ => exact nw 4 _ rfl
    | 5, _ => exact nw 5 _ rfl
    | 6, _ => exact nw 6 _ rfl
  have one : ∀ j, j < 7 → ((#[.int .i64 (kind : Nat), .string (s.extract p (p + n)), .bool sg, .slice am nm cm, .int .u64 (bits : Nat), .int .i64 (N : Nat), .int .i64 (p : Nat)] : Array Value)[j]!).oneCell' = true := fun j hj => by
    match j, hj with
    | 0, _ => rfl
    | 1, _ => rfl
    | 2, _ => rfl
    | 3, _ => rfl
    | 4, _ => rfl
    | 5, _ => rfl
    | 6, _ => rfl
  clear nw
  try simp only [Act.put, List.setIfInBounds_toArray, List.set_cons_zero, List.set_cons_succ]
  refine on1 7 fun K hK => ?_; rw [if_pos (by rfl)]; refine oper_append_one W2 (some 34) rfl _ _ 46 46 rfl 75 75 tokZ 7 80 Tryz.underlying46 Tryz.underlying46 Tryz.info75 rfl (by omega) base (by have := hbw.size; omega) la ts.length lc hh (fun j => (#[.int .i64 (kind : Nat), .string (s.extract p (p + n)), .bool sg, .slice am nm cm, .int .u64 (bits : Nat), .int .i64 (N : Nat), .int .i64 (p : Nat)] : Array Value)[j]!) W.heap.size 0 1 rfl rfl A2 N2 hg one (by omega) (by omega) ?_; intro a' c' r w3 hr A3 N3 hb3 hk3; have bW : b < W2.heap.size := by omega
  have wW : w.heap.size < W2.heap.size := by omega
  have k3 : ∀ (q : Addr), (q.block = b ∨ q.block = w.heap.size) → w3.cell? q = W2.cell? q := fun q hq => hk3.cell q (by omega) (fun x off e hx => by have := hlb x off e; omega); have f3 : ∀ (q : Addr), q.block = b → w3.frozen? q = w.frozen? q := fun q hq => (hk3.frozen q (by omega)).trans (hbw.frozen (by omega)); have hS3 := And.intro ((k3 ⟨b, 2, none⟩ (.inl rfl)).trans hS1.1) (And.intro ((k3 ⟨w.heap.size, 0, none⟩ (.inr rfl)).trans hS1.2.1) (And.intro ((k3 ⟨w.heap.size, 1, none⟩ (.inr rfl)).trans hS1.2.2.1) (And.intro ((k3 ⟨w.heap.size, 2, none⟩ (.inr rfl)).trans hS1.2.2.2.1) (And.intro ((k3 ⟨w.heap.size, 3, none⟩ (.inr rfl)).trans hS1.2.2.2.2.1) (And.intro ((k3 ⟨w.heap.size, 4, none⟩ (.inr rfl)).trans hS1.2.2.2.2.2.1) (And.intro ((k3 ⟨w.heap.size, 5, none⟩ (.inr rfl)).trans hS1.2.2.2.2.2.2.1) ((k3 ⟨w.heap.size, 6, none⟩ (.inr rfl)).trans hS1.2.2.2.2.2.2.2))))))); refine hK.out _ _ (fun _ => hS3) ?_; clear hK K; have e0 := ((k3 ⟨b, 0, none⟩ (.inl rfl)).trans (hbw.cell (p := ⟨b, 0, none⟩) blt)).trans c0; have e1 := ((k3 ⟨b, 1, none⟩ (.inl rfl)).trans (hbw.cell (p := ⟨b, 1, none⟩) blt)).trans c1; have e2 := hS3.1; have e3 := ((k3 ⟨b, 3, none⟩ (.inl rfl)).trans (hbw.cell (p := ⟨b, 3, none⟩) blt)).trans c3; have e4 := ((k3 ⟨b, 4, none⟩ (.inl rfl)).trans (hbw.cell (p := ⟨b, 4, none⟩) blt)).trans c4; have fr3 : ∀ o, w3.frozen? ⟨b, o, none⟩ = false := fun o => (f3 _ rfl).trans (fr o)
  try simp only [Act.put, List.setIfInBounds_toArray, List.set_cons_zero, List.set_cons_succ]
  refine on1 8 fun K hK => ?_; go_simp; refine nx hK hS3 ?_; clear hK K; refine on1 9 fun K hK => ?_; go_simp; refine nx hK hS3 ?_; clear hK K; refine on1 10 fun K hK => ?_; go_simp; refine nxT hK ?_; clear hK K; refine anyT_done (by kernel_rfl) ?_ _; clear k3 f3 hS1 hS3 hS0 hg one
  go_wp2
  go_end0; have hlen7 : (ts.length + 1) * 7 = ts.length * 7 + 7 := Nat.succ_mul _ _; have hw3 : W2.heap.size ≤ w3.heap.size := hk3.size
  have ha' : ∀ x off, a' = some ⟨x, off, none⟩ → b < x ∧ x < w3.heap.size := fun x off e => by
    rcases hr with ⟨_, h2, _⟩ | ⟨_, h2, h3, _⟩
    · rw [h2] at e; have := hlb x off e; omega
    · rw [h2] at e; simp only [Option.some.injEq, Addr.mk.injEq, and_true] at e; omega
  have uk3 : UsK w w3 := by
    intro ay ny cy fy uy; have u2 : Us W2 ay ny cy fy := uy.below hbw (Nat.le_refl _); refine ⟨u2.le, u2.mx, u2.lm, fun q hq => ?_⟩; obtain ⟨y, oy, ey, hc⟩ := u2.cell q hq; refine ⟨y, oy, ey, ?_⟩; have hlt := World.block_lt_of_cell? W2 _ hc; rw [← hc]
    rcases hr with ⟨_, _, h5⟩ | ⟨_, _, _, h6⟩
    · refine hk3.cell ⟨y, oy + q, none⟩ hlt (fun x off e hx => ?_); obtain ⟨h1, _, h2, h3⟩ := hx; simp only at h1 h2 h3; have hroom := A3.le; have hm : (ts.length + 1) * 7 ≤ lc * 7 := Nat.mul_le_mul_right _ (by omega); obtain ⟨x', off', e', hcx⟩ := A2.cell (oy + q - off) (by omega); rw [e] at e'; simp only [Option.some.injEq, Addr.mk.injEq, and_true] at e'; obtain ⟨rfl, rfl⟩ := e'; rw [show off + (oy + q - off) = oy + q by omega, ← h1, hc] at hcx; rw [hz0 _ (by omega) (by omega)] at hcx; have := Option.some.inj hcx; exact tokZ_kind _ _ this.symm
    · exact h6 _ hlt
  have u1 : UsK w (w3.setCell ⟨b, 2, none⟩ (.slice a' (ts.length + 1) c')) := uk3.set e2 (fun _ h => by cases h) _
  have e1' : (w3.setCell ⟨b, 2, none⟩ (.slice a' (ts.length + 1) c')).cell? ⟨b, 1, none⟩ = some (.int .i64 (p : Nat)) := by
    rw [World.cell?_setCell_other _ _ _ _ (by intro h; simp at h)]; exact e1
  have u2 : UsK w ((w3.setCell ⟨b, 2, none⟩ (.slice a' (ts.length + 1) c')).setCell ⟨b, 1, none⟩ (.int .i64 ((p : Int) + (n : Int)))) := u1.set e1' (fun _ h => by cases h) _; have hbl : Below base w w3 := (hbw.mono (by omega)).trans hb3; refine ⟨a', c', rfl, ⟨by simpa using (by omega : b < w3.heap.size), ?_, ?_, ?_, ?_, ?_, fun o => by simpa using fr3 o⟩, ⟨catS hh (ts.length * 7) 7 (fun j => (#[.int .i64 (kind : Nat), .string (s.extract p (p + n)), .bool sg, .slice am nm cm, .int .u64 (bits : Nat), .int .i64 (N : Nat), .int .i64 (p : Nat)] : Array Value)[j]!) r, ⟨A3.le, A3.mx, fun j hj => ?_⟩, by simp, fun j h1 h2 => ?_, fun i t ht => ?_⟩, (N3.set _ _).set _ _, fun x off e => by simpa using ha' x off e, (hbl.setCell hb _).setCell hb _, u2⟩
  · rw [World.cell?_setCell_other _ _ _ _ (by intro h; simp at h), World.cell?_setCell_other _ _ _ _ (by intro h; simp at h)]; exact e0
  · rw [World.cell?_setCell_same _ _ _ e1']; simp
  · rw [World.cell?_setCell_other _ _ _ _ (by intro h; simp at h), World.cell?_setCell_same _ _ _ e2]
  · rw [World.cell?_setCell_other _ _ _ _ (by intro h; simp at h), World.cell?_setCell_other _ _ _ _ (by intro h; simp at h)]; exact e3
  · rw [World.cell?_setCell_other _ _ _ _ (by intro h; simp at h), World.cell?_setCell_other _ _ _ _ (by intro h; simp at h)]; exact e4
  · obtain ⟨x, off, e, hc⟩ := A3.cell j hj; have hx := (ha' x off e).1; refine ⟨x, off, e, ?_⟩; rw [World.cell?_setCell_other _ _ _ _ (by intro h; simp only [Addr.mk.injEq] at h; omega), World.cell?_setCell_other _ _ _ _ (by intro h; simp only [Addr.mk.injEq] at h; omega)]; exact hc
  · unfold catS; rw [if_neg (by omega), if_neg (by omega)]
    rcases hr with ⟨h5, _, h6⟩ | ⟨h5, _⟩
    · rw [h5]; exact hz0 j (by omega) (by omega)
    · rw [h5]
  · by_cases hi : i < ts.length
    · rw [List.getElem?_append_left hi] at ht; refine ((htk i t ht).congr (fun k hk => ?_)).keep u2; unfold catS; rw [if_pos (by omega)]
    · have hi2 : i = ts.length := by
        have := (List.getElem?_eq_some_iff.1 ht).1; simp at this; omega
      subst hi2; rw [List.getElem?_append_right (Nat.le_refl _), Nat.sub_self] at ht; have ht2 := Option.some.inj (show some _ = some t from ht); subst ht2
      have hg7 : ∀ k, k < 7 → catS hh (ts.length * 7) 7 (fun j => (#[.int .i64 (kind : Nat), .string (s.extract p (p + n)), .bool sg, .slice am nm cm, .int .u64 (bits : Nat), .int .i64 (N : Nat), .int .i64 (p : Nat)] : Array Value)[j]!) r (ts.length * 7 + k) = (#[.int .i64 (kind : Nat), .string (s.extract p (p + n)), .bool sg, .slice am nm cm, .int .u64 (bits : Nat), .int .i64 (N : Nat), .int .i64 (p : Nat)] : Array Value)[k]! := fun k hk => by
        unfold catS; rw [if_neg (by omega), if_pos (by omega), Nat.add_sub_cancel_left]
      refine ⟨sg, am, nm, cm, ?_, ?_, ?_, ?_, ?_, ?_, ?_, hm.keep u2⟩
      · exact hg7 0 (by omega)
      · exact (hg7 1 (by omega)).trans (by rw [Array.toArray_toList]; rfl)
      · exact hg7 2 (by omega)
      · exact hg7 3 (by omega)
      · exact hg7 4 (by omega)
      · exact hg7 5 (by omega)
      · exact hg7 6 (by omega)
end Go.Proofs.YtkblonfmjlopaaaGreatDoor
