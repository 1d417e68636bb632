/-
  big.Text and big.Parse, walked.
-/
import Derived.Test.YticfggljaagcmaaDoorParse2
import Derived.Test.YticfggljaagcmaaDoorInts5
namespace Go.Proofs.YticfggljaagcmaaDoor
set_option linter.all false
open Go.RowKit Go.Shelf

/-- The text of an integer. -/
def txt (z : Int) : List UInt8 := if z < 0 then 126 :: Lib.decDigits z.natAbs else Lib.decDigits z.natAbs
theorem dec_len {v k : Nat} (h : v < 10 ^ k) : (Lib.decDigits v).length ≤ k + 1 := by
  rcases Nat.eq_zero_or_pos v with q | q
  · subst q; rw [Lib.decDigits_one (by omega)]; simp
  · rw [← trim_dig k v q h]
    have := (List.dropWhile_sublist (p := (· == (48 : UInt8))) (l := dig k v)).length_le
    rw [dig_length] at this
    unfold Lib.trimLeftB
    omega
theorem val_dec {f : Nat → Nat} {n c : Nat} {w : World} {a : Option Addr} (hu : Us w a n c f) : (Lib.decDigits (val f n)).length ≤ 18 * n + 1 := by
  have h1 := val_lt (hu.lm.mono hu.le)
  have h2 := pw_nine n
  exact dec_len (by rw [show 9 * (2 * n) = 18 * n by omega] at h2; omega)

set_option maxHeartbeats 1000000 in
theorem text_any (neg : Bool) (a : Option Addr) (n c : Nat) (f : Nat → Nat) (w : World) (hn : n ≤ 274877906944) (hu : Us w a n c f) :
    Calls Tryd.prog 16 #[.agg #[.bool neg, .slice a n c]] w fun e w' => e = .returned (.string ⟨(txt (ival neg (val f n))).toArray⟩) ∧ Below w.heap.size w w' := by
  have hdl := val_dec hu
  by_cases hz : ival neg (val f n) < 0
  · have hna : (ival neg (val f n)).natAbs = val f n := by unfold ival; cases neg <;> simp
    have HT := hid (show txt (ival neg (val f n)) = 126 :: Lib.decDigits (val f n) by unfold txt; rw [if_pos hz, hna])
    have hsz : ¬ 9223372036854775807 < 1 + (Lib.decDigits (val f n)).length := by omega
    have HS := hid (sgn_neg hz)
    clear hz hna
    have hcat := hid (cat_byte 126 (Lib.decDigits (val f n)))
    generalize hD : Lib.decDigits (val f n) = D at hdl HT hsz hcat
    have HD := hid hD
    clear hD
    go_enter Tryd.func16, Tryd.ntmps16
    go_wp2_with (first | (go_at_call 33; refine (sign_any _ _ _ _ _ _ (by omega) (hu.alloc _)).mono ?_; rintro e w1 ⟨rfl, k3⟩; rw [HS.out]; obtain ⟨r0, r1, r2, r3, r4⟩ := new2 k3) | (go_at_call 53; refine (natText_any _ _ _ _ _ (by omega) ((hu.alloc _).below k3 (Nat.le_refl _))).mono ?_; rintro e w2 ⟨rfl, k4⟩; rw [HD.out]))
    go_ret
    have hb : Below w.heap.size w w1 := (below_alloc w _).trans (k3.mono (by simp))
    exact ⟨by rw [HT.out, ← hcat.out]; rfl, hb.trans (k4.mono hb.size)⟩
  · have hna : (ival neg (val f n)).natAbs = val f n := by unfold ival; cases neg <;> simp
    have HT := hid (show txt (ival neg (val f n)) = Lib.decDigits (val f n) by unfold txt; rw [if_neg hz, hna])
    have HS : Hid (sgn (ival neg (val f n)) = 0 ∨ sgn (ival neg (val f n)) = 1) := by
      unfold sgn; rw [if_neg hz]
      refine hid ?_
      split
      · exact .inr rfl
      · exact .inl rfl
    clear hz hna
    rcases HS.out with hs | hs
    all_goals
      have HS := hid hs
      clear hs
      go_enter Tryd.func16, Tryd.ntmps16
      go_wp2_with (first | (go_at_call 33; refine (sign_any _ _ _ _ _ _ (by omega) (hu.alloc _)).mono ?_; rintro e w1 ⟨rfl, k3⟩; rw [HS.out]; obtain ⟨r0, r1, r2, r3, r4⟩ := new2 k3) | (go_at_call 53; refine (natText_any _ _ _ _ _ (by omega) ((hu.alloc _).below k3 (Nat.le_refl _))).mono ?_; rintro e w2 ⟨rfl, k4⟩))
      go_ret
      have hb : Below w.heap.size w w1 := (below_alloc w _).trans (k3.mono (by simp))
      exact ⟨by rw [HT.out]; rfl, hb.trans (k4.mono hb.size)⟩

/-- The number of a text, if it is one. -/
def prs (l : List UInt8) : Option Int :=
  if l.head? = some 126 then (if isNum l.tail = true ∧ rdr 0 l.tail ≠ 0 then some (-(rdr 0 l.tail : Int)) else none)
  else if isNum l = true then some (rdr 0 l : Int) else none
theorem pre_cons (d : List UInt8) : Lib.trimPrefix (126 :: d) [126] = d ∧ Lib.hasPrefix (126 :: d) [126] = true := by
  have h : Lib.hasPrefix (126 :: d) [126] = true := by simp [Lib.hasPrefix, List.isPrefixOf]
  refine ⟨?_, h⟩
  unfold Lib.trimPrefix; rw [if_pos h]; rfl
theorem pre_else (l : List UInt8) (hl : l.head? ≠ some 126) : Lib.trimPrefix l [126] = l ∧ Lib.hasPrefix l [126] = false := by
  have h : Lib.hasPrefix l [126] = false := by
    rcases l with _ | ⟨c, l⟩
    · rfl
    · simp at hl
      simp [Lib.hasPrefix, List.isPrefixOf]
      exact fun e => hl e.symm
  refine ⟨?_, h⟩
  unfold Lib.trimPrefix; rw [if_neg (by rw [h]; decide)]
/-- A number and no error are answered. -/
def ResP (w w' : World) (z : Int) (L : Nat) (e : Ending) : Prop :=
  ∃ sg a n c f, e = .returned (.tuple #[.agg #[.bool sg, .slice a n c], .int .i64 0]) ∧ Us w' a n c f ∧ New w' w.heap.size a c ∧ Below w.heap.size w w' ∧ Nm f n ∧ (n = 0 → sg = false) ∧ ival sg (val f n) = z ∧ n ≤ L

theorem ResP.out {w w2 w3 : World} {z z' : Int} {L L' q n c : Nat} {sg : Bool} {a : Option Addr} {f : Nat → Nat} (k1 : Us w3 a n c f) (k2 : New w3 w2.heap.size a c) (k3 : Below w2.heap.size w2 w3) (k4 : Nm f n) (k5 : n = 0 → sg = false) (k6 : ival sg (val f n) = z') (k7 : n ≤ L')
    (hB : Below w.heap.size w w2) (h1 : w.heap.size ≤ q) (h2 : q < w2.heap.size) (hz : z' = z) (hl : L' ≤ L) (x y : Value) : ResP w ((w3.setCell ⟨q, 0, none⟩ x).setCell ⟨q, 1, none⟩ y) z L (.returned (.tuple #[.agg #[.bool sg, .slice a n c], .int .i64 0])) :=
  ⟨sg, a, n, c, f, rfl, (k1.apart k2 h2 _).apart (k2.set _ _) h2 _, ((k2.set _ _).set _ _).mono (by omega), ((hB.trans (k3.mono (by omega))).setCell h1 _).setCell h1 _, k4, k5, k6.trans hz, by omega⟩

set_option maxHeartbeats 2000000 in
theorem parse_num (pre : Bool) (l d : List UInt8) (w : World) (hl : l.length ≤ 274877906944) (hl2 : d.length ≤ l.length) (h1 : Lib.trimPrefix l [126] = d) (h2 : Lib.hasPrefix l [126] = pre) (hd : isNum d = true) (h0 : pre = true → rdr 0 d ≠ 0) :
    Calls Tryd.prog 14 #[.string ⟨l.toArray⟩] w fun e w' => ResP w w' (ival pre (rdr 0 d)) l.length e := by
  have H1 := hid h1
  have H2 := hid h2
  have H0 := hid h0
  clear h1 h2 h0
  cases pre
  · go_enter Tryd.func14, Tryd.ntmps14
    go_wp2_with (first | (go_at_call 49; refine (Tryd.strings_CutPrefix ⟨l.toArray⟩ ⟨#[126]⟩ _).mono ?_; rintro e w' ⟨rfl, rfl⟩; rw [show (⟨l.toArray⟩ : ByteArray).data.toList = l from rfl, show (⟨#[126]⟩ : ByteArray).data.toList = [126] from rfl, H1.out, H2.out]) | (go_at_call 50; refine (natParse_good _ _ (by omega) hd).mono ?_; rintro e w1 ⟨ap, np, cp, hp, rfl, k1, k2, k3, k4, k5⟩; obtain ⟨r0, r1, r2, r3, r4⟩ := new2 k3) | (go_at_call 45; refine (made_any _ _ _ _ _ _ (by omega) k1).mono ?_; rintro e w2 ⟨sgx, ax, nx, cx, fx, rfl, x1, x2, x3, x4, x5, x6, x7⟩; obtain ⟨hcx, hfx⟩ := bcell x3; have X6 := hid x6; have X5 := hid x5; clear x6 x5))
    have hB : Below w.heap.size w w1 := (below_alloc w _).trans (k3.mono (by simp))
    exact bodyPost_ret (by simp [results, Tryd.results14, go_sem, hcx, r0, r1, r4]) rfl (ResP.out x1 x2 x3 x4 X5.out X6.out x7 hB (Nat.le_refl _) r4 (by rw [k4.out]) (by omega) _ _)
  · have H00 := hid (H0.out rfl)
    clear H0
    go_enter Tryd.func14, Tryd.ntmps14
    go_wp2_with (first | (go_at_call 49; refine (Tryd.strings_CutPrefix ⟨l.toArray⟩ ⟨#[126]⟩ _).mono ?_; rintro e w' ⟨rfl, rfl⟩; rw [show (⟨l.toArray⟩ : ByteArray).data.toList = l from rfl, show (⟨#[126]⟩ : ByteArray).data.toList = [126] from rfl, H1.out, H2.out]) | (go_at_call 50; refine (natParse_good _ _ (by omega) hd).mono ?_; rintro e w1 ⟨ap, np, cp, hp, rfl, k1, k2, k3, k4, k5⟩; obtain ⟨r0, r1, r2, r3, r4⟩ := new2 k3) | (go_at_call 51; refine (trim_any _ _ _ _ _ (by omega) k1).mono ?_; rintro e w2 ⟨at', nt, ct, ft, rfl, t1, t2, t3, t4, t5, t6⟩; have T5 := hid t5; clear t5; obtain ⟨hct, hft⟩ := bcell t3; have hz2 : w.heap.size < w2.heap.size := Nat.lt_of_lt_of_le r4 t3.size; have hne : ¬ (nt : Int) = 0 := (by intro e0; have e1 : nt = 0 := (by omega); have e2 := T5.out; rw [t4.zero.2 e1, k4.out] at e2; exact H00.out e2.symm)) | (go_at_call 45; refine (made_any _ _ _ _ _ _ (by omega) (k1.below t3 (Nat.le_refl _))).mono ?_; rintro e w3 ⟨sgx, ax, nx, cx, fx, rfl, x1, x2, x3, x4, x5, x6, x7⟩; obtain ⟨hcx, hfx⟩ := bcell x3; have X6 := hid x6; have X5 := hid x5; clear x6 x5))
    have hB : Below w.heap.size w w1 := (below_alloc w _).trans (k3.mono (by simp))
    have hB2 : Below w.heap.size w w2 := hB.trans (t3.mono hB.size)
    exact bodyPost_ret (by simp [results, Tryd.results14, go_sem, hcx, hct, r0, r1, r4, hz2]) rfl (ResP.out x1 x2 x3 x4 X5.out X6.out x7 hB2 (Nat.le_refl _) hz2 (by rw [k4.out]) (by omega) _ _)

theorem parse_good (l : List UInt8) (w : World) (z : Int) (hl : l.length ≤ 274877906944) (h : prs l = some z) :
    Calls Tryd.prog 14 #[.string ⟨l.toArray⟩] w fun e w' => ResP w w' z l.length e := by
  unfold prs at h
  split at h
  · rename_i hh
    split at h
    · rename_i hq
      rcases l with _ | ⟨c, d⟩
      · cases hh
      · simp only [List.head?_cons, Option.some.injEq] at hh
        subst hh
        simp only [List.tail_cons] at hq h
        obtain ⟨p1, p2⟩ := pre_cons d
        have := parse_num true (126 :: d) d w hl (by simp) p1 p2 hq.1 (fun _ => hq.2)
        simp only [Option.some.injEq] at h
        rw [← h]
        exact this
    · cases h
  · rename_i hh
    split at h
    · rename_i hq
      obtain ⟨p1, p2⟩ := pre_else l hh
      have := parse_num false l l w hl (Nat.le_refl _) p1 p2 hq (fun e => by cases e)
      simp only [Option.some.injEq] at h
      rw [← h]
      exact this
    · cases h
end Go.Proofs.YticfggljaagcmaaDoor
