/-
  The reference's natParse, walked.
-/
import Derived.Test.YticfggljaagcmaaDoorParse2
namespace Go.Proofs.YticfggljaagcmaaDoor
set_option linter.all false
open Go.RowKit Go.Shelf

def Stopped3 (p : Prop) : Prop := p
theorem stopped3 {p : Prop} (h : Stopped3 p) : p := h

set_option maxHeartbeats 4000000 in
theorem rnatParse_good (l : List UInt8) (w : World) (hl : l.length ≤ 274877906944) (hb : isNum l = true) :
    Calls Tryd.prog 52 #[.string ⟨l.toArray⟩] w fun e w' => ∃ a n c h, e = .returned (.tuple #[.slice a n c, .bool true]) ∧ Us w' a n c h ∧ Below w.heap.size w w' ∧ Hid (val h n = rdr 0 l) ∧ n ≤ l.length := by
  rcases l with _ | ⟨c, l⟩
  · cases hb
  obtain ⟨h1, h2, h3⟩ := isNum_parts hb
  clear hb h2
  have HD := hid h3
  have hx : (({ data := (c :: l).toArray } : ByteArray)[0]'(by simp [ByteArray.size])).toNat = c.toNat := rfl
  have hll : l.length + 1 ≤ 274877906944 := hl
  clear h3
  have hg : (¬ (c.toNat : Int) = 48 ∧ ((c.toNat : Int) == 48) = false) ∨ ((c.toNat : Int) = 48 ∧ ((c.toNat : Int) == 48) = true ∧ ¬ (1 < (l.length : Int) + 1)) := by
    by_cases q : (c.toNat : Int) = 48
    · right
      refine ⟨q, by simpa using q, ?_⟩
      rcases h1 with h | h
      · subst h; simp
      · exact absurd (UInt8.toNat_inj.1 (by rw [show (48 : UInt8).toNat = 48 from rfl]; omega)) h
    · exact .inl ⟨q, by simpa using q⟩
  clear h1
  go_enter Tryd.func52, Tryd.ntmps52
  rcases hg with ⟨hg1, hg2⟩ | ⟨hg1, hg2, hg3⟩
  all_goals
    go_wp2
    go_loopw [5] (fun iv wr => wr = w ∧ ∃ i : Nat, i ≤ l.length + 1 ∧ iv = .int .i64 i) (fun iv _ => (l.length + 1) - (intOf iv).toNat)
    case atStart => exact ⟨rfl, 0, Nat.zero_le _, rfl⟩
    case round =>
      obtain ⟨hw, i, hi, rfl⟩ := hrel
      obtain rfl := hw.symm
      by_cases hil : i < l.length + 1
      · have hidx : i < (c :: l).length := hil
        have hm := HD.out _ (List.getElem_mem hidx)
        obtain ⟨y, HY⟩ : ∃ y, Hid (((c :: l)[i]'hidx).toNat = y) := ⟨_, hid rfl⟩
        rw [HY.out] at hm
        obtain ⟨g1, g2⟩ := hm
        have hxi : (({ data := (c :: l).toArray } : ByteArray)[i]'(by simp [ByteArray.size]; omega)).toNat = y := HY.out
        go_wp2
        refine ⟨⟨trivial, i + 1, by omega, rfl⟩, by simp [intOf]; omega⟩
      · obtain rfl : i = l.length + 1 := by omega
        go_wp2
        go_loopw [4, 6] (fun ov iv wx => ∃ (i m d : Nat) (r : Option Addr) (h : Nat → Nat), i ≤ l.length + 1 ∧ iv = .int .i64 i ∧ ov = .slice r m d ∧ Us wx r m d h ∧ Hid (val h m = rdr 0 ((c :: l).take i)) ∧ m ≤ i ∧ Below w.heap.size w wx) (fun _ iv _ => (l.length + 1) - (intOf iv).toNat)
        case atStart => exact ⟨0, 0, 0, none, fun _ => 0, Nat.zero_le _, rfl, rfl, Us.nil _ _, hid rfl, Nat.le_refl _, Below.refl _ _⟩
        case round =>
          obtain ⟨i, m, d, r, h, hi, rfl, rfl, hU, hV, hm, hB⟩ := hrel
          have hbs := hB.size
          by_cases hil : i < l.length + 1
          · have hidx : i < (c :: l).length := hil
            have hm := HD.out _ (List.getElem_mem hidx)
            obtain ⟨y, HY⟩ : ∃ y, Hid (((c :: l)[i]'hidx).toNat = y) := ⟨_, hid rfl⟩
            rw [HY.out] at hm
            obtain ⟨g1, g2⟩ := hm
            have hxi : (({ data := (c :: l).toArray } : ByteArray)[i]'(by simp [ByteArray.size]; omega)).toNat = y := HY.out
            have ey : (y : Int) - 48 = ((y - 48 : Nat) : Int) := by omega
            have EY := hid ey
            have HT : Hid (rdr 0 ((c :: l).take (i + 1)) = 10 * rdr 0 ((c :: l).take i) + (y - 48)) := by
              have := rdr_take (D := c :: l) (j := i) hidx
              rw [List.getElem?_eq_getElem hidx] at this
              refine hid ?_
              rw [this, ← HY.out]; rfl
            clear ey
            go_wp2_with fail
            rw [EY.out]
            refine (times_any _ _ _ 10 (y - 48) _ _ (by omega) (by omega) (by omega) hU).mono ?_
            rintro e w4 ⟨at', nt, ct, ft, rfl, t1, t2, t3, t4, t5, t6⟩
            go_wp2_with fail
            go_roundw
            case rel =>
              go_light
              refine ⟨i + 1, nt, ct, at', ft, by omega, by congr 1, rfl, t1, hid ?_, by omega, hB.trans (t3.mono hbs)⟩
              rw [t5.out, HT.out, hV.out, Nat.mul_comm]
            case measure => simp [intOf]; omega
          · obtain rfl : i = l.length + 1 := by omega
            go_wp2
            go_ret2
            refine ⟨_, _, _, _, rfl, hU, hB, hid ?_, by simpa using hm⟩
            rw [hV.out, List.take_of_length_le (by simp)]

set_option maxHeartbeats 4000000 in
theorem rnatParse_bad (l : List UInt8) (w : World) (hl : l.length ≤ 274877906944) (hb : isNum l = false) :
    Calls Tryd.prog 52 #[.string ⟨l.toArray⟩] w fun e w' => e = .returned (.tuple #[.slice none 0 0, .bool false]) ∧ w' = w := by
  rcases l with _ | ⟨c, l⟩
  · clear hb
    go_enter Tryd.func52, Tryd.ntmps52
    go_wp2
    go_ret2
    exact ⟨rfl, rfl⟩
  · have hx : (({ data := (c :: l).toArray } : ByteArray)[0]'(by simp [ByteArray.size])).toNat = c.toNat := rfl
    have hll : l.length + 1 ≤ 274877906944 := hl
    have ha : Hid (c ≠ 48 ∨ l = [] → ∃ i, ∃ h : i < (c :: l).length, ¬ (48 ≤ ((c :: l)[i]'h).toNat ∧ ((c :: l)[i]'h).toNat ≤ 57)) := by
      refine hid (fun h => ?_)
      unfold isNum at hb
      have hq : ((c :: l).all fun c => decide (48 ≤ c.toNat) && decide (c.toNat ≤ 57)) = false := by
        rcases hq : ((c :: l).all fun c => decide (48 ≤ c.toNat) && decide (c.toNat ≤ 57)) with _ | _
        · rfl
        · rw [hq] at hb
          rcases h with h | h
          · simp [h] at hb
          · subst h; simp at hb
      rw [List.all_eq_false] at hq
      obtain ⟨x, hx, hn⟩ := hq
      obtain ⟨i, hi, rfl⟩ := List.getElem_of_mem hx
      exact ⟨i, hi, by simpa using hn⟩
    clear hb
    by_cases hc : (c.toNat : Int) = 48 ∧ 1 < (l.length : Int) + 1
    · obtain ⟨hc1, hc2⟩ := hc
      clear ha
      go_enter Tryd.func52, Tryd.ntmps52
      go_wp2
      go_ret2
      exact ⟨rfl, rfl⟩
    · have hA := hid (ha.out (by
        by_cases q : c = 48
        · right
          subst q
          rcases l with _ | ⟨d, t⟩
          · rfl
          · exfalso; apply hc; simp; omega
        · exact .inl q))
      have hg : (¬ (c.toNat : Int) = 48 ∧ ((c.toNat : Int) == 48) = false) ∨ ((c.toNat : Int) = 48 ∧ ((c.toNat : Int) == 48) = true ∧ ¬ (1 < (l.length : Int) + 1)) := by
        by_cases q : (c.toNat : Int) = 48
        · exact .inr ⟨q, by simpa using q, fun h => hc ⟨q, h⟩⟩
        · exact .inl ⟨q, by simpa using q⟩
      clear ha hc
      go_enter Tryd.func52, Tryd.ntmps52
      rcases hg with ⟨hg1, hg2⟩ | ⟨hg1, hg2, hg3⟩
      all_goals
        go_wp2
        go_loopw [5] (fun iv wr => wr = w ∧ ∃ i : Nat, i ≤ l.length + 1 ∧ iv = .int .i64 i ∧ Hid (∀ j, ∀ h : j < (c :: l).length, j < i → 48 ≤ ((c :: l)[j]'h).toNat ∧ ((c :: l)[j]'h).toNat ≤ 57)) (fun iv _ => (l.length + 1) - (intOf iv).toNat)
        case atStart => exact ⟨rfl, 0, Nat.zero_le _, rfl, hid (fun j h hj => by omega)⟩
        case round =>
          obtain ⟨hw, i, hi, rfl, HI⟩ := hrel
          obtain rfl := hw.symm
          by_cases hil : i < l.length + 1
          · have hidx : i < (c :: l).length := hil
            obtain ⟨y, HY⟩ : ∃ y, Hid (((c :: l)[i]'hidx).toNat = y) := ⟨_, hid rfl⟩
            have hxi : (({ data := (c :: l).toArray } : ByteArray)[i]'(by simp [ByteArray.size]; omega)).toNat = y := HY.out
            by_cases hy : 48 ≤ (y : Int)
            · by_cases hy2 : 57 < (y : Int)
              · go_wp2
                go_ret2
                exact ⟨rfl, rfl⟩
              · go_wp2
                refine ⟨⟨trivial, i + 1, by omega, rfl, hid (fun j h hj => ?_)⟩, by simp [intOf]; omega⟩
                by_cases e : j = i
                · subst e; rw [HY.out]; omega
                · exact HI.out j h (by omega)
            · go_wp2
              go_ret2
              exact ⟨rfl, rfl⟩
          · exfalso
            obtain ⟨j, hj, hn⟩ := hA.out
            exact hn (HI.out j hj (by simp at hj; omega))
end Go.Proofs.YticfggljaagcmaaDoor
