/-
  The library's decimal: any shift, walked.
-/
import Derived.Test.YtajpeeccomgnnaaGreatDoorPdL
import Derived.Test.YtajpeeccomgnnaaGreatDoorPdR
import Derived.BigQuiet
namespace Go.Proofs.YtajpeeccomgnnaaGreatDoor
set_option linter.all false
open Go Go.RowKit

/-- The table of left shifts in memory. -/
structure Tb (cd : Nat → Nat) (cs : Nat → ByteArray) (x off b : Nat) (w : World) : Prop where
  lo : 13 < b
  lx : x < b
  g0 : w.cell? ⟨13, 0, none⟩ = some (.slice (some ⟨x, off, none⟩) 61 61)
  g1 : ∀ k, k ≤ 60 → w.cell? ⟨x, off + k * 2, none⟩ = some (.int .i64 (cd k : Nat))
  g2 : ∀ k, k ≤ 60 → w.cell? ⟨x, off + k * 2 + 1, none⟩ = some (.string (cs k))
theorem Tb.keep {cd : Nat → Nat} {cs : Nat → ByteArray} {x off b : Nat} {w w' : World} (h : Tb cd cs x off b w) (k : Below b w w') : Tb cd cs x off b w' := by
  obtain ⟨h1, h2, h3, h4, h5⟩ := h
  refine ⟨h1, h2, ?_, fun i hi => ?_, fun i hi => ?_⟩
  · rw [k.cell (by simpa using h1)]; exact h3
  · rw [k.cell (by simpa using h2)]; exact h4 i hi
  · rw [k.cell (by simpa using h2)]; exact h5 i hi
abbrev DcS (w : World) (b : Nat) (S : Sd) (ng : Bool) : Prop := Dc w b S.D S.nd S.dp ng S.tr
abbrev DwS (w : World) (b : Nat) (w' : World) (S : Sd) (ng : Bool) : Prop := Dw w b w' S.D S.nd S.dp ng S.tr
theorem left_S {cd : Nat → Nat} {cs : Nat → ByteArray} {x off b k : Nat} {S : Sd} {ng : Bool} {w : World} (hc : Cheats cd cs) (ht : Tb cd cs x off b w) (h1 : 1 ≤ k) (h60 : k ≤ 60) (ho : SdOk S) (h : DcS w b S ng) :
    Calls Tryz.prog 156 #[.pointer (some ⟨b, 0, none⟩), .int .u64 (k : Nat)] w fun e w' => e = .returned (.tuple #[]) ∧ DwS w b w' (shl cd cs k S) ng := by
  have hk := hc k h1 h60
  have hl := hk.len
  have hp := hk.pos
  exact left_any b S.D S.nd k (cd k) (dlOf cd cs k S) S.dp ng S.tr (cs k) x off w ho.pos ho.le ho.dg ho.top h1 h60 (by omega) (by omega) hk.dl_pos (shl_exact hc h1 h60 ho) rfl h ht.g0 (ht.g1 k h60) (ht.g2 k h60)
theorem right_S {b k : Nat} {S : Sd} {ng : Bool} {w : World} (h60 : k ≤ 60) (ho : SdOk S) (h : DcS w b S ng) :
    Calls Tryz.prog 157 #[.pointer (some ⟨b, 0, none⟩), .int .u64 (k : Nat)] w fun e w' => e = .returned (.tuple #[]) ∧ DwS w b w' (shr k S) ng := by
  obtain ⟨R, J, r, e⟩ := shr_spec k ho
  rw [e]
  exact right_any b S.D S.nd k R J S.dp ng S.tr w h60 ho r h
set_option maxRecDepth 100000 in
set_option maxHeartbeats 4000000 in
theorem shift_S {cd : Nat → Nat} {cs : Nat → ByteArray} {x off b : Nat} {S : Sd} {ng : Bool} {w : World} (k : Int) (hk : -9223372036854775808 ≤ k ∧ k ≤ 9223372036854775807) (hc : Cheats cd cs) (ht : Tb cd cs x off b w) (ho : SdOk S) (h : DcS w b S ng) :
    Calls Tryz.prog 151 #[.pointer (some ⟨b, 0, none⟩), .int .i64 k] w fun e w' => e = .returned (.tuple #[]) ∧ DwS w b w' (shS cd cs k S) ng := by
  obtain ⟨T, hT⟩ : ∃ T, shS cd cs k S = T := ⟨_, rfl⟩
  rw [hT]
  have c0 := h.n
  have hn0 : ((S.nd : Int) == 0) = false := by have := ho.pos; simp; omega
  have Hc := hid hc
  have Ho := hid ho
  have Ht := hid ht
  have Hh := hid h
  unfold shS at hT
  clear hc ho ht h
  go_enter Tryz.func151, Tryz.ntmps151
  rcases Int.lt_trichotomy k 0 with hk0 | rfl | hk0
  · rw [if_neg (by omega), if_pos hk0] at hT
    have HT := hid hT
    clear hT
    obtain ⟨m, rfl⟩ : ∃ m : Nat, k = -(m : Int) := ⟨(-k).toNat, by omega⟩
    have hm : (-(-(m : Int))).toNat = m := by omega
    rw [hm] at HT
    clear hm
    have hk1 : ¬ (0 : Int) < -(m : Int) := by omega
    have hm0 : 0 < m := by omega
    have hm62 : m ≤ 9223372036854775808 := by omega
    clear hk hk0
    go_wp2_with fail
    clear hn0 c0 hk1
    go_loopg [1] m (fun g kv wr => kv = .int .i64 (-(g : Int)) ∧ 0 < g ∧ g ≤ 9223372036854775808 ∧ ∃ S', SdOk S' ∧ Hid (shR g S' = T) ∧ DwS w b wr S' ng)
    case atStart => exact ⟨rfl, hm0, hm62, S, Ho.out, HT, Hh.out, Below.refl _ _⟩
    case round =>
      obtain ⟨rfl, hg0, hg62, S', ho, hs, hw⟩ := hrel
      have hs2 := hs.out
      rw [shR] at hs2
      clear hs
      by_cases h60 : 60 < gk
      · rw [if_pos h60] at hs2
        have hs := hid hs2
        have Ho' := hid ho
        have Hw' := hid hw
        clear hs2 ho hw
        have hlt : -(gk : Int) < -60 := by omega
        go_wp2_with fail
        refine (right_S (k := 60) (by omega) Ho'.out Hw'.out.dc).mono ?_
        rintro e w' ⟨rfl, hw2⟩
        have Hw2 := hid hw2
        clear hw2
        go_wp2_with fail
        go_roundg (gk - 60)
        case measure => omega
        case rel => exact ⟨congrArg (Value.int .i64) (by omega), by omega, by omega, _, shr_ok Ho'.out, hs, Dw.trans Hw'.out Hw2.out⟩
      · rw [if_neg h60] at hs2
        have hs := hid hs2
        have Ho' := hid ho
        have Hw' := hid hw
        clear hs2 ho hw
        have hlt : ¬ -(gk : Int) < -60 := by omega
        have hwr : IntKind.u64.wrap (gk : Int) = (gk : Int) := IntWalk.u64_in _ (by omega)
        go_wp2_with fail
        refine (right_S (k := gk) (by omega) Ho'.out Hw'.out.dc).mono ?_
        rintro e w' ⟨rfl, hw2⟩
        have Hw2 := hid hw2
        clear hw2
        go_wp2_with fail
        go_end0
        refine ⟨rfl, ?_⟩
        have := Dw.trans Hw'.out Hw2.out
        rwa [hs.out] at this
  · rw [if_neg (by omega), if_neg (by omega)] at hT
    subst hT
    go_wp2_with fail
    go_end0
    exact ⟨rfl, Hh.out, Below.refl _ _⟩
  · rw [if_pos hk0] at hT
    have HT := hid hT
    clear hT
    obtain ⟨m, rfl⟩ : ∃ m : Nat, k = (m : Int) := ⟨k.toNat, by omega⟩
    have hm : (m : Int).toNat = m := by omega
    rw [hm] at HT
    clear hm
    have hm0 : 0 < m := by omega
    have hm62 : m ≤ 9223372036854775807 := by omega
    clear hk
    go_wp2_with fail
    clear hn0 c0 hk0
    go_loopg [1] m (fun g kv wr => kv = .int .i64 (g : Int) ∧ 0 < g ∧ g ≤ 9223372036854775807 ∧ ∃ S', SdOk S' ∧ Hid (shL cd cs g S' = T) ∧ DwS w b wr S' ng)
    case atStart => exact ⟨rfl, hm0, hm62, S, Ho.out, HT, Hh.out, Below.refl _ _⟩
    case round =>
      obtain ⟨rfl, hg0, hg62, S', ho, hs, hw⟩ := hrel
      have hs2 := hs.out
      rw [shL] at hs2
      clear hs
      by_cases h60 : 60 < gk
      · rw [if_pos h60] at hs2
        have hs := hid hs2
        have Ho' := hid ho
        have Hw' := hid hw
        clear hs2 ho hw
        have hlt : (60 : Int) < gk := by omega
        go_wp2_with fail
        refine (left_S (k := 60) Hc.out (Ht.out.keep Hw'.out.bl) (by omega) (by omega) Ho'.out Hw'.out.dc).mono ?_
        rintro e w' ⟨rfl, hw2⟩
        have Hw2 := hid hw2
        clear hw2
        go_wp2_with fail
        go_roundg (gk - 60)
        case measure => omega
        case rel => exact ⟨congrArg (Value.int .i64) (by omega), by omega, by omega, _, shl_ok Hc.out (by omega) (by omega) Ho'.out, hs, Dw.trans Hw'.out Hw2.out⟩
      · rw [if_neg h60] at hs2
        have hs := hid hs2
        have Ho' := hid ho
        have Hw' := hid hw
        clear hs2 ho hw
        have hlt : ¬ (60 : Int) < gk := by omega
        have hwr : IntKind.u64.wrap (gk : Int) = (gk : Int) := IntWalk.u64_in _ (by omega)
        go_wp2_with fail
        refine (left_S (k := gk) Hc.out (Ht.out.keep Hw'.out.bl) (by omega) (by omega) Ho'.out Hw'.out.dc).mono ?_
        rintro e w' ⟨rfl, hw2⟩
        have Hw2 := hid hw2
        clear hw2
        go_wp2_with fail
        go_end0
        refine ⟨rfl, ?_⟩
        have := Dw.trans Hw'.out Hw2.out
        rwa [hs.out] at this
end Go.Proofs.YtajpeeccomgnnaaGreatDoor
