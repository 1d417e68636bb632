/-
  The library's decimal in memory; trim.
-/
import Derived.Test.YtajpeeccomgnnaaGreatDoorPdQ
namespace Go.Proofs.YtajpeeccomgnnaaGreatDoor
set_option linter.all false
open Go Go.RowKit

/-- A decimal's cells: its digits, how many, where the point is, sign, whether something was cut off. -/
structure Dc (w : World) (b : Nat) (D : Nat → Nat) (nd : Nat) (dp : Int) (ng tr : Bool) : Prop where
  lt : b < w.heap.size
  arr : ∀ i, i < 800 → w.cell? ⟨b, i, none⟩ = some (.int .u8 (D i : Nat))
  n : w.cell? ⟨b, 800, none⟩ = some (.int .i64 (nd : Nat))
  p : w.cell? ⟨b, 801, none⟩ = some (.int .i64 dp)
  g : w.cell? ⟨b, 802, none⟩ = some (.bool ng)
  t : w.cell? ⟨b, 803, none⟩ = some (.bool tr)
  fr : ∀ o, w.frozen? ⟨b, o, none⟩ = false
theorem off_ne {b i j : Nat} (h : i ≠ j) : (⟨b, i, none⟩ : Addr) ≠ ⟨b, j, none⟩ := by
  intro e; simp only [Addr.mk.injEq, and_true, true_and] at e; exact h e
section
variable {w : World} {b : Nat} {D : Nat → Nat} {nd : Nat} {dp : Int} {ng tr : Bool}
theorem Dc.keep (h : Dc w b D nd dp ng tr) {w' : World} (k : Below (b + 1) w w') : Dc w' b D nd dp ng tr := by
  obtain ⟨h1, h2, h3, h4, h5, h6, h7⟩ := h
  refine ⟨by have := k.size; omega, fun i hi => ?_, ?_, ?_, ?_, ?_, fun o => ?_⟩
  · rw [k.cell (by simp)]; exact h2 i hi
  · rw [k.cell (by simp)]; exact h3
  · rw [k.cell (by simp)]; exact h4
  · rw [k.cell (by simp)]; exact h5
  · rw [k.cell (by simp)]; exact h6
  · rw [k.frozen (by simp)]; exact h7 o
theorem Dc.drew (h : Dc w b D nd dp ng tr) : Dc w.drew b D nd dp ng tr := h.keep (Below.refl _ _).drew
theorem Dc.setd (h : Dc w b D nd dp ng tr) {i v : Nat} {z : Int} (hi : i < 800) (hz : z = (v : Int)) : Dc (w.setCell ⟨b, i, none⟩ (.int .u8 z)) b (upd D i v) nd dp ng tr := by
  subst hz
  obtain ⟨h1, h2, h3, h4, h5, h6, h7⟩ := h
  refine ⟨by simpa using h1, fun j hj => ?_, ?_, ?_, ?_, ?_, fun o => by rw [World.frozen?_setCell]; exact h7 o⟩
  · by_cases e : j = i
    · subst e; rw [upd_at]; exact World.cell?_setCell_same _ _ _ (h2 j hj)
    · rw [upd_ne e, World.cell?_setCell_other _ _ _ _ (off_ne (Ne.symm e))]; exact h2 j hj
  · rw [World.cell?_setCell_other _ _ _ _ (off_ne (by omega))]; exact h3
  · rw [World.cell?_setCell_other _ _ _ _ (off_ne (by omega))]; exact h4
  · rw [World.cell?_setCell_other _ _ _ _ (off_ne (by omega))]; exact h5
  · rw [World.cell?_setCell_other _ _ _ _ (off_ne (by omega))]; exact h6
theorem Dc.setn (h : Dc w b D nd dp ng tr) {v : Nat} {z : Int} (hz : z = (v : Int)) : Dc (w.setCell ⟨b, 800, none⟩ (.int .i64 z)) b D v dp ng tr := by
  subst hz
  obtain ⟨h1, h2, h3, h4, h5, h6, h7⟩ := h
  refine ⟨by simpa using h1, fun j hj => ?_, ?_, ?_, ?_, ?_, fun o => by rw [World.frozen?_setCell]; exact h7 o⟩
  · rw [World.cell?_setCell_other _ _ _ _ (off_ne (by omega))]; exact h2 j hj
  · exact World.cell?_setCell_same _ _ _ h3
  · rw [World.cell?_setCell_other _ _ _ _ (off_ne (by omega))]; exact h4
  · rw [World.cell?_setCell_other _ _ _ _ (off_ne (by omega))]; exact h5
  · rw [World.cell?_setCell_other _ _ _ _ (off_ne (by omega))]; exact h6
theorem Dc.setp (h : Dc w b D nd dp ng tr) {z y : Int} (hz : z = y) : Dc (w.setCell ⟨b, 801, none⟩ (.int .i64 z)) b D nd y ng tr := by
  subst hz
  obtain ⟨h1, h2, h3, h4, h5, h6, h7⟩ := h
  refine ⟨by simpa using h1, fun j hj => ?_, ?_, ?_, ?_, ?_, fun o => by rw [World.frozen?_setCell]; exact h7 o⟩
  · rw [World.cell?_setCell_other _ _ _ _ (off_ne (by omega))]; exact h2 j hj
  · rw [World.cell?_setCell_other _ _ _ _ (off_ne (by omega))]; exact h3
  · exact World.cell?_setCell_same _ _ _ h4
  · rw [World.cell?_setCell_other _ _ _ _ (off_ne (by omega))]; exact h5
  · rw [World.cell?_setCell_other _ _ _ _ (off_ne (by omega))]; exact h6
theorem Dc.setg (h : Dc w b D nd dp ng tr) (z : Bool) : Dc (w.setCell ⟨b, 802, none⟩ (.bool z)) b D nd dp z tr := by
  obtain ⟨h1, h2, h3, h4, h5, h6, h7⟩ := h
  refine ⟨by simpa using h1, fun j hj => ?_, ?_, ?_, ?_, ?_, fun o => by rw [World.frozen?_setCell]; exact h7 o⟩
  · rw [World.cell?_setCell_other _ _ _ _ (off_ne (by omega))]; exact h2 j hj
  · rw [World.cell?_setCell_other _ _ _ _ (off_ne (by omega))]; exact h3
  · rw [World.cell?_setCell_other _ _ _ _ (off_ne (by omega))]; exact h4
  · exact World.cell?_setCell_same _ _ _ h5
  · rw [World.cell?_setCell_other _ _ _ _ (off_ne (by omega))]; exact h6
theorem Dc.sett (h : Dc w b D nd dp ng tr) (z : Bool) : Dc (w.setCell ⟨b, 803, none⟩ (.bool z)) b D nd dp ng z := by
  obtain ⟨h1, h2, h3, h4, h5, h6, h7⟩ := h
  refine ⟨by simpa using h1, fun j hj => ?_, ?_, ?_, ?_, ?_, fun o => by rw [World.frozen?_setCell]; exact h7 o⟩
  · rw [World.cell?_setCell_other _ _ _ _ (off_ne (by omega))]; exact h2 j hj
  · rw [World.cell?_setCell_other _ _ _ _ (off_ne (by omega))]; exact h3
  · rw [World.cell?_setCell_other _ _ _ _ (off_ne (by omega))]; exact h4
  · rw [World.cell?_setCell_other _ _ _ _ (off_ne (by omega))]; exact h5
  · exact World.cell?_setCell_same _ _ _ h6
end
/-- Another decimal's world, of which nothing below b has turned. -/
structure Dw (w : World) (b : Nat) (w' : World) (D : Nat → Nat) (nd : Nat) (dp : Int) (ng tr : Bool) : Prop where
  dc : Dc w' b D nd dp ng tr
  bl : Below b w w'
theorem Dw.trans {w w' w2 : World} {b nd nd2 : Nat} {D D2 : Nat → Nat} {dp dp2 : Int} {ng tr ng2 tr2 : Bool} (h : Dw w b w' D nd dp ng tr) (k : Dw w' b w2 D2 nd2 dp2 ng2 tr2) : Dw w b w2 D2 nd2 dp2 ng2 tr2 := ⟨k.dc, h.bl.trans k.bl⟩

theorem dN (B : Nat) (w : World) (q : Nat) : Below B w (w.drewN q) := ⟨rfl, rfl, rfl, Nat.le_refl _, fun _ _ => rfl⟩
set_option maxRecDepth 100000 in
set_option maxHeartbeats 4000000 in
theorem dtrim_any (b : Nat) (D : Nat → Nat) (nd : Nat) (dp : Int) (ng tr : Bool) (w : World) (hn : nd ≤ 800) (h : Dc w b D nd dp ng tr) :
    Calls Tryz.prog 164 #[.pointer (some ⟨b, 0, none⟩)] w fun e w' => e = .returned (.tuple #[]) ∧ Dw w b w' D (trimN D nd) (if trimN D nd = 0 then 0 else dp) ng tr := by
  obtain ⟨T, hT⟩ : ∃ T, trimN D nd = T := ⟨_, rfl⟩
  obtain ⟨dp2, hd2⟩ : ∃ d : Int, (if T = 0 then 0 else dp) = d := ⟨_, rfl⟩
  rw [hT, hd2]
  have HD := hid hd2
  have HT0 := hid hT
  clear hd2 hT
  go_enter Tryz.func164, Tryz.ntmps164
  go_wp2_with fail
  go_loopg [] nd (fun k wr => k ≤ nd ∧ Hid (trimN D k = T) ∧ Dw w b wr D k dp ng tr)
  case atStart => exact ⟨Nat.le_refl _, HT0, h, Below.refl _ _⟩
  case round =>
    obtain ⟨hk, HT, hd⟩ := hrel
    have hdc := hd.dc
    have c0 := hdc.n
    have c1 := hdc.p
    have fr := hdc.fr
    rcases gk with _ | k
    · go_wp2_with fail
      go_quiet (fail)
      go_wp2_with fail
      go_end0
      refine ⟨rfl, ?_⟩
      have h0 : 0 = T := HT.out
      have h1 : 0 = dp2 := by have := HD.out; rwa [← h0, if_pos rfl] at this
      rw [← h0, ← h1]
      exact ⟨(hdc.keep (dN _ _ _)).setp rfl, (hd.bl.trans (dN _ _ _)).setCell (Nat.le_refl _) _⟩
    · have c2 := hdc.arr k (by omega)
      have hw : IntKind.i64.wrap ((k : Int) + 1 - 1) = (k : Int) := by rw [show (k : Int) + 1 - 1 = k by omega]; exact IntWalk.i64_in _ (by omega)
      by_cases h48 : D k = 48
      · rw [h48] at c2
        go_wp2_with fail
        go_quiet (fail)
        go_wp2_with fail
        go_roundg k
        case measure => omega
        case rel => exact ⟨by omega, hid (by have := HT.out; rw [trimN, if_pos h48] at this; exact this), (hdc.keep (dN _ _ _)).setn rfl, (hd.bl.trans (dN _ _ _)).setCell (Nat.le_refl _) _⟩
      · have h48b : ¬ (D k : Int) = 48 := by omega
        have h48c : ((D k : Int) == 48) = false := by simp; omega
        have h0 : ((k : Int) + 1 == 0) = false := by simp; omega
        go_wp2_with fail
        go_quiet (fail)
        go_wp2_with fail
        go_end0
        refine ⟨rfl, ?_⟩
        have h0 : k + 1 = T := by have := HT.out; rw [trimN, if_neg h48] at this; exact this
        have h1 : dp = dp2 := by have := HD.out; rwa [← h0, if_neg (by omega)] at this
        rw [← h0, ← h1]
        exact ⟨hdc.keep (dN _ _ _), hd.bl.trans (dN _ _ _)⟩
end Go.Proofs.YtajpeeccomgnnaaGreatDoor
