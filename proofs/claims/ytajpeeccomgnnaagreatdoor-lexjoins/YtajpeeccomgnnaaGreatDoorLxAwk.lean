/-
  The law's awake, walked; LexReserved, walked.
-/
import Derived.Test.YtajpeeccomgnnaaGreatDoorLxToks
import Derived.Test.YtajpeeccomgnnaaGreatDoorLxRrs
namespace Go.Proofs.YtajpeeccomgnnaaGreatDoor
set_option linter.all false
open Go Go.RowKit

def awkS : ByteArray := ⟨#[118, 97, 108, 32, 65, 46, 120, 39, 32, 61, 32, 126, 49, 50, 32, 40, 42, 32, 97, 32, 42, 41, 32, 35, 34, 98, 34]⟩
def awkT : List Tok := [⟨8, [118, 97, 108], 0, 0, 0, 0⟩, ⟨1, [65, 46, 120, 39], 0, 0, 0, 4⟩, ⟨8, [61], 0, 0, 0, 9⟩, ⟨4, [126, 49, 50], -12, 0, 0, 11⟩, ⟨6, [98], 0, 0, 98, 23⟩]
set_option maxRecDepth 100000 in
theorem awk_lex : lexS (fun _ => 0) awkS = .ok awkT := by kernel_rfl
set_option maxRecDepth 100000 in
theorem awk_num : ∀ i, i < 27 → (isDig (bt awkS i) = true ∨ bt awkS i = 126 ∧ isDig (bt awkS (i + 1)) = true) → numE awkS (numF awkS (numW awkS i)) = numW awkS i := by decide +kernel
theorem awk_pf (base : Nat) (w : World) : PFs (fun _ => 0) base w awkS := fun i hd hne _ => by
  refine absurd (awk_num i ?_ hd) hne
  rcases hd with h | h
  · exact dig_in h
  · exact bt_in (by rw [h.1]; decide)
theorem awk_cells {w : World} {la : Option Addr} {lc : Nat} (h : Toks w la awkT.length lc awkT) : ∃ x off, la = some ⟨x, off, none⟩ ∧ 5 ≤ lc ∧ w.cell? ⟨x, off + 7 + 1, none⟩ = some (.string ⟨#[65, 46, 120, 39]⟩) ∧ w.cell? ⟨x, off + 14, none⟩ = some (.int .i64 8) ∧ w.cell? ⟨x, off + 21, none⟩ = some (.int .i64 4) ∧ w.cell? ⟨x, off + 28 + 5, none⟩ = some (.int .i64 98) := by
  obtain ⟨hh, A, _, _, tk⟩ := h
  have hle := A.le
  have hlen : awkT.length = 5 := rfl
  rw [hlen] at hle
  obtain ⟨x, off, rfl, hc⟩ := A.addr (by omega)
  obtain ⟨_, _, _, _, _, t1, _⟩ := tk 1 _ rfl
  obtain ⟨_, _, _, _, t2, _⟩ := tk 2 _ rfl
  obtain ⟨_, _, _, _, t3, _⟩ := tk 3 _ rfl
  obtain ⟨_, _, _, _, _, _, _, _, _, t4, _⟩ := tk 4 _ rfl
  exact ⟨x, off, rfl, hle, (hc 8 (by omega)).trans (congrArg some t1), (hc 14 (by omega)).trans (congrArg some t2), (hc 21 (by omega)).trans (congrArg some t3), (hc 33 (by omega)).trans (congrArg some t4)⟩
set_option maxRecDepth 100000 in
set_option maxHeartbeats 4000000 in
theorem awake_any (m : Int) (w : World) (hb1 : 1 < w.heap.size) (hm : w.cell? ⟨1, 0, none⟩ = some (.int .i64 m)) :
    Calls Tryz.prog 7 #[] w fun e w' => e = .returned (.bool true) ∧ Below w.heap.size w w' := by
  go_enter Tryz.func7, Tryz.ntmps7
  go_wp2_with fail
  refine (tokens_any (fun _ => 0) awkS m w hb1 hm (awk_pf _ _)).mono ?_
  intro e w1 hO
  unfold OutT at hO
  rw [awk_lex] at hO
  obtain ⟨hb, la, lc, rfl, h2, h3⟩ := hO
  obtain ⟨x, off, rfl, hle, c1, c2, c3, c4⟩ := awk_cells h2
  have hx := World.block_lt_of_cell? w1 _ c1
  have B := below_alloc w1 (.cells #[.int .i64 0, .int .i64 0] 26)
  have d1 := (B.cell (p := ⟨x, off + 7 + 1, none⟩) hx).trans c1
  have d2 := (B.cell (p := ⟨x, off + 14, none⟩) hx).trans c2
  have d3 := (B.cell (p := ⟨x, off + 21, none⟩) hx).trans c3
  have d4 := (B.cell (p := ⟨x, off + 28 + 5, none⟩) hx).trans c4
  rw [show awkT.length = 5 from rfl]
  clear h2 h3
  go_wp2_with fail
  go_ret
  exact ⟨rfl, hb.trans (B.mono hb.size)⟩
theorem lexReserved_walk (l : List UInt8) (m : Int) (w : World) (hb1 : 1 < w.heap.size) (hm : w.cell? ⟨1, 0, none⟩ = some (.int .i64 m)) (hl : l.length ≤ 281474976710656) :
    Calls Tryz.prog 4 #[.string ⟨l.toArray⟩] w fun e w' => e = .returned (.bool true) ∧ Below w.heap.size w w' := by
  go_enter Tryz.func4, Tryz.ntmps4
  go_wp2_with (first | (go_at_call 7; refine (awake_any m _ hb1 hm).mono ?_; rintro e w1 ⟨rfl, hb⟩; have hm1 := (hb.cell (p := ⟨1, 0, none⟩) hb1).trans hm) | (go_at_call 11; refine (reserved_any l m _ hm1 hl).mono ?_; rintro e w2 ⟨rfl, rfl⟩) | (go_at_call 12; refine (rreserved_any l _).mono ?_; rintro e w2 ⟨rfl, rfl⟩))
  go_ret
  exact ⟨by simp, hb⟩
end Go.Proofs.YtajpeeccomgnnaaGreatDoor
