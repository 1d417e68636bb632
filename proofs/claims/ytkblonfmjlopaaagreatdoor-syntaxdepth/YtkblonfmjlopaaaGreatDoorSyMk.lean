/-
  list, walked: one thing and more, with a word between them; here of expressions.
-/
import Derived.Test.YtkblonfmjlopaaaGreatDoorSyE
import Derived.Deep.LoopGhost
import Derived.IntWalk
set_option linter.all false
set_option maxRecDepth 1000000
set_option maxHeartbeats 16000000
namespace Go.Proofs.YtkblonfmjlopaaaGreatDoor
open Go Go.RowKit
def cellAt (cs : Array Value) (j : Nat) : Value := cs[j]!
theorem new_cells (w : World) (cs : Array Value) (T : TypeId) : ∀ j, j < cs.size → (w.alloc (.cells cs T)).cell? ⟨w.heap.size, 0 + j, none⟩ = some (cellAt cs j) := fun j hj => by
  rw [Nat.zero_add, World.cell?_alloc_new]; unfold cellAt; simp [hj]
theorem bx1 {w : World} {k : Nat} {v0 : Value} (h : ∀ j, j < (#[v0] : Array Value).size → w.cell? ⟨k, 0 + j, none⟩ = some (cellAt #[v0] j)) : w.cell? ⟨k, 0, none⟩ = some v0 := h 0 (show 0 < 1 by omega)
theorem bx2 {w : World} {k : Nat} {v0 v1 : Value} (h : ∀ j, j < (#[v0, v1] : Array Value).size → w.cell? ⟨k, 0 + j, none⟩ = some (cellAt #[v0, v1] j)) : w.cell? ⟨k, 0, none⟩ = some v0 ∧ w.cell? ⟨k, 1, none⟩ = some v1 := ⟨h 0 (show 0 < 2 by omega), h 1 (show 1 < 2 by omega)⟩
theorem bx3 {w : World} {k : Nat} {v0 v1 v2 : Value} (h : ∀ j, j < (#[v0, v1, v2] : Array Value).size → w.cell? ⟨k, 0 + j, none⟩ = some (cellAt #[v0, v1, v2] j)) : w.cell? ⟨k, 0, none⟩ = some v0 ∧ w.cell? ⟨k, 1, none⟩ = some v1 ∧ w.cell? ⟨k, 2, none⟩ = some v2 := ⟨h 0 (show 0 < 3 by omega), h 1 (show 1 < 3 by omega), h 2 (show 2 < 3 by omega)⟩
theorem bx4 {w : World} {k : Nat} {v0 v1 v2 v3 : Value} (h : ∀ j, j < (#[v0, v1, v2, v3] : Array Value).size → w.cell? ⟨k, 0 + j, none⟩ = some (cellAt #[v0, v1, v2, v3] j)) : w.cell? ⟨k, 0, none⟩ = some v0 ∧ w.cell? ⟨k, 1, none⟩ = some v1 ∧ w.cell? ⟨k, 2, none⟩ = some v2 ∧ w.cell? ⟨k, 3, none⟩ = some v3 := ⟨h 0 (show 0 < 4 by omega), h 1 (show 1 < 4 by omega), h 2 (show 2 < 4 by omega), h 3 (show 3 < 4 by omega)⟩
theorem bx7 {w : World} {k : Nat} {v0 v1 v2 v3 v4 v5 v6 : Value} (h : ∀ j, j < (#[v0, v1, v2, v3, v4, v5, v6] : Array Value).size → w.cell? ⟨k, 0 + j, none⟩ = some (cellAt #[v0, v1, v2, v3, v4, v5, v6] j)) : w.cell? ⟨k, 0, none⟩ = some v0 ∧ w.cell? ⟨k, 1, none⟩ = some v1 ∧ w.cell? ⟨k, 2, none⟩ = some v2 ∧ w.cell? ⟨k, 3, none⟩ = some v3 ∧ w.cell? ⟨k, 4, none⟩ = some v4 ∧ w.cell? ⟨k, 5, none⟩ = some v5 ∧ w.cell? ⟨k, 6, none⟩ = some v6 := ⟨h 0 (show 0 < 7 by omega), h 1 (show 1 < 7 by omega), h 2 (show 2 < 7 by omega), h 3 (show 3 < 7 by omega), h 4 (show 4 < 7 by omega), h 5 (show 5 < 7 by omega), h 6 (show 6 < 7 by omega)⟩
theorem bx9 {w : World} {k : Nat} {v0 v1 v2 v3 v4 v5 v6 v7 v8 : Value} (h : ∀ j, j < (#[v0, v1, v2, v3, v4, v5, v6, v7, v8] : Array Value).size → w.cell? ⟨k, 0 + j, none⟩ = some (cellAt #[v0, v1, v2, v3, v4, v5, v6, v7, v8] j)) : w.cell? ⟨k, 0, none⟩ = some v0 ∧ w.cell? ⟨k, 1, none⟩ = some v1 ∧ w.cell? ⟨k, 2, none⟩ = some v2 ∧ w.cell? ⟨k, 3, none⟩ = some v3 ∧ w.cell? ⟨k, 4, none⟩ = some v4 ∧ w.cell? ⟨k, 5, none⟩ = some v5 ∧ w.cell? ⟨k, 6, none⟩ = some v6 ∧ w.cell? ⟨k, 7, none⟩ = some v7 ∧ w.cell? ⟨k, 8, none⟩ = some v8 := ⟨h 0 (show 0 < 9 by omega), h 1 (show 1 < 9 by omega), h 2 (show 2 < 9 by omega), h 3 (show 3 < 9 by omega), h 4 (show 4 < 9 by omega), h 5 (show 5 < 9 by omega), h 6 (show 6 < 9 by omega), h 7 (show 7 < 9 by omega), h 8 (show 8 < 9 by omega)⟩
theorem bx12 {w : World} {k : Nat} {v0 v1 v2 v3 v4 v5 v6 v7 v8 v9 v10 v11 : Value} (h : ∀ j, j < (#[v0, v1, v2, v3, v4, v5, v6, v7, v8, v9, v10, v11] : Array Value).size → w.cell? ⟨k, 0 + j, none⟩ = some (cellAt #[v0, v1, v2, v3, v4, v5, v6, v7, v8, v9, v10, v11] j)) : w.cell? ⟨k, 0, none⟩ = some v0 ∧ w.cell? ⟨k, 1, none⟩ = some v1 ∧ w.cell? ⟨k, 2, none⟩ = some v2 ∧ w.cell? ⟨k, 3, none⟩ = some v3 ∧ w.cell? ⟨k, 4, none⟩ = some v4 ∧ w.cell? ⟨k, 5, none⟩ = some v5 ∧ w.cell? ⟨k, 6, none⟩ = some v6 ∧ w.cell? ⟨k, 7, none⟩ = some v7 ∧ w.cell? ⟨k, 8, none⟩ = some v8 ∧ w.cell? ⟨k, 9, none⟩ = some v9 ∧ w.cell? ⟨k, 10, none⟩ = some v10 ∧ w.cell? ⟨k, 11, none⟩ = some v11 := ⟨h 0 (show 0 < 12 by omega), h 1 (show 1 < 12 by omega), h 2 (show 2 < 12 by omega), h 3 (show 3 < 12 by omega), h 4 (show 4 < 12 by omega), h 5 (show 5 < 12 by omega), h 6 (show 6 < 12 by omega), h 7 (show 7 < 12 by omega), h 8 (show 8 < 12 by omega), h 9 (show 9 < 12 by omega), h 10 (show 10 < 12 by omega), h 11 (show 11 < 12 by omega)⟩
theorem bx13 {w : World} {k : Nat} {v0 v1 v2 v3 v4 v5 v6 v7 v8 v9 v10 v11 v12 : Value} (h : ∀ j, j < (#[v0, v1, v2, v3, v4, v5, v6, v7, v8, v9, v10, v11, v12] : Array Value).size → w.cell? ⟨k, 0 + j, none⟩ = some (cellAt #[v0, v1, v2, v3, v4, v5, v6, v7, v8, v9, v10, v11, v12] j)) : w.cell? ⟨k, 0, none⟩ = some v0 ∧ w.cell? ⟨k, 1, none⟩ = some v1 ∧ w.cell? ⟨k, 2, none⟩ = some v2 ∧ w.cell? ⟨k, 3, none⟩ = some v3 ∧ w.cell? ⟨k, 4, none⟩ = some v4 ∧ w.cell? ⟨k, 5, none⟩ = some v5 ∧ w.cell? ⟨k, 6, none⟩ = some v6 ∧ w.cell? ⟨k, 7, none⟩ = some v7 ∧ w.cell? ⟨k, 8, none⟩ = some v8 ∧ w.cell? ⟨k, 9, none⟩ = some v9 ∧ w.cell? ⟨k, 10, none⟩ = some v10 ∧ w.cell? ⟨k, 11, none⟩ = some v11 ∧ w.cell? ⟨k, 12, none⟩ = some v12 := ⟨h 0 (show 0 < 13 by omega), h 1 (show 1 < 13 by omega), h 2 (show 2 < 13 by omega), h 3 (show 3 < 13 by omega), h 4 (show 4 < 13 by omega), h 5 (show 5 < 13 by omega), h 6 (show 6 < 13 by omega), h 7 (show 7 < 13 by omega), h 8 (show 8 < 13 by omega), h 9 (show 9 < 13 by omega), h 10 (show 10 < 13 by omega), h 11 (show 11 < 13 by omega), h 12 (show 12 < 13 by omega)⟩
theorem bx14 {w : World} {k : Nat} {v0 v1 v2 v3 v4 v5 v6 v7 v8 v9 v10 v11 v12 v13 : Value} (h : ∀ j, j < (#[v0, v1, v2, v3, v4, v5, v6, v7, v8, v9, v10, v11, v12, v13] : Array Value).size → w.cell? ⟨k, 0 + j, none⟩ = some (cellAt #[v0, v1, v2, v3, v4, v5, v6, v7, v8, v9, v10, v11, v12, v13] j)) : w.cell? ⟨k, 0, none⟩ = some v0 ∧ w.cell? ⟨k, 1, none⟩ = some v1 ∧ w.cell? ⟨k, 2, none⟩ = some v2 ∧ w.cell? ⟨k, 3, none⟩ = some v3 ∧ w.cell? ⟨k, 4, none⟩ = some v4 ∧ w.cell? ⟨k, 5, none⟩ = some v5 ∧ w.cell? ⟨k, 6, none⟩ = some v6 ∧ w.cell? ⟨k, 7, none⟩ = some v7 ∧ w.cell? ⟨k, 8, none⟩ = some v8 ∧ w.cell? ⟨k, 9, none⟩ = some v9 ∧ w.cell? ⟨k, 10, none⟩ = some v10 ∧ w.cell? ⟨k, 11, none⟩ = some v11 ∧ w.cell? ⟨k, 12, none⟩ = some v12 ∧ w.cell? ⟨k, 13, none⟩ = some v13 := ⟨h 0 (show 0 < 14 by omega), h 1 (show 1 < 14 by omega), h 2 (show 2 < 14 by omega), h 3 (show 3 < 14 by omega), h 4 (show 4 < 14 by omega), h 5 (show 5 < 14 by omega), h 6 (show 6 < 14 by omega), h 7 (show 7 < 14 by omega), h 8 (show 8 < 14 by omega), h 9 (show 9 < 14 by omega), h 10 (show 10 < 14 by omega), h 11 (show 11 < 14 by omega), h 12 (show 12 < 14 by omega), h 13 (show 13 < 14 by omega)⟩
theorem bx21 {w : World} {k : Nat} {v0 v1 v2 v3 v4 v5 v6 v7 v8 v9 v10 v11 v12 v13 v14 v15 v16 v17 v18 v19 v20 : Value} (h : ∀ j, j < (#[v0, v1, v2, v3, v4, v5, v6, v7, v8, v9, v10, v11, v12, v13, v14, v15, v16, v17, v18, v19, v20] : Array Value).size → w.cell? ⟨k, 0 + j, none⟩ = some (cellAt #[v0, v1, v2, v3, v4, v5, v6, v7, v8, v9, v10, v11, v12, v13, v14, v15, v16, v17, v18, v19, v20] j)) : w.cell? ⟨k, 0, none⟩ = some v0 ∧ w.cell? ⟨k, 1, none⟩ = some v1 ∧ w.cell? ⟨k, 2, none⟩ = some v2 ∧ w.cell? ⟨k, 3, none⟩ = some v3 ∧ w.cell? ⟨k, 4, none⟩ = some v4 ∧ w.cell? ⟨k, 5, none⟩ = some v5 ∧ w.cell? ⟨k, 6, none⟩ = some v6 ∧ w.cell? ⟨k, 7, none⟩ = some v7 ∧ w.cell? ⟨k, 8, none⟩ = some v8 ∧ w.cell? ⟨k, 9, none⟩ = some v9 ∧ w.cell? ⟨k, 10, none⟩ = some v10 ∧ w.cell? ⟨k, 11, none⟩ = some v11 ∧ w.cell? ⟨k, 12, none⟩ = some v12 ∧ w.cell? ⟨k, 13, none⟩ = some v13 ∧ w.cell? ⟨k, 14, none⟩ = some v14 ∧ w.cell? ⟨k, 15, none⟩ = some v15 ∧ w.cell? ⟨k, 16, none⟩ = some v16 ∧ w.cell? ⟨k, 17, none⟩ = some v17 ∧ w.cell? ⟨k, 18, none⟩ = some v18 ∧ w.cell? ⟨k, 19, none⟩ = some v19 ∧ w.cell? ⟨k, 20, none⟩ = some v20 := ⟨h 0 (show 0 < 21 by omega), h 1 (show 1 < 21 by omega), h 2 (show 2 < 21 by omega), h 3 (show 3 < 21 by omega), h 4 (show 4 < 21 by omega), h 5 (show 5 < 21 by omega), h 6 (show 6 < 21 by omega), h 7 (show 7 < 21 by omega), h 8 (show 8 < 21 by omega), h 9 (show 9 < 21 by omega), h 10 (show 10 < 21 by omega), h 11 (show 11 < 21 by omega), h 12 (show 12 < 21 by omega), h 13 (show 13 < 21 by omega), h 14 (show 14 < 21 by omega), h 15 (show 15 < 21 by omega), h 16 (show 16 < 21 by omega), h 17 (show 17 < 21 by omega), h 18 (show 18 < 21 by omega), h 19 (show 19 < 21 by omega), h 20 (show 20 < 21 by omega)⟩
theorem listL_zero {X : Tx} {σ : Type} {by_ : Byt} {one : σ → PM (Nd × σ)} {acc : List Nd} {x : σ} {s : PSt} : listL X by_ one 0 acc x s = none := rfl
theorem listL_yes {X : Tx} {σ : Type} {by_ : Byt} {one : σ → PM (Nd × σ)} {n : Nat} {acc : List Nd} {x : σ} {s : PSt} (h : seesS X [by_] s = true) :
    listL X by_ one (n + 1) acc x s = (one x >>= fun r => listL X by_ one n (acc ++ [r.1]) r.2) { s with i := s.i + 1 } := by
  conv => lhs; unfold listL
  show PM.bind _ _ _ = _; unfold PM.bind takes; rw [if_pos h]; rfl
theorem listL_no {X : Tx} {σ : Type} {by_ : Byt} {one : σ → PM (Nd × σ)} {n : Nat} {acc : List Nd} {x : σ} {s : PSt} (h : ¬ seesS X [by_] s = true) :
    listL X by_ one (n + 1) acc x s = some (.ok ((acc, x), s)) := by
  conv => lhs; unfold listL
  show PM.bind _ _ _ = _; unfold PM.bind takes; rw [if_neg h]; rfl
section
variable {G : Gh} {na : Option Addr} {nc : Nat} {fa : Option Addr} {fc : Nat} {σ Γ : Type} {pr : Γ → σ} {Mx : Γ → Nat → Prop} {St : World → Γ → Prop}
def LRel (G : Gh) (na : Option Addr) (nc : Nat) (fa : Option Addr) (fc : Nat) (pr : Γ → σ) (Mx : Γ → Nat → Prop) (St : World → Γ → Prop) (sz : Nat) (w : World) (s : PSt) (g : Γ) (wr : World) (s1 : PSt) (g1 : Γ) (acc : List Nd) (A c : Nat) : Prop :=
  s1.sc = s.sc ∧ s.i ≤ s1.i ∧ acc.length ≤ s1.i + 1 ∧ PS G (Mx g1) na nc fa fc wr s1 ∧ St wr g1 ∧ (∀ j, Mx g j → Mx g1 j) ∧ (∀ j, Mx g1 j → Mx g j ∨ w.heap.size ≤ j) ∧ ¬ Mx g1 A ∧
    LsA wr (fun b => b < G.B ∨ (w.heap.size ≤ b ∧ b < wr.heap.size ∧ ¬ Mx g1 b ∧ b ≠ A)) w.heap.size sz A c acc ∧ Kn G.B (Mx g) w wr
theorem LRel.kn {sz : Nat} {w wr w3 w4 : World} {s s1 : PSt} {g g1 : Γ} {acc : List Nd} {A c : Nat} (h : LRel G na nc fa fc pr Mx St sz w s g wr s1 g1 acc A c) (k3 : Kn G.B (Jp G) wr w3) (k4 : Kn G.B (Mx g1) w3 w4) : Kn G.B (Mx g) w w4 := by
  obtain ⟨_, _, _, hP, _, _, hn, _, _, hk⟩ := h; refine hk.trans ((k3.jp hP.mp).go k4) (fun j hj hm => ?_)
  rcases hn j hm with q | q
  · exact q
  · omega
theorem LRel.round {sz : Nat} {w wr w3 w4 : World} {s s1 s2 : PSt} {g g1 g2 : Γ} {acc : List Nd} {A c : Nat} {cs : Array Value} {T : TypeId} {nd : Nd} {z : Value} (hG : GOk G) (hst : StOk G Mx St) (hB : G.B ≤ w.heap.size)
    (h : LRel G na nc fa fc pr Mx St sz w s g wr s1 g1 acc A c) (k3 : Kn G.B (Jp G) wr w3) (k4 : Kn G.B (Mx g1) w3 w4) (hsc : s2.sc = s1.sc) (hi : s1.i + 1 ≤ s2.i)
    (hP : PS G (Mx g2) na nc fa fc w4 s2) (hS : St w4 g2) (hm : ∀ j, Mx g1 j → Mx g2 j) (hn : ∀ j, Mx g2 j → Mx g1 j ∨ w3.heap.size ≤ j) (hr : RepR w4 (Own G.B w3.heap.size w4.heap.size (Mx g2)) nd cs.toList) (hsz : cs.size = sz) (hs0 : 0 < sz) :
    ∃ h, ArrS (w4.alloc (.cells cs T)) (some ⟨A, 0, none⟩) acc.length c sz h ∧ New (w4.alloc (.cells cs T)) w.heap.size (some ⟨A, 0, none⟩) (c * sz) ∧ w.heap.size ≤ (w4.alloc (.cells cs T)).heap.size ∧ acc.length ≤ 65537 ∧
      ∀ a' c' rr w5, (rr = h ∧ a' = some ⟨A, 0, none⟩ ∧ c' = c ∨ rr = zcS z ∧ a' = some ⟨(w4.alloc (.cells cs T)).heap.size, 0, none⟩ ∧ (w4.alloc (.cells cs T)).heap.size < w5.heap.size ∧ ∀ p : Addr, p.block < (w4.alloc (.cells cs T)).heap.size → w5.cell? p = (w4.alloc (.cells cs T)).cell? p) →
        ArrS w5 a' (acc.length + 1) c' sz (catS h (acc.length * sz) sz (cellAt cs) rr) → New w5 w.heap.size a' (c' * sz) → Below w.heap.size (w4.alloc (.cells cs T)) w5 → Kq (w4.alloc (.cells cs T)) w5 (some ⟨A, 0, none⟩) (acc.length * sz) ((acc.length + 1) * sz) →
        ∃ A', a' = some ⟨A', 0, none⟩ ∧ LRel G na nc fa fc pr Mx St sz w s g w5 s2 g2 (acc ++ [nd]) A' c' := by
  have hkn := h.kn k3 k4; obtain ⟨h1, h2, h3, hP1, hS1, hm1, hn1, hA, hL, hk⟩ := h; have e3 := k3.size; have e4 := k4.size; have ek := hk.size; have ba := below_alloc w4 (.cells cs T); have hAlt : A < wr.heap.size := by obtain ⟨_, _, q, _⟩ := hL; exact q
  have hAge : w.heap.size ≤ A := by obtain ⟨_, q, _⟩ := hL; exact q
  have hA2 : ¬ Mx g2 A := fun q => (hn A q).elim hA (fun q => by omega); have hbp := hP1.mp; have hM2 : ∀ j, Mx g2 j → j < w4.heap.size := fun j q => (hP.mB j q).2
  -- the row in the world behind the reading
  have hL4 : LsA (w4.alloc (.cells cs T)) (fun b => b < G.B ∨ (w.heap.size ≤ b ∧ b < (w4.alloc (.cells cs T)).heap.size ∧ ¬ Mx g2 b ∧ b ≠ A)) w.heap.size sz A c acc := by
    refine hL.keep (fun b hb => ?_) ?_ (by simp; omega) (fun b hb => ?_) (fun q => q.elim (fun q => by omega) (fun q => q.2.2.2 rfl))
    · have hbl : b < wr.heap.size := by rcases hb with q | q <;> omega
      have e1 : w3.heap[b]? = wr.heap[b]? := by
        rcases hb with q | q
        · exact k3.bel.block b q
        · exact k3.blk b hbl (fun e => q.2.2.1 (by rw [show b = G.bp from e]; exact hbp))
      have e2 : w4.heap[b]? = w3.heap[b]? := by
        rcases hb with q | q
        · exact k4.bel.block b q
        · exact k4.blk b (by omega) q.2.2.1
      exact ((ba.block b (by omega)).trans e2).trans e1
    · have e1 : w3.heap[A]? = wr.heap[A]? := k3.blk A hAlt (fun e => hA (by rw [show A = G.bp from e]; exact hbp)); have e2 : w4.heap[A]? = w3.heap[A]? := k4.blk A (by omega) hA; exact ((ba.block A (by omega)).trans e2).trans e1
    · rcases hb with q | ⟨q1, q2, q3, q4⟩
      · exact .inl q
      · exact .inr ⟨q1, by simp; omega, fun q => (hn b q).elim q3 (fun q => by omega), q4⟩
  obtain ⟨hh, l1, l2, l3, la, lN, lr⟩ := hL4; have hil := hP.il; have hsz4 : w4.heap.size < (w4.alloc (.cells cs T)).heap.size := by simp
  refine ⟨hh, la, lN, by omega, by have := hP1.il; have := hP.il; have := hG.few; omega, fun a' c' rr w5 hc A5 N5 b5 kq => ?_⟩; have e5 := kq.kp.size
  have hor : ∃ A', a' = some ⟨A', 0, none⟩ ∧ (A' = A ∨ A' = (w4.alloc (.cells cs T)).heap.size) := by
    rcases hc with ⟨_, e, _⟩ | ⟨_, e, _⟩
    · exact ⟨A, e, .inl rfl⟩
    · exact ⟨_, e, .inr rfl⟩
  obtain ⟨A', ea, hA'⟩ := hor
  have hA3 : ¬ Mx g2 A' := by
    rcases hA' with q | q
    · rw [q]; exact hA2
    · rw [q]; intro hq; have := hM2 _ hq; omega
  have hblk : ∀ j, Mx g2 j → w5.heap[j]? = w4.heap[j]? := fun j hj => by
    have hjl := hM2 j hj; refine (kq.blk j (by omega) (fun off e => ?_)).trans (ba.block j hjl); simp only [Option.some.injEq, Addr.mk.injEq] at e; exact hA2 (by rw [e.1]; exact hj)
  have b45 : Below w.heap.size w4 w5 := (ba.mono (by omega)).trans b5
  obtain ⟨A2, ea2, _, hL5⟩ := LsA.push (L := w.heap.size) (F := fun b => b < G.B ∨ (w.heap.size ≤ b ∧ b < (w4.alloc (.cells cs T)).heap.size ∧ ¬ Mx g2 b ∧ b ≠ A)) (F1 := Own G.B w3.heap.size w4.heap.size (Mx g2)) (F' := fun b => b < G.B ∨ (w.heap.size ≤ b ∧ b < w5.heap.size ∧ ¬ Mx g2 b ∧ b ≠ A')) (r := nd) (g := cellAt cs) hs0
    l1 l2 l3 lr (fun b hb => by rcases hb with q | q <;> omega) (fun b hb => by
      rcases hb with q | ⟨q1, q2, _⟩
      · exact ⟨by omega, by omega⟩
      · exact ⟨by omega, by omega⟩) (by
      have e : ((List.range sz).map (cellAt cs)) = cs.toList := by
        apply List.ext_getElem
        · simp [hsz]
        · intro i h1 h2; have h2 : i < cs.size := by simpa using h2
          simp [cellAt, h2]
      rw [e]; exact hr.on (fun b hb => ba.block b (by rcases hb with q | ⟨_, q, _⟩ <;> omega)) (fun _ q => q)) hc (by omega) A5 N5 kq (fun b hb => by
      rcases hb with (q | ⟨q1, q2, q3, q4⟩) | q | ⟨q1, q2, q3⟩
      · exact .inl q
      · exact .inr ⟨q1, by omega, q3, by rcases hA' with e | e <;> omega⟩
      · exact .inl q
      · exact .inr ⟨by omega, by omega, q3, by rcases hA' with e | e <;> omega⟩) (fun A3 e q => by
      rw [ea] at e; simp only [Option.some.injEq, Addr.mk.injEq, and_true] at e; subst e
      rcases q with q | q
      · rcases hA' with e | e <;> omega
      · exact q.2.2.2 rfl)
  rw [ea] at ea2; simp only [Option.some.injEq, Addr.mk.injEq, and_true] at ea2; subst ea2; refine ⟨A', ea, hsc.trans h1, by omega, by rw [List.length_append]; simp only [List.length_cons, List.length_nil]; omega, hP.keep (b45.mono hB) hblk, hst _ _ _ hS (fun j hj _ => hblk j hj), fun j hj => hm j (hm1 j hj), fun j hj => ?_, hA3, hL5, hkn.low b45 hB (Nat.le_refl _)⟩
  rcases hn j hj with q | q
  · exact hn1 j q
  · exact .inr (by omega)
theorem LRel.fin {sz : Nat} {w wr w' : World} {s s1 : PSt} {g g1 : Γ} {acc : List Nd} {A c : Nat} (hst : StOk G Mx St) (h : LRel G na nc fa fc pr Mx St sz w s g wr s1 g1 acc A c) (hb : Below wr.heap.size wr w') :
    PostL G na nc fa fc pr Mx St w s g (.ok ((acc, pr g1), s1)) (.returned (.slice (some ⟨A, 0, none⟩) acc.length c)) w' := by
  obtain ⟨h1, h2, h3, hP1, hS1, hm1, hn1, hA, hL, hk⟩ := h; have hB := hP1.bB; have hAlt : A < wr.heap.size := by obtain ⟨_, _, q, _⟩ := hL; exact q
  have hAge : w.heap.size ≤ A := by obtain ⟨_, q, _⟩ := hL; exact q
  refine ⟨hk.low hb hB hk.size, h1, h2, g1, _, rfl, rfl, hP1.new hb, hst _ _ _ hS1 (fun j hj _ => hb.block j (hP1.mB j hj).2), hm1, hn1, some ⟨A, 0, none⟩, c, rfl, ?_⟩; refine (hL.rep (F' := fun b => b < G.B ∨ (w.heap.size ≤ b ∧ b < wr.heap.size ∧ ¬ Mx g1 b)) (fun b q => q.imp id fun q => ⟨q.1, q.2.1, q.2.2.1⟩) (.inr ⟨hAge, hAlt, hA⟩)).on (fun b q => hb.block b (by rcases q with q | q <;> omega)) (fun b q => q.imp id fun q => ⟨q.1, by have := hb.size; omega, q.2.2⟩)
end
section
open Go Go.RowKit Go.Shelf Go.Sort
theorem below_grow (w : World) (k : Nat) (os : Array Obj) : Below w.heap.size w (grow (w.drewN k) os) :=
  ⟨rfl, rfl, rfl, by show w.heap.size ≤ (w.heap ++ os).size; simp, fun j hj => by
    show (w.heap ++ os)[j]? = _
    rw [Array.getElem?_append, if_pos hj]⟩
theorem labels_len (n : Nat) : (labels n).length = n := by simp [labels]
def LabR (w wr : World) (k : Nat) (a : Option Addr) (c : Nat) : Prop :=
  Below w.heap.size w wr ∧ ∃ h, ArrS wr a k c 1 h ∧ New wr w.heap.size a (c * 1) ∧ (∀ b off, a = some ⟨b, off, none⟩ → w.heap.size ≤ b ∧ b < wr.heap.size) ∧ ∀ i, i < k → h i = .string ⟨(decB (i + 1)).toArray⟩
theorem LabR.fin {w wr : World} {k : Nat} {a : Option Addr} {c B : Nat} (h : LabR w wr k a c) : IsSl wr (Own B w.heap.size wr.heap.size No) (strs (labels k)) (.slice a k c) := by
  obtain ⟨_, h, A, N, hb, hv⟩ := h; have hl : (strs (labels k)).length = k := by simp [strs, labels_len]
  refine ⟨a, c, by rw [hl], ?_⟩; rw [hl]; unfold RepT; refine ⟨a, c, by rw [hl], by rw [hl]; exact A.le, A.mx, ?_⟩
  by_cases hk : k = 0
  · subst hk; exact .inl rfl
  · obtain ⟨b, off, e, hc⟩ := A.addr (by have := A.le; omega); have hbb := hb b off e; refine .inr ⟨b, off, e, .inr ⟨hbb.1, hbb.2, fun q => q⟩, ?_⟩; refine repL_of (h := fun j => h (j - off)) (sz := 1) _ off (fun j hj => ?_) (fun i r hi => ?_)
    · rw [hc j (by rw [hl] at hj; have := A.le; omega), Nat.add_sub_cancel_left]
    · have hi2 : i < k := by have := (List.getElem?_eq_some_iff.1 hi).1; omega
      have hr : r = [vS (decB (i + 1))] := by
        unfold strs at hi; rw [List.getElem?_map] at hi
        have e2 : (labels k)[i]? = some (decB (i + 1)) := by
          unfold labels; rw [List.getElem?_map, List.getElem?_range hi2]; rfl
        rw [e2] at hi; exact (Option.some.inj hi).symm
      subst hr
      have : ((List.range 1).map fun j => h (off + (i * 1 + j) - off)) = [.string ⟨(decB (i + 1)).toArray⟩] := by
        simp [← hv i hi2]
      rw [this]; exact repV _ repN
theorem LabR.push {w wr w2 : World} {k : Nat} {a : Option Addr} {c : Nat} {x : List UInt8} {T : TypeId} {z : Value} (h : LabR w wr k a c) (hb : Below wr.heap.size wr w2) (hx : x = decB (k + 1)) :
    ∃ hh, ArrS (w2.alloc (.cells #[.string ⟨x.toArray⟩] T)) a k c 1 hh ∧ New (w2.alloc (.cells #[.string ⟨x.toArray⟩] T)) w.heap.size a (c * 1) ∧ w.heap.size ≤ (w2.alloc (.cells #[.string ⟨x.toArray⟩] T)).heap.size ∧
      ∀ a' c' rr w5, (rr = hh ∧ a' = a ∧ c' = c ∨ rr = zcS z ∧ a' = some ⟨(w2.alloc (.cells #[.string ⟨x.toArray⟩] T)).heap.size, 0, none⟩ ∧ (w2.alloc (.cells #[.string ⟨x.toArray⟩] T)).heap.size < w5.heap.size ∧ ∀ p : Addr, p.block < (w2.alloc (.cells #[.string ⟨x.toArray⟩] T)).heap.size → w5.cell? p = (w2.alloc (.cells #[.string ⟨x.toArray⟩] T)).cell? p) →
        ArrS w5 a' (k + 1) c' 1 (catS hh (k * 1) 1 (cellAt #[.string ⟨x.toArray⟩]) rr) → New w5 w.heap.size a' (c' * 1) → Below w.heap.size (w2.alloc (.cells #[.string ⟨x.toArray⟩] T)) w5 → LabR w w5 (k + 1) a' c' := by
  obtain ⟨h1, h, A, N, hl, hv⟩ := h; have ba := below_alloc w2 (.cells #[.string ⟨x.toArray⟩] T); have s1 := h1.size; have s2 := hb.size
  have hblk : ∀ b off, a = some ⟨b, off, none⟩ → (w2.alloc (.cells #[.string ⟨x.toArray⟩] T)).heap[b]? = wr.heap[b]? := fun b off e => by
    have := (hl b off e).2; exact (ba.block b (by omega)).trans (hb.block b this)
  refine ⟨h, A.blocks hblk, N.blocks hblk, by simp; omega, fun a' c' rr w5 hc A5 N5 b5 => ⟨((h1.trans (hb.mono s1)).trans (ba.mono (by omega))).trans b5, _, A5, N5, fun b off e => ?_, fun i hi => ?_⟩⟩
  · have s5 := b5.size; have s4 : w2.heap.size < (w2.alloc (.cells #[.string ⟨x.toArray⟩] T)).heap.size := by simp
    rcases hc with ⟨_, e2, _⟩ | ⟨_, e2, e3, _⟩
    · rw [e2] at e; have := hl b off e; exact ⟨this.1, by omega⟩
    · rw [e2] at e; simp only [Option.some.injEq, Addr.mk.injEq, and_true] at e; exact ⟨by omega, by omega⟩
  · unfold catS
    by_cases q : i < k
    · rw [if_pos (by omega)]; exact hv i q
    · obtain rfl : i = k := by omega
      rw [if_neg (by omega), if_pos (by omega), hx, Nat.mul_one, Nat.sub_self]
      rfl
theorem labels_any {G : Gh} (hG : GOk G) (n : Nat) (hn : n ≤ 65540) (w : World) (hlow : Below G.B G.w0 w) :
    Calls Tryz.prog 101 #[.int .i64 (n : Nat)] w fun e w' => ∃ v, e = .returned v ∧ Below w.heap.size w w' ∧ IsSl w' (Own G.B w.heap.size w'.heap.size No) (strs (labels n)) v := by
  have hlB : G.B ≤ w.heap.size := hlow.size; have HB := hid hlow; clear hlow; go_enter Tryz.func101, Tryz.ntmps101
  go_wp2_with fail
  go_loopg [3, 6] n (fun gk lv iv wr => ∃ k a c, gk + k = n ∧ iv = .int .i64 (k : Nat) ∧ lv = .slice a k c ∧ Hid (LabR w wr k a c))
  case atStart => exact ⟨0, none, 0, by omega, rfl, rfl, hid ⟨Below.refl _ _, fun _ => .bool false, ⟨Nat.le_refl _, Nat.zero_le _, fun j hj => by omega⟩, New.nil _ _ _, (fun b off e => by cases e), fun i hi => by omega⟩⟩
  case round =>
    obtain ⟨k, a, c, hgk, rfl, rfl, HR⟩ := hrel
    by_cases hk : k < n
    · have hki : (k : Int) < (n : Int) := by omega
      obtain ⟨m, rfl⟩ : ∃ m, gk = m + 1 := ⟨gk - 1, by omega⟩; have htab := hid (hG.tab wr (HB.out.trans (HR.out.1.mono hlB)))
      go_wp2_with (first
        | (go_at_call 135; refine (Tryz.strconv_Itoa _ (by omega) (by omega) _ htab.out).mono ?_; rintro e w2 ⟨rfl, kk, os, hw2⟩; have hb2 := below_grow wr kk os; rw [← hw2] at hb2; clear hw2; obtain ⟨hh, la, lN, lB, lK⟩ := HR.out.push (z := zStr) (T := 9) hb2 (x := Lib.itoa ((k : Int) + 1)) rfl; have HN := hid (And.intro la (And.intro lN (And.intro lB lK))); clear la lN lB lK hb2)
        | (at_builtin; refine wpList_append_q _ rfl _ _ 33 33 rfl 9 9 zStr 1 16 Tryz.underlying33 Tryz.underlying33 Tryz.info9 rfl (by omega) w.heap.size HN.out.2.2.1 a k c hh (cellAt #[.string ⟨(Lib.itoa ((k : Int) + 1)).toArray⟩]) w2.heap.size 0 1 rfl rfl HN.out.1 HN.out.2.1 ?hg ?hone (by omega) (by omega) ?_))
      case hg => exact new_cells w2 #[.string ⟨(Lib.itoa ((k : Int) + 1)).toArray⟩] 9
      case hone =>
        intro j hj
        match j, hj with
        | 0, _ => rfl
      intro a' c' rr w5 hcase A5 N5 b5 kq; have HR5 := hid (HN.out.2.2.2 a' c' rr w5 (by rw [World.size_alloc]; exact hcase) (by rw [Nat.mul_one]; exact A5) (by rw [Nat.mul_one]; exact N5) b5); clear hcase A5 N5 b5 kq
      go_wp2_with fail
      go_roundg m
      case measure => omega
      case rel => exact ⟨k + 1, a', c', by omega, rfl, rfl, HR5⟩
    · have hki : ¬ (k : Int) < (n : Int) := by omega
      obtain rfl : k = n := by omega
      go_wp2_with fail
      go_ret; exact ⟨_, rfl, HR.out.1, HR.out.fin⟩
end
section
variable {X : Tx} {s : PSt} {α β : Type} {w : Byt}
theorem takes_y (h : seesS X [w] s = true) : takes X w s = some (.ok (true, { s with i := s.i + 1 })) := by unfold takes; rw [if_pos h]
theorem takes_n (h : ¬ seesS X [w] s = true) : takes X w s = some (.ok (false, s)) := by unfold takes; rw [if_neg h]
theorem takes_bind (h : seesS X [w] s = true) (f : Bool → PM β) : (takes X w >>= f) s = f true { s with i := s.i + 1 } := by
  show PM.bind _ _ _ = _; unfold PM.bind; rw [takes_y h]
theorem takes_bind_no (h : ¬ seesS X [w] s = true) (f : Bool → PM β) : (takes X w >>= f) s = f false s := by
  show PM.bind _ _ _ = _; unfold PM.bind; rw [takes_n h]
theorem needs_y (h : seesS X [w] s = true) : needs X w s = some (.ok ((), { s with i := s.i + 1 })) := by
  unfold needs; rw [takes_bind h]; rfl
theorem needs_n (h : ¬ seesS X [w] s = true) : needs X w s = some (.error (wrongE X s)) := by
  unfold needs; rw [takes_bind_no h]; rfl
theorem needs_bind (h : seesS X [w] s = true) (f : Unit → PM β) : (needs X w >>= f) s = f () { s with i := s.i + 1 } := by
  show PM.bind _ _ _ = _; unfold PM.bind; rw [needs_y h]
theorem needs_bind_no (h : ¬ seesS X [w] s = true) (f : Unit → PM β) : (needs X w >>= f) s = some (.error (wrongE X s)) := by
  show PM.bind _ _ _ = _; unfold PM.bind; rw [needs_n h]
theorem name_bind {b : Bool} (h : shortP X b s = true) (f : Byt → PM β) : (name X b >>= f) s = f (nextS X s).text { s with i := s.i + 1 } := by
  show PM.bind _ _ _ = _; unfold PM.bind name; rw [if_pos h]
theorem name_bind_no {b : Bool} (h : ¬ shortP X b s = true) (f : Byt → PM β) : (name X b >>= f) s = some (.error (wrongE X s)) := by
  show PM.bind _ _ _ = _; unfold PM.bind name; rw [if_neg h]; rfl
theorem get_bind (f : PSt → PM β) : (PM.get >>= f) s = f s s := rfl
theorem next_bind (f : Tok → PM β) : (next X >>= f) s = f (nextS X s) s := rfl
theorem sees_bind {l : List Byt} (f : Bool → PM β) : (sees X l >>= f) s = f (seesS X l s) s := rfl
theorem upTo_yes {σ : Type} {n : Nat} {one : σ → PM (Nd × σ)} {x : σ} (h : seesS X [w] s = true) : upTo X n w one x s = some (.ok (([], x), { s with i := s.i + 1 })) := by
  unfold upTo; rw [takes_bind h]; rfl
theorem upTo_no {σ : Type} {n : Nat} {one : σ → PM (Nd × σ)} {x : σ} (h : ¬ seesS X [w] s = true) : upTo X n w one x s = (list X n [44] one x >>= fun l => needs X w >>= fun _ => pure l) s := by
  unfold upTo; rw [takes_bind_no h]; rfl
end
section
variable {w : World} {F : Nat → Prop}
theorem mkPat_is {kind : Int} {name : Byt} {z n : Int} {text : Byt} {ls : List Byt} {kids types : List Nd} {sg : Bool} {ma la ka ta : Option Addr} {mn mc lc kc tc : Nat}
    (hz : RepT w F (.big z) [.bool sg, .slice ma mn mc]) (hl : RepT w F (.sl (strs ls)) [.slice la (strs ls).length lc]) (hk : RepT w F (.sl kids) [.slice ka kids.length kc]) (ht : RepT w F (.sl types) [.slice ta types.length tc]) :
    IsPat w F (mkPat kind name z n text ls kids types) (.agg #[.int .i64 kind, .string ⟨name.toArray⟩, .bool sg, .slice ma mn mc, .int .i64 n, .string ⟨text.toArray⟩, .slice la (strs ls).length lc, .slice ka kids.length kc, .slice ta types.length tc]) :=
  ⟨_, _, _, _, _, _, _, _, _, _, _, _, _, _, _, _, _, rfl, repV _ (repV _ (repT2 hz (repV _ (repV _ (repT1 hl (repT1 hk (repT1 ht repN)))))))⟩
theorem mkExp_is {kind : Int} {name : Byt} {z n : Int} {bits : Nat} {text : Byt} {ls : List Byt} {kids rules decs types : List Nd} {sg : Bool} {ma la ka ra da ta : Option Addr} {mn mc lc kc rc dc tc : Nat}
    (hz : RepT w F (.big z) [.bool sg, .slice ma mn mc]) (hl : RepT w F (.sl (strs ls)) [.slice la (strs ls).length lc]) (hk : RepT w F (.sl kids) [.slice ka kids.length kc]) (hr : RepT w F (.sl rules) [.slice ra rules.length rc]) (hd : RepT w F (.sl decs) [.slice da decs.length dc]) (ht : RepT w F (.sl types) [.slice ta types.length tc]) :
    IsExp w F (mkExp kind name z n bits text ls kids rules decs types) (.agg #[.int .i64 kind, .string ⟨name.toArray⟩, .bool sg, .slice ma mn mc, .int .i64 n, .int .u64 (bits : Nat), .string ⟨text.toArray⟩, .slice la (strs ls).length lc, .slice ka kids.length kc, .slice ra rules.length rc, .slice da decs.length dc, .slice ta types.length tc]) :=
  ⟨_, _, _, _, _, _, _, _, _, _, _, _, _, _, _, _, _, _, _, _, _, _, _, _, rfl, repV _ (repV _ (repT2 hz (repV _ (repV _ (repV _ (repT1 hl (repT1 hk (repT1 hr (repT1 hd (repT1 ht repN))))))))))⟩
theorem mkExp_rep {kind : Int} {name : Byt} {z n : Int} {bits : Nat} {text : Byt} {ls : List Byt} {kids rules decs types : List Nd} {sg : Bool} {ma la ka ra da ta : Option Addr} {mn mc lc kc rc dc tc : Nat}
    (hz : RepT w F (.big z) [.bool sg, .slice ma mn mc]) (hl : RepT w F (.sl (strs ls)) [.slice la (strs ls).length lc]) (hk : RepT w F (.sl kids) [.slice ka kids.length kc]) (hr : RepT w F (.sl rules) [.slice ra rules.length rc]) (hd : RepT w F (.sl decs) [.slice da decs.length dc]) (ht : RepT w F (.sl types) [.slice ta types.length tc]) :
    RepR w F (mkExp kind name z n bits text ls kids rules decs types) [.int .i64 kind, .string ⟨name.toArray⟩, .bool sg, .slice ma mn mc, .int .i64 n, .int .u64 (bits : Nat), .string ⟨text.toArray⟩, .slice la (strs ls).length lc, .slice ka kids.length kc, .slice ra rules.length rc, .slice da decs.length dc, .slice ta types.length tc] :=
  repV _ (repV _ (repT2 hz (repV _ (repV _ (repV _ (repT1 hl (repT1 hk (repT1 hr (repT1 hd (repT1 ht repN))))))))))
theorem mkPat_rep {kind : Int} {name : Byt} {z n : Int} {text : Byt} {ls : List Byt} {kids types : List Nd} {sg : Bool} {ma la ka ta : Option Addr} {mn mc lc kc tc : Nat}
    (hz : RepT w F (.big z) [.bool sg, .slice ma mn mc]) (hl : RepT w F (.sl (strs ls)) [.slice la (strs ls).length lc]) (hk : RepT w F (.sl kids) [.slice ka kids.length kc]) (ht : RepT w F (.sl types) [.slice ta types.length tc]) :
    RepR w F (mkPat kind name z n text ls kids types) [.int .i64 kind, .string ⟨name.toArray⟩, .bool sg, .slice ma mn mc, .int .i64 n, .string ⟨text.toArray⟩, .slice la (strs ls).length lc, .slice ka kids.length kc, .slice ta types.length tc] :=
  repV _ (repV _ (repT2 hz (repV _ (repV _ (repT1 hl (repT1 hk (repT1 ht repN)))))))
theorem repMg {G : Gh} {M : Nat → Prop} {na : Option Addr} {nc : Nat} {fa : Option Addr} {fc : Nat} {s : PSt} (hP : PS G M na nc fa fc w s) {sg : Bool} {a : Option Addr} {n c : Nat} {z : Int} (h : Mg G.w0 sg a n c z) (hF : ∀ b, b < G.B → F b) : RepT w F (.big z) [.bool sg, .slice a n c] := by
  obtain ⟨f, u, h1, h2, h3, h4⟩ := h; unfold RepT; refine ⟨sg, a, n, c, f, rfl, u.below hP.low (Nat.le_refl _), h1, h2, h3, h4, fun b off e hc => hF b ?_⟩; exact u.lt e hc
end
theorem named_any (l : List UInt8) (w : World) :
    Calls Tryz.prog 142 #[.string ⟨l.toArray⟩] w fun e w' => ∃ v, e = .returned v ∧ Below w.heap.size w w' ∧ ∀ F, IsPat w' F (named l) v := by
  rcases hd : dotted l with _ | _
  · have HD := hid ((dotted_eq l).trans hd); have HN : Hid (named l = mkPat 2 l 0 0 [] [] [] []) := hid (by unfold named; rw [hd]; rfl); clear hd; go_enter Tryz.func142, Tryz.ntmps142
    go_wp2_with (go_at_call 94; refine (Tryz.strings_Contains_one _ 46 _).mono ?_; rintro e w2 ⟨rfl, rfl⟩; rw [HD.out])
    refine bodyPost_ret (v := .agg #[.int .i64 2, .string ⟨l.toArray⟩, .bool false, .slice none 0 0, .int .i64 0, .string ⟨#[]⟩, .slice none 0 0, .slice none 0 0, .slice none 0 0]) (by simp [results, Tryz.results142, go_sem]) rfl ⟨_, rfl, below_alloc _ _, fun F => ?_⟩; rw [HN.out]; exact mkPat_is (text := []) (ls := []) (kids := []) (types := []) repZero repNil repNil repNil
  · have HD := hid ((dotted_eq l).trans hd); have HN : Hid (named l = mkPat 6 l 0 0 [] [] [] []) := hid (by unfold named; rw [hd]; rfl); clear hd; go_enter Tryz.func142, Tryz.ntmps142
    go_wp2_with (go_at_call 94; refine (Tryz.strings_Contains_one _ 46 _).mono ?_; rintro e w2 ⟨rfl, rfl⟩; rw [HD.out])
    refine bodyPost_ret (v := .agg #[.int .i64 6, .string ⟨l.toArray⟩, .bool false, .slice none 0 0, .int .i64 0, .string ⟨#[]⟩, .slice none 0 0, .slice none 0 0, .slice none 0 0]) (by simp [results, Tryz.results142, go_sem]) rfl ⟨_, rfl, below_alloc _ _, fun F => ?_⟩; rw [HN.out]; exact mkPat_is (text := []) (ls := []) (kids := []) (types := []) repZero repNil repNil repNil
end Go.Proofs.YtkblonfmjlopaaaGreatDoor
