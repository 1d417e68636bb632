/-
  Big integers, the part that the lexer reaches: what stands in the claims of chapter 01, turned to this seat by program.
-/
import Derived.Test.YtajpeeccomgnnaaGreatDoorBigC
namespace Go.Proofs.YtajpeeccomgnnaaGreatDoor
set_option linter.all false
open Go Go.RowKit
/-! Lent -/
/-- Only the one slice's block has been written. -/
structure Only (a : Option Addr) (c : Nat) (w w' : World) : Prop where
  os : w'.os = w.os
  tape : w'.tape = w.tape
  output : w'.output = w.output
  size : w.heap.size ≤ w'.heap.size
  block : ∀ k, k < w.heap.size → (∀ b off, a = some ⟨b, off, none⟩ → 0 < c → k ≠ b) → w'.heap[k]? = w.heap[k]?
theorem Only.refl (a : Option Addr) (c : Nat) (w : World) : Only a c w w := ⟨rfl, rfl, rfl, Nat.le_refl _, fun _ _ _ => rfl⟩
theorem Only.set {b off c : Nat} {w w' : World} (h : Only (some ⟨b, off, none⟩) c w w') (hc : 0 < c) (i : Nat) (x : Value) : Only (some ⟨b, off, none⟩) c w (w'.setCell ⟨b, i, none⟩ x) :=
  ⟨h.os, h.tape, h.output, by simpa using h.size, fun k hk hn => by rw [Below.heap_setCell _ _ _ _ (hn b off rfl hc)]; exact h.block k hk hn⟩
theorem Only.below {a : Option Addr} {c base : Nat} {w w' : World} (h : Only a c w w') (u : New w base a c) (hb : base ≤ w.heap.size) : Below base w w' :=
  ⟨h.os, h.tape, h.output, h.size, fun k hk => h.block k (by omega) (fun b off e hc => by
    obtain ⟨b', off', e', h1, _⟩ := u 0 hc
    rw [e] at e'
    simp only [Option.some.injEq, Addr.mk.injEq, and_true] at e'
    omega)⟩
theorem Only.us {a a' : Option Addr} {c n' c' : Nat} {f' : Nat → Nat} {w w' : World} (h : Only a c w w') (u : Us w a' n' c' f') (hp : ∀ b off b' off', a = some ⟨b, off, none⟩ → a' = some ⟨b', off', none⟩ → 0 < c → 0 < c' → b' ≠ b) : Us w' a' n' c' f' :=
  ⟨u.le, u.mx, u.lm, fun i hi => by
    obtain ⟨b', off', e, hc⟩ := u.cell i hi
    have hlt := World.block_lt_of_cell? w _ hc
    refine ⟨b', off', e, ?_⟩
    rw [World.cell?_of_block (w := w) (a := ⟨b', off' + i, none⟩) (h.block b' hlt (fun b off ea h0 => hp b off b' off' ea e h0 (by omega)))]
    exact hc⟩
theorem Only.new {a a' : Option Addr} {c n' c' base : Nat} {f' : Nat → Nat} {w w' : World} (h : Only a c w w') (u : Us w a' n' c' f') (k : New w base a' c') (hp : ∀ b off b' off', a = some ⟨b, off, none⟩ → a' = some ⟨b', off', none⟩ → 0 < c → 0 < c' → b' ≠ b) : New w' base a' c' :=
  fun i hi => by
    obtain ⟨b', off', e, h1, h2⟩ := k i hi
    have hlt := u.lt e (by omega)
    exact ⟨b', off', e, h1, by rw [World.frozen?_of_block (w := w) (a := ⟨b', off' + i, none⟩) (h.block b' hlt (fun b off ea h0 => hp b off b' off' ea e h0 (by omega)))]; exact h2⟩
/-! Lent2 -/
section
variable {P : Program}
end
theorem bx_below {wx wy : World} {b B : Nat} {x0 x1 : Value} (k : Bx wx b x0 x1) (hb : Below B wx wy) (h : b < B) : Bx wy b x0 x1 :=
  ⟨Nat.lt_of_lt_of_le k.lt hb.size, (hb.cell (p := ⟨b, 0, none⟩) h).trans k.c0, (hb.cell (p := ⟨b, 1, none⟩) h).trans k.c1, fun o => (hb.frozen (p := ⟨b, o, none⟩) h).trans (k.fr o)⟩
/-! Draw -/
section
variable {P : Program} {ops : Array Oper} {Q : Exit → Act → World → Prop} {md : Region.Mode} {S : World → Prop} {T : Nat → Bool}
end
/-- A slice lies off a block. -/
def Off (a : Option Addr) (c k : Nat) : Prop := ∀ b off, a = some ⟨b, off, none⟩ → 0 < c → b ≠ k
theorem Off.new {w : World} {a : Option Addr} {c base k : Nat} (u : New w base a c) (h : k < base) : Off a c k := by
  intro b off e hc
  obtain ⟨b', off', e', h1, _⟩ := u 0 hc
  rw [e] at e'
  simp only [Option.some.injEq, Addr.mk.injEq, and_true] at e'
  omega
theorem Off.us {w : World} {a : Option Addr} {n c k : Nat} {f : Nat → Nat} (u : Us w a n c f) (h : w.heap.size ≤ k) : Off a c k := by
  intro b off e hc
  have := u.lt e hc
  omega
end Go.Proofs.YtajpeeccomgnnaaGreatDoor
