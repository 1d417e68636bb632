/-
  The law's lent, over and stays, walked: memory lent out, written over, and looked at.
-/
import Derived.Test.YticfggljaagcmaaDoorAwake
namespace Go.Proofs.YticfggljaagcmaaDoor
set_option linter.all false
open Go.RowKit

/-- Only the one slice's block has been written. -/
structure Only (a : Option Addr) (c : Nat) (w w' : World) : Prop where
  os : w'.os = w.os
  tape : w'.tape = w.tape
  output : w'.output = w.output
  size : w.heap.size ≤ w'.heap.size
  block : ∀ k, k < w.heap.size → (∀ b off, a = some ⟨b, off, none⟩ → 0 < c → k ≠ b) → w'.heap[k]? = w.heap[k]?
theorem Only.refl (a : Option Addr) (c : Nat) (w : World) : Only a c w w := ⟨rfl, rfl, rfl, Nat.le_refl _, fun _ _ _ => rfl⟩
theorem Only.of {a : Option Addr} {c : Nat} {w w' : World} (h : Below w.heap.size w w') : Only a c w w' := ⟨h.os, h.tape, h.output, h.size, fun k hk _ => h.block k hk⟩
theorem Only.set {b off c : Nat} {w w' : World} (h : Only (some ⟨b, off, none⟩) c w w') (hc : 0 < c) (i : Nat) (x : Value) : Only (some ⟨b, off, none⟩) c w (w'.setCell ⟨b, i, none⟩ x) :=
  ⟨h.os, h.tape, h.output, by simpa using h.size, fun k hk hn => by rw [Below.heap_setCell _ _ _ _ (hn b off rfl hc)]; exact h.block k hk hn⟩
theorem Only.below {a : Option Addr} {c base : Nat} {w w' : World} (h : Only a c w w') (u : New w base a c) (hb : base ≤ w.heap.size) : Below base w w' :=
  ⟨h.os, h.tape, h.output, h.size, fun k hk => h.block k (by omega) (fun b off e hc => by
    obtain ⟨b', off', e', h1, _⟩ := u 0 hc
    rw [e] at e'
    simp only [Option.some.injEq, Addr.mk.injEq, and_true] at e'
    omega)⟩
theorem Only.us {a a' : Option Addr} {c n' c' : Nat} {f' : Nat → Nat} {w w' : World} (h : Only a c w w') (u : Us w a' n' c' f') (hp : ∀ b off b' off', a = some ⟨b, off, none⟩ → a' = some ⟨b', off', none⟩ → 0 < c → 0 < c' → b' ≠ b) : Us w' a' n' c' f' :=
  ⟨u.le, u.mx, u.lm, fun i hi => by
    obtain ⟨b', off', e, hc⟩ := u.cell i hi
    have hlt := World.block_lt_of_cell? w _ hc
    refine ⟨b', off', e, ?_⟩
    rw [World.cell?_of_block (w := w) (a := ⟨b', off' + i, none⟩) (h.block b' hlt (fun b off ea h0 => hp b off b' off' ea e h0 (by omega)))]
    exact hc⟩
theorem Only.new {a a' : Option Addr} {c n' c' base : Nat} {f' : Nat → Nat} {w w' : World} (h : Only a c w w') (u : Us w a' n' c' f') (k : New w base a' c') (hp : ∀ b off b' off', a = some ⟨b, off, none⟩ → a' = some ⟨b', off', none⟩ → 0 < c → 0 < c' → b' ≠ b) : New w' base a' c' :=
  fun i hi => by
    obtain ⟨b', off', e, h1, h2⟩ := k i hi
    have hlt := u.lt e (by omega)
    exact ⟨b', off', e, h1, by rw [World.frozen?_of_block (w := w) (a := ⟨b', off' + i, none⟩) (h.block b' hlt (fun b off ea h0 => hp b off b' off' ea e h0 (by omega)))]; exact h2⟩
theorem Only.bx {a : Option Addr} {c k : Nat} {x y : Value} {w w' : World} (h : Only a c w w') (u : Bx w k x y) (hp : ∀ b off, a = some ⟨b, off, none⟩ → 0 < c → k ≠ b) : Bx w' k x y := by
  have e := h.block k u.lt hp
  exact ⟨Nat.lt_of_lt_of_le u.lt h.size, (World.cell?_of_block (w := w) (a := ⟨k, 0, none⟩) e).trans u.c0, (World.cell?_of_block (w := w) (a := ⟨k, 1, none⟩) e).trans u.c1, fun o => (World.frozen?_of_block (w := w) (a := ⟨k, o, none⟩) e).trans (u.fr o)⟩

set_option maxHeartbeats 1000000 in
theorem over_any (base : Nat) (neg : Bool) (a : Option Addr) (n c : Nat) (f : Nat → Nat) (w : World) (hu : Us w a n c f) (hn : New w base a c) :
    Calls Tryd.prog 20 #[.agg #[.bool neg, .slice a n c]] w fun e w' => e = .returned (.tuple #[]) ∧ Only a c w w' := by
  have hle := hu.le
  have hmx := hu.mx
  unfold maxLen at hmx
  have u0 : Us (w.alloc (.cells #[.bool neg, .slice a n c] 24)) a c c f := by
    have := hu.alloc (.cells #[.bool neg, .slice a n c] 24)
    exact ⟨Nat.le_refl _, this.mx, this.lm, this.cell⟩
  have n0 : New (w.alloc (.cells #[.bool neg, .slice a n c] 24)) base a c := New.below hn hu (below_alloc w _) (Nat.le_refl _)
  have o0 : Only a c w (w.alloc (.cells #[.bool neg, .slice a n c] 24)) := Only.of (below_alloc w _)
  go_enter Tryd.func20, Tryd.ntmps20
  go_wp2
  go_loopw [3] (fun iv wr => ∃ (i : Nat) (h : Nat → Nat), i ≤ c ∧ iv = .int .i64 i ∧ Us wr a c c h ∧ New wr base a c ∧ Only a c w wr) (fun iv _ => c - (intOf iv).toNat)
  case atStart => exact ⟨0, f, Nat.zero_le _, rfl, u0, n0, o0⟩
  case round =>
    obtain ⟨i, h, hi, rfl, hU, hN, hO⟩ := hrel
    by_cases hic : i < c
    · obtain ⟨b, off, rfl, hcl⟩ := hU.cell i hic
      obtain ⟨hbb, hfr⟩ := hN.at (j := i) hic
      have li := hU.lm i hic
      clear u0 n0 o0
      go_wp2
      go_roundw
      case rel =>
        go_light
        exact ⟨i + 1, upd h i (4294967295 - h i), by omega, rfl, hU.set hic (by omega) (by omega), hN.set _ _, hO.set (by omega) _ _⟩
      case measure => simp [intOf]; omega
    · obtain rfl : i = c := by omega
      go_wp2
      go_end0
      exact ⟨rfl, hO⟩

/-- make with room, nothing in it yet. -/
theorem wpList_make_room {P : Program} {ops : Array Oper} {rest : List Oper} {o : Oper} {act : Act} {Q : Exit → Act → World → Prop} (w : World) (hgd : o.guard = none) (l c : Operand) (t : TypeId) (hop : o.op = Op.makeSlice t l c)
    (e : TypeId) (z : Value) (bytes : Nat) (ht : P.underlying t = some (.slice e))
    (hi : (P.info? e).map (fun i => (i.zero, i.size, i.bytes)) = some (some z, 1, bytes)) (hz : z.cells = #[z])
    (kl kc : IntKind) (L C : Int) (n : Nat) (hl : act.eval l = .int kl L) (hc : act.eval c = .int kc C) (hL : L = 0) (hC : C = (n : Int)) (b2 : bytes * n ≤ 281474976710656) (b3 : n ≤ 281474976710656)
    (hK : ∀ w', (∀ i, i < n → w'.cell? ⟨w.heap.size, i, none⟩ = some z) → (∀ i, w'.frozen? ⟨w.heap.size, i, none⟩ = false) → Below w.heap.size w w' → w'.heap.size = w.heap.size + 1 → wpList P ops Q rest (act.put o.dst (.slice (some ⟨w.heap.size, 0, none⟩) 0 n)) w') :
    wpList P ops Q (o :: rest) act w := by
  obtain ⟨i, hi0, hiz, his, hib⟩ := info_parts hi
  refine wpList_plain hgd fun K hK' => ?_
  subst hL; subst hC
  have hb3 : (i.bytes : Int) * (n : Int) ≤ 281474976710656 := by
    rw [hib]
    have : ((bytes * n : Nat) : Int) ≤ 281474976710656 := by omega
    rwa [Int.natCast_mul] at this
  have hr := run_make (P := P) w t e i z ht hi0 hiz kl kc (0 : Int) (n : Int) (by omega) (by omega) hb3 (by omega)
  simp only [Int.toNat_natCast, his, Nat.mul_one] at hr
  unfold Oper.wp
  simp [execOp, hop, hl, hc, hr, Result.andThen]
  refine hK' _ _ (hK _ (fun j hj => ?_) (fun j => ?_) ((Below.refl _ _).alloc (Nat.le_refl _) _) (by simp))
  · rw [World.cell?_alloc_new, hz]
    simp [madeCells, hj, Nat.mod_one]
  · exact World.frozen?_alloc_new w _ _ _
end Go.Proofs.YticfggljaagcmaaDoor
