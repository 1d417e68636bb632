/-
  copy of limbs into memory of one's own, as a law of the walk. No condition.
-/
import Derived.Test.YticfggljaagcmaaDoorApp
import Derived.Laws.IdiomCopy
namespace Go.Proofs.YticfggljaagcmaaDoor
set_option linter.all false
open Go.RowKit
section
variable {P : Program}

theorem size_setCells (b : Nat) : ∀ (vs : List Value) (o : Nat) (w : World), (w.setCells b o vs).heap.size = w.heap.size
  | [], _, _ => rfl
  | v :: r, o, w => by rw [World.setCells, size_setCells b r]; simp
/-- copy, in the walk's form: the first limbs are the source's, the others stay. -/
theorem wpList_copy_u32 {ops : Array Oper} {rest : List Oper} {o : Oper} {act : Act} {Q : Exit → Act → World → Prop} (w : World) (hgd : o.guard = none) (d s : Operand) (dT sT : TypeId)
    (ho : o.op = .call { callee := .builtin .copy, args := #[d, s], argTypes := #[dT, sT] }) (e : TypeId) (hu : P.underlying dT = some (.slice e)) {z : Value} {bytes : Nat} (hi : (P.info? e).map (fun i => (i.zero, i.size, i.bytes)) = some (some z, 1, bytes))
    (b off n m c q : Nat) (a : Option Addr) (f g : Nat → Nat) (hd : act.eval d = .slice (some ⟨b, off, none⟩) n q) (hs : act.eval s = .slice a m c)
    (C : Cs w b off n f) (F : Fr w b off n) (S : Us w a m c g) (base : Nat) (hb : base ≤ b)
    (hK : ∀ w', Cs w' b off n (fun i => if i < m then g i else f i) → Fr w' b off n → Below base w w' → w'.heap.size = w.heap.size → wpList P ops Q rest (act.put o.dst (goInt ((min m n : Nat) : Int))) w') :
    wpList P ops Q (o :: rest) act w := by
  refine wpList_plain hgd fun K hK' => ?_
  have hmin : Nat.min m n = min m n := rfl
  have hsz : (P.info? e).map (·.size) = some 1 := by
    obtain ⟨i, hi0, _, his, _⟩ := info_parts hi
    simp [hi0, his]
  by_cases h0 : min m n = 0
  · have hrun := run_copy_none (P := P) w dT sT o.type e (some ⟨b, off, none⟩) a n q m c hu hsz h0
    unfold Oper.wp
    simp [execOp, ho, resolve, invoke, builtin, hd, hs, hrun, Result.andThen]
    have hk := hK w (fun i hi => by simp only []; rw [if_neg (by omega)]; exact C i hi) F (Below.refl _ _) rfl
    rw [h0] at hk
    exact hK' _ _ hk
  · have hle := S.le
    obtain ⟨b0, o0, rfl, _⟩ := S.cell 0 (by omega)
    have hsc := S.cs
    have hrun := run_copy_cells (P := P) w dT sT o.type e b off n q ⟨b0, o0, none⟩ m c ((List.range (min m n)).map fun i => Value.int .u32 (g i : Nat)) hu hsz (by simp)
      (fun j v hj => by
        obtain ⟨h1, h2⟩ := lst_get _ _ _ _ hj
        rw [h2, show (⟨b0, o0, none⟩ : Addr).add j = ⟨b0, o0 + j, none⟩ by unfold Addr.add; split <;> simp_all]; exact hsc j (by omega))
      (fun j hj => by simp at hj; rw [C j (by omega)]; rfl) (fun j hj => by simp at hj; exact F j (by omega))
      (fun v hv => by simp at hv; obtain ⟨i, _, rfl⟩ := hv; rfl)
    unfold Oper.wp
    simp [execOp, ho, resolve, invoke, builtin, hd, hs, hrun, Result.andThen]
    refine hK' _ _ (hK (w.setCells b off ((List.range (min m n)).map fun i => Value.int .u32 (g i : Nat))) (fun i hi => ?_) (fun i hi => ?_) (setCells_below b hb _ _ _) ?_)
    · by_cases hi2 : i < min m n
      · have := World.cell?_setCells_in b ((List.range (min m n)).map fun i => Value.int .u32 (g i : Nat)) off w (fun j hj => by simp at hj; rw [C j (by omega)]; rfl) i (by simpa using hi2)
        rw [this]; simp only []; rw [if_pos (by omega)]; simp
      · rw [World.cell?_setCells_out _ _ _ _ _ (fun _ _ => .inr (by simp; omega))]; show _ = some (Value.int .u32 ((if i < m then g i else f i : Nat) : Int)); rw [if_neg (by omega)]; exact C i hi
    · rw [World.frozen?_setCells]; exact F i hi
    · exact size_setCells _ _ _ _

/-- The same, into a part of a row of one's own. -/
theorem wpList_copy_row {ops : Array Oper} {rest : List Oper} {o : Oper} {act : Act} {Q : Exit → Act → World → Prop} (w : World) (hgd : o.guard = none) (d s : Operand) (dT sT : TypeId)
    (ho : o.op = .call { callee := .builtin .copy, args := #[d, s], argTypes := #[dT, sT] }) (e : TypeId) (hu : P.underlying dT = some (.slice e)) {z : Value} {bytes : Nat} (hi : (P.info? e).map (fun i => (i.zero, i.size, i.bytes)) = some (some z, 1, bytes))
    (b off n m c q N : Nat) (a : Option Addr) (f g : Nat → Nat) (hd : act.eval d = .slice (some ⟨b, off, none⟩) n q) (hs : act.eval s = .slice a m c)
    (C : Cs w b 0 N f) (F : Fr w b 0 N) (S : Us w a m c g) (hfit : off + n ≤ N) (base : Nat) (hb : base ≤ b)
    (hK : ∀ w', Cs w' b 0 N (fun i => if off ≤ i ∧ i < off + min m n then g (i - off) else f i) → Fr w' b 0 N → Below base w w' → w'.heap.size = w.heap.size → wpList P ops Q rest (act.put o.dst (goInt ((min m n : Nat) : Int))) w') :
    wpList P ops Q (o :: rest) act w := by
  refine wpList_plain hgd fun K hK' => ?_
  have hsz : (P.info? e).map (·.size) = some 1 := by
    obtain ⟨i, hi0, _, his, _⟩ := info_parts hi
    simp [hi0, his]
  by_cases h0 : min m n = 0
  · have hrun := run_copy_none (P := P) w dT sT o.type e (some ⟨b, off, none⟩) a n q m c hu hsz h0
    unfold Oper.wp
    simp [execOp, ho, resolve, invoke, builtin, hd, hs, hrun, Result.andThen]
    have hk := hK w (fun i hi => by simp only []; rw [if_neg (by omega)]; exact C i hi) F (Below.refl _ _) rfl
    rw [h0] at hk
    exact hK' _ _ hk
  · have hle := S.le
    obtain ⟨b0, o0, rfl, _⟩ := S.cell 0 (by omega)
    have hsc := S.cs
    have C' : ∀ j, j < min m n → (w.cell? ⟨b, off + j, none⟩).isSome = true := fun j hj => by
      have := C (off + j) (by omega)
      rw [Nat.zero_add] at this
      rw [this]; rfl
    have hrun := run_copy_cells (P := P) w dT sT o.type e b off n q ⟨b0, o0, none⟩ m c ((List.range (min m n)).map fun i => Value.int .u32 (g i : Nat)) hu hsz (by simp)
      (fun j v hj => by
        obtain ⟨h1, h2⟩ := lst_get _ _ _ _ hj
        rw [h2, show (⟨b0, o0, none⟩ : Addr).add j = ⟨b0, o0 + j, none⟩ by unfold Addr.add; split <;> simp_all]; exact hsc j (by omega))
      (fun j hj => C' j (by simpa using hj)) (fun j hj => by
        simp at hj
        have := F (off + j) (by omega)
        rwa [Nat.zero_add] at this)
      (fun v hv => by simp at hv; obtain ⟨i, _, rfl⟩ := hv; rfl)
    unfold Oper.wp
    simp [execOp, ho, resolve, invoke, builtin, hd, hs, hrun, Result.andThen]
    refine hK' _ _ (hK (w.setCells b off ((List.range (min m n)).map fun i => Value.int .u32 (g i : Nat))) (fun i hi => ?_) (fun i hi => ?_) (setCells_below b hb _ _ _) ?_)
    · by_cases hi2 : off ≤ i ∧ i < off + min m n
      · have := World.cell?_setCells_in b ((List.range (min m n)).map fun i => Value.int .u32 (g i : Nat)) off w (fun j hj => C' j (by simpa using hj)) (i - off) (by simp; omega)
        rw [show off + (i - off) = 0 + i by omega] at this
        rw [this]; simp only []; rw [if_pos hi2]; simp
      · rw [World.cell?_setCells_out _ _ _ _ _ (fun _ _ => by simp; omega)]; show _ = some (Value.int .u32 ((if off ≤ i ∧ i < off + min m n then g (i - off) else f i : Nat) : Int)); rw [if_neg hi2]; exact C i hi
    · rw [World.frozen?_setCells]; exact F i hi
    · exact size_setCells _ _ _ _
end
end Go.Proofs.YticfggljaagcmaaDoor
