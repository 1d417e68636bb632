/-
  append of one struct onto a slice of one's own: what it runs to, and what stays. No condition; no program in sight.
-/
import Derived.Test.YtajpeeccomgnnaaGreatDoorBigD
namespace Go.Proofs.YtajpeeccomgnnaaGreatDoor
set_option linter.all false
open Go Go.RowKit

/-- A slice of structs of s cells each: its cells, up to its capacity. -/
structure ArrS (w : World) (a : Option Addr) (n c s : Nat) (h : Nat → Value) : Prop where
  le : n ≤ c
  mx : c ≤ maxLen
  cell : ∀ j, j < c * s → ∃ b off, a = some ⟨b, off, none⟩ ∧ w.cell? ⟨b, off + j, none⟩ = some (h j)
/-- But for some cells of a slice nothing has turned. -/
structure Kp (w w' : World) (a : Option Addr) (lo hi : Nat) : Prop where
  size : w.heap.size ≤ w'.heap.size
  cell : ∀ p : Addr, p.block < w.heap.size → (∀ b off, a = some ⟨b, off, none⟩ → ¬ (p.block = b ∧ p.spot = none ∧ off + lo ≤ p.off ∧ p.off < off + hi)) → w'.cell? p = w.cell? p
  frozen : ∀ p : Addr, p.block < w.heap.size → w'.frozen? p = w.frozen? p
theorem ArrS.addr {w : World} {a : Option Addr} {n c s : Nat} {h : Nat → Value} (k : ArrS w a n c s h) (hc : 0 < c * s) : ∃ b off, a = some ⟨b, off, none⟩ ∧ ∀ j, j < c * s → w.cell? ⟨b, off + j, none⟩ = some (h j) := by
  obtain ⟨b, off, e, _⟩ := k.cell 0 hc
  refine ⟨b, off, e, fun j hj => ?_⟩
  obtain ⟨b', off', e', h'⟩ := k.cell j hj
  rw [e] at e'
  simp only [Option.some.injEq, Addr.mk.injEq, and_true] at e'
  obtain ⟨rfl, rfl⟩ := e'
  exact h'
/-- What is there behind such an append: the old, the new, and what was or is spare. -/
def catS (h : Nat → Value) (m s : Nat) (g r : Nat → Value) : Nat → Value := fun j => if j < m then h j else if j < m + s then g (j - m) else r j
/-- A zero's cells, over and over. -/
def zcS (z : Value) : Nat → Value := fun j => z.cells[j % z.cells.size]!

section
variable {P : Program}
theorem firstS {w : World} {a : Option Addr} {n c s : Nat} {h : Nat → Value} (k : ArrS w a n c s h) : (Builtin.firstCells s n (.slice a n c)).run P w = .ok ((List.range (n * s)).map h).toArray w := by
  by_cases hn : n * s = 0
  · rw [hn]
    cases a with
    | none => rw [run_firstCells_none]; rfl
    | some ad => exact run_firstCells_some w s n ad n c _ (by simp [hn]) (fun j v e => by simp at e)
  · have := k.le
    have hle : n * s ≤ c * s := Nat.mul_le_mul_right _ k.le
    obtain ⟨b, off, rfl, hc⟩ := k.addr (by omega)
    refine run_firstCells_some w s n _ n c _ (by simp) (fun j v e => ?_)
    obtain ⟨hj, rfl⟩ := lst_get _ _ _ _ e
    rw [Addr.add_lit]
    exact hc j (by omega)
theorem run_append_one (w : World) (t tx ty e e' : TypeId) (z : Value) (s bytes : Nat) (ht : P.underlying t = some (.slice e)) (htx : P.underlying tx = some (.slice e'))
    (hi : (P.info? e).map (fun i => (i.zero, i.size, i.bytes)) = some (some z, s, bytes)) (hz : z.cells.size = s) (hs0 : 0 < s) (base : Nat) (hbase : base ≤ w.heap.size)
    (a : Option Addr) (n c : Nat) (h g : Nat → Value) (xb xo d : Nat) (A : ArrS w a n c s h) (N : New w base a (c * s)) (hg : ∀ j, j < s → w.cell? ⟨xb, xo + j, none⟩ = some (g j)) (one : ∀ j, j < s → (g j).oneCell' = true)
    (hlen : (n + 1) * (2 * bytes) ≤ 281474976710656) (h63 : n + 1 ≤ 140737488355328) :
    ∃ a' c' r w', (Builtin.append_ #[t, tx] ty #[.slice a n c, .slice (some ⟨xb, xo, none⟩) 1 d]).run P w = .ok (.slice a' (n + 1) c') w' ∧ (r = h ∧ a' = a ∧ c' = c ∨ r = zcS z ∧ a' = some ⟨w.heap.size, 0, none⟩ ∧ w.heap.size < w'.heap.size ∧ ∀ p : Addr, p.block < w.heap.size → w'.cell? p = w.cell? p) ∧
      ArrS w' a' (n + 1) c' s (catS h (n * s) s g r) ∧ New w' base a' (c' * s) ∧ Below base w w' ∧ Kp w w' a (n * s) ((n + 1) * s) := by
  obtain ⟨i, hi0, hiz, his, hib⟩ := info_parts hi
  have hxb : xb < w.heap.size := World.block_lt_of_cell? w _ (hg 0 hs0)
  have src : Src P i.size tx (.slice (some ⟨xb, xo, none⟩) 1 d) 1 ((List.range s).map g) w := by
    rw [his]
    refine ⟨.inl ⟨e', htx⟩, fun _ => rfl, ?_, ?_, by simp, fun u hu => ?_⟩
    · refine run_firstCells_some w s 1 _ 1 d _ (by simp) (fun j v e => ?_)
      obtain ⟨hj, rfl⟩ := lst_get _ _ _ _ e
      rw [Addr.add_lit]; exact hg j hj
    · refine run_firstCells_some w.drew s 1 _ 1 d _ (by simp) (fun j v e => ?_)
      obtain ⟨hj, rfl⟩ := lst_get _ _ _ _ e
      rw [Addr.add_lit]; exact hg j hj
    · obtain ⟨j, hj, rfl⟩ := List.mem_map.1 hu
      exact one j (by simpa using hj)
  by_cases hroom : n + 1 ≤ c
  · have hms : (n + 1) * s ≤ c * s := Nat.mul_le_mul_right _ hroom
    have hn1 : (n + 1) * s = n * s + s := Nat.succ_mul n s
    obtain ⟨b, off, rfl, hc⟩ := A.addr (by omega)
    have hrun := run_append_room_src (P := P) w t tx ty e i ht hi0 b off n c (.slice (some ⟨xb, xo, none⟩) 1 d) 1 ((List.range s).map g) src hroom
      (fun j hj => by rw [his, Nat.add_assoc, hc (n * s + j) (by simp at hj; omega)]; rfl)
      (fun j hj => by
        obtain ⟨b', off', e', _, hf⟩ := N (n * s + j) (by simp at hj; omega)
        simp only [Option.some.injEq, Addr.mk.injEq, and_true] at e'
        obtain ⟨rfl, rfl⟩ := e'
        rw [his, Nat.add_assoc]; exact hf)
    rw [his] at hrun
    obtain ⟨b', off', e', hb, _⟩ := N 0 (by omega)
    simp only [Option.some.injEq, Addr.mk.injEq, and_true] at e'
    obtain ⟨rfl, rfl⟩ := e'
    refine ⟨_, _, h, _, hrun, .inl ⟨rfl, rfl, rfl⟩, ⟨hroom, A.mx, fun j hj => ⟨b, off, rfl, ?_⟩⟩, fun j hj => ?_, setCells_below b hb _ _ _, ⟨?_, fun p hp hn => ?_, fun p hp => World.frozen?_setCells ..⟩⟩
    · unfold catS
      split
      · rw [World.cell?_setCells_out _ _ _ _ _ (fun _ _ => .inl (by simp; omega))]; exact hc j hj
      · split
        · have := World.cell?_setCells_in b ((List.range s).map g) (off + n * s) w (fun k hk => by rw [Nat.add_assoc, hc (n * s + k) (by simp at hk; omega)]; rfl) (j - n * s) (by simp; omega)
          rw [show off + n * s + (j - n * s) = off + j by omega] at this
          rw [this]; simp
        · rw [World.cell?_setCells_out _ _ _ _ _ (fun _ _ => .inr (by simp; omega))]; exact hc j hj
    · obtain ⟨b', off', e', h1, h2⟩ := N j hj
      exact ⟨b', off', e', h1, by rw [World.frozen?_setCells]; exact h2⟩
    · exact (setCells_below b (Nat.le_refl b) _ _ _).size
    · refine World.cell?_setCells_out _ _ _ _ _ (fun h1 h2 => ?_)
      have h3 := hn b off rfl
      simp only [List.length_map, List.length_range]
      by_cases q : p.off < off + n * s
      · exact .inl q
      · exact .inr (by
          by_cases q2 : p.off < off + (n + 1) * s
          · exact absurd ⟨h1, h2, by omega, q2⟩ h3
          · omega)
  · have hn1 : (n + 1) * s = n * s + s := Nat.succ_mul n s
    have hrun := run_append_grow_src (P := P) w t tx ty e i z ht hi0 hiz a n c ((List.range (n * s)).map h) (by rw [his]; exact firstS (w := w.drew) ⟨A.le, A.mx, fun i hi => by simpa using A.cell i hi⟩) (.slice (some ⟨xb, xo, none⟩) 1 d) 1 ((List.range s).map g) src (by omega)
      (by omega) (by
        have h1 := nextslicecap_le (show c < n + 1 by omega)
        have h2 : Builtin.nextslicecap (n + 1) c * i.bytes ≤ 2 * (n + 1) * i.bytes := Nat.mul_le_mul_right _ h1
        have h3 : 2 * (n + 1) * i.bytes = (n + 1) * (2 * bytes) := by rw [hib, Nat.mul_comm 2, Nat.mul_assoc]
        omega)
    have hge := grownCap_ge w (n + 1) c e
    have hle := grownCap_le_maxLen w (n + 1) c e (by unfold maxLen; omega)
    have hcell : ∀ j, j < grownCap w (n + 1) c e * s → (((List.range (n * s)).map h ++ (List.range s).map g).toArray ++ Builtin.zeroCells z.cells (grownCap w (n + 1) c e - (n + 1)))[j]? = some (catS h (n * s) s g (zcS z) j) := by
      intro j hj
      unfold catS
      rw [Array.getElem?_append]
      split
      · rename_i h1
        simp at h1
        simp only [List.getElem?_toArray, List.getElem?_append, List.length_map, List.length_range]
        split
        · simp [*]
        · rename_i h2; simp [show j - n * s < s by omega]
      · rename_i h1
        simp at h1
        rw [if_neg (by omega), if_neg (by omega)]
        have hsub : (grownCap w (n + 1) c e - (n + 1)) * s = grownCap w (n + 1) c e * s - (n + 1) * s := Nat.sub_mul ..
        unfold Builtin.zeroCells zcS
        have hlt : j - (n * s + s) < (grownCap w (n + 1) c e - (n + 1)) * z.cells.size := by rw [hz, hsub]; omega
        simp only [List.length_append, List.length_map, List.length_range, List.size_toArray]
        rw [Array.getElem?_map, Array.getElem?_range]
        rw [if_pos hlt]
        simp only [Option.map_some]
        congr 1
        rw [hz]
        have : (j - (n * s + s)) % s = j % s := by
          have e1 : j = (j - (n * s + s)) + s * (n + 1) := by rw [Nat.mul_comm s, hn1]; omega
          conv => rhs; rw [e1]
          rw [Nat.add_mul_mod_self_left]
        rw [this]
    refine ⟨_, _, zcS z, _, hrun, .inr ⟨rfl, rfl, by simp, fun p hp => (((Below.refl w.heap.size w).drew).alloc (Nat.le_refl _) _).cell hp⟩, ⟨hge, hle, fun j hj => ⟨w.heap.size, 0, rfl, ?_⟩⟩, fun j hj => ⟨w.heap.size, 0, rfl, hbase, ?_⟩, ((Below.refl _ _).drew).alloc hbase _, ⟨by simp, fun p hp _ => ?_, fun p hp => ?_⟩⟩
    · rw [Nat.zero_add]
      have := World.cell?_alloc_new w.drew (((List.range (n * s)).map h ++ (List.range s).map g).toArray ++ Builtin.zeroCells z.cells (grownCap w (n + 1) c e - (n + 1))) e j
      exact this.trans (hcell j hj)
    · exact World.frozen?_alloc_new w.drew _ _ _
    · exact (((Below.refl w.heap.size w).drew).alloc (Nat.le_refl _) _).cell hp
    · exact (((Below.refl w.heap.size w).drew).alloc (Nat.le_refl _) _).frozen hp
theorem wpList_append_one {ops : Array Oper} {rest : List Oper} {o : Oper} {act : Act} {Q : Exit → Act → World → Prop} (w : World) (hgd : o.guard = none) (sl x : Operand) (t tx : TypeId)
    (ho : o.op = .call { callee := .builtin .append, args := #[sl, x], argTypes := #[t, tx] })
    (e e' : TypeId) (z : Value) (s bytes : Nat) (ht : P.underlying t = some (.slice e)) (htx : P.underlying tx = some (.slice e'))
    (hi : (P.info? e).map (fun i => (i.zero, i.size, i.bytes)) = some (some z, s, bytes)) (hz : z.cells.size = s) (hs0 : 0 < s) (base : Nat) (hbase : base ≤ w.heap.size)
    (a : Option Addr) (n c : Nat) (h g : Nat → Value) (xb xo d : Nat) (hs : act.eval sl = .slice a n c) (hx : act.eval x = .slice (some ⟨xb, xo, none⟩) 1 d) (A : ArrS w a n c s h) (N : New w base a (c * s)) (hg : ∀ j, j < s → w.cell? ⟨xb, xo + j, none⟩ = some (g j)) (one : ∀ j, j < s → (g j).oneCell' = true)
    (hlen : (n + 1) * (2 * bytes) ≤ 281474976710656) (h63 : n + 1 ≤ 140737488355328)
    (hK : ∀ a' c' r w', (r = h ∧ a' = a ∧ c' = c ∨ r = zcS z ∧ a' = some ⟨w.heap.size, 0, none⟩ ∧ w.heap.size < w'.heap.size ∧ ∀ p : Addr, p.block < w.heap.size → w'.cell? p = w.cell? p) → ArrS w' a' (n + 1) c' s (catS h (n * s) s g r) → New w' base a' (c' * s) → Below base w w' → Kp w w' a (n * s) ((n + 1) * s) → wpList P ops Q rest (act.put o.dst (.slice a' (n + 1) c')) w') :
    wpList P ops Q (o :: rest) act w := by
  refine wpList_plain hgd fun K hK' => ?_
  obtain ⟨a', c', r, w', hrun, h1, h2, h3, h4, h5⟩ := run_append_one (P := P) w t tx o.type e e' z s bytes ht htx hi hz hs0 base hbase a n c h g xb xo d A N hg one hlen h63
  unfold Oper.wp
  simp [execOp, ho, resolve, invoke, builtin, hs, hx, hrun, Result.andThen]
  exact hK' _ _ (hK a' c' r w' h1 h2 h3 h4 h5)
theorem oper_append_one {o : Oper} {K : Act → World → Prop} {act : Act} {Q : Exit → Act → World → Prop} (w : World) (D : Option Tmp) (hD : o.dst = D) (sl x : Operand) (t tx : TypeId)
    (ho : o.op = .call { callee := .builtin .append, args := #[sl, x], argTypes := #[t, tx] })
    (e e' : TypeId) (z : Value) (s bytes : Nat) (ht : P.underlying t = some (.slice e)) (htx : P.underlying tx = some (.slice e'))
    (hi : (P.info? e).map (fun i => (i.zero, i.size, i.bytes)) = some (some z, s, bytes)) (hz : z.cells.size = s) (hs0 : 0 < s) (base : Nat) (hbase : base ≤ w.heap.size)
    (a : Option Addr) (n c : Nat) (h g : Nat → Value) (xb xo d : Nat) (hs : act.eval sl = .slice a n c) (hx : act.eval x = .slice (some ⟨xb, xo, none⟩) 1 d) (A : ArrS w a n c s h) (N : New w base a (c * s)) (hg : ∀ j, j < s → w.cell? ⟨xb, xo + j, none⟩ = some (g j)) (one : ∀ j, j < s → (g j).oneCell' = true)
    (hlen : (n + 1) * (2 * bytes) ≤ 281474976710656) (h63 : n + 1 ≤ 140737488355328)
    (hK : ∀ a' c' r w', (r = h ∧ a' = a ∧ c' = c ∨ r = zcS z ∧ a' = some ⟨w.heap.size, 0, none⟩ ∧ w.heap.size < w'.heap.size ∧ ∀ p : Addr, p.block < w.heap.size → w'.cell? p = w.cell? p) → ArrS w' a' (n + 1) c' s (catS h (n * s) s g r) → New w' base a' (c' * s) → Below base w w' → Kp w w' a (n * s) ((n + 1) * s) → K (act.put D (.slice a' (n + 1) c')) w') :
    Oper.wp P o act w K Q := by
  subst hD
  obtain ⟨a', c', r, w', hrun, h1, h2, h3, h4, h5⟩ := run_append_one (P := P) w t tx o.type e e' z s bytes ht htx hi hz hs0 base hbase a n c h g xb xo d A N hg one hlen h63
  unfold Oper.wp
  simp [execOp, ho, resolve, invoke, builtin, hs, hx, hrun, Result.andThen]
  exact hK a' c' r w' h1 h2 h3 h4 h5
end
end Go.Proofs.YtajpeeccomgnnaaGreatDoor
