/-
  append and make, as laws of the walk over arrays that are told cell by cell. Over any program. No condition but the ones that each law names.
-/
import Derived.Test.YticfggljaagcmaaDoorBase
import Derived.Deep.AppendSrc
namespace Go.Proofs.YticfggljaagcmaaDoor
set_option linter.all false
open Go.RowKit

/-- A slice's cells, up to its capacity: one value each. -/
structure Arr (w : World) (a : Option Addr) (n c : Nat) (h : Nat → Value) : Prop where
  le : n ≤ c
  mx : c ≤ maxLen
  cell : ∀ i, i < c → ∃ b off, a = some ⟨b, off, none⟩ ∧ w.cell? ⟨b, off + i, none⟩ = some (h i)
/-- The first n of h, then the first m of g, then the rest. -/
def cat (h : Nat → Value) (n : Nat) (g : Nat → Value) (m : Nat) (r : Nat → Value) : Nat → Value :=
  fun j => if j < n then h j else if j < n + m then g (j - n) else r j

theorem Arr.addr {w : World} {a : Option Addr} {n c : Nat} {h : Nat → Value} (k : Arr w a n c h) (hc : 0 < c) : ∃ b off, a = some ⟨b, off, none⟩ ∧ ∀ i, i < c → w.cell? ⟨b, off + i, none⟩ = some (h i) := by
  obtain ⟨b, off, e, _⟩ := k.cell 0 hc
  refine ⟨b, off, e, fun i hi => ?_⟩
  obtain ⟨b', off', e', h'⟩ := k.cell i hi
  rw [e] at e'
  simp only [Option.some.injEq, Addr.mk.injEq, and_true] at e'
  obtain ⟨rfl, rfl⟩ := e'
  exact h'
theorem Arr.below {w w' : World} {a : Option Addr} {n c : Nat} {h : Nat → Value} (k : Arr w a n c h) {B : Nat} (hb : Below B w w') (hB : w.heap.size ≤ B) : Arr w' a n c h :=
  ⟨k.le, k.mx, fun i hi => by
    obtain ⟨b, off, e, hc⟩ := k.cell i hi
    have hlt := World.block_lt_of_cell? w _ hc
    exact ⟨b, off, e, by rw [hb.cell (p := ⟨b, off + i, none⟩) (by simp at hlt ⊢; omega)]; exact hc⟩⟩
theorem Arr.congr {w : World} {a : Option Addr} {n c : Nat} {h g : Nat → Value} (k : Arr w a n c h) (e : ∀ i, i < c → h i = g i) : Arr w a n c g :=
  ⟨k.le, k.mx, fun i hi => by rw [← e i hi]; exact k.cell i hi⟩
theorem Us.arr {w : World} {a : Option Addr} {n c : Nat} {h : Nat → Nat} (k : Us w a n c h) : Arr w a n c (fun i => .int .u32 (h i : Nat)) := ⟨k.le, k.mx, k.cell⟩
theorem Arr.us {w : World} {a : Option Addr} {n c : Nat} {h : Nat → Nat} (k : Arr w a n c (fun i => .int .u32 (h i : Nat))) (l : Lm h c) : Us w a n c h := ⟨k.le, k.mx, l, k.cell⟩

theorem lst_length {α : Type} (h : Nat → α) (n : Nat) : ((List.range n).map h).length = n := by simp
theorem lst_get {α : Type} (h : Nat → α) (n j : Nat) (u : α) (e : ((List.range n).map h)[j]? = some u) : j < n ∧ u = h j := by
  rw [List.getElem?_map] at e
  by_cases hj : j < n
  · rw [List.getElem?_range hj] at e; simp at e; exact ⟨hj, e.symm⟩
  · rw [List.getElem?_eq_none (by simpa using hj)] at e; simp at e

theorem Arr.empty (w : World) (a : Option Addr) (h : Nat → Value) : Arr w a 0 0 h := ⟨Nat.le_refl _, Nat.zero_le _, fun _ hi => by omega⟩
theorem below_alloc (w : World) (o : Obj) : Below w.heap.size w (w.alloc o) := (Below.refl _ _).alloc (Nat.le_refl _) _
theorem Us.alloc {w : World} {a : Option Addr} {n c : Nat} {h : Nat → Nat} (k : Us w a n c h) (o : Obj) : Us (w.alloc o) a n c h := k.below (below_alloc w o) (Nat.le_refl _)
/-- What an append makes of limbs is limbs. -/
theorem cat_us {w : World} {a : Option Addr} {n c n' m : Nat} {h g : Nat → Nat} {r : Nat → Value} {z : Nat} (hz : z ≤ 4294967295) (lh : Lm h n) (lg : Lm g m) (hr : r = (fun i => .int .u32 (h i : Nat)) ∧ Lm h c ∨ r = fun _ => .int .u32 (z : Nat))
    (k : Arr w a n' c (cat (fun i => .int .u32 (h i : Nat)) n (fun i => .int .u32 (g i : Nat)) m r)) : ∃ f : Nat → Nat, Us w a n' c f ∧ (∀ i, i < n → f i = h i) ∧ ∀ i, i < m → f (n + i) = g i := by
  obtain ⟨q, rfl, lq⟩ : ∃ q : Nat → Nat, (r = fun i => Value.int .u32 (q i : Nat)) ∧ Lm q c := by
    rcases hr with ⟨h1, h2⟩ | h1
    · exact ⟨h, h1, h2⟩
    · exact ⟨fun _ => z, h1, fun _ _ => hz⟩
  refine ⟨fun j => if j < n then h j else if j < n + m then g (j - n) else q j, (k.congr ?_).us ?_, fun i hi => by simp [hi], fun i hi => by dsimp only; rw [if_neg (by omega), if_pos (by omega), Nat.add_sub_cancel_left]⟩
  · intro i hi
    unfold cat
    dsimp only
    split
    · rfl
    · split <;> rfl
  · intro i hi
    dsimp only
    split
    · exact lh i ‹_›
    · split
      · exact lg _ (by omega)
      · exact lq i hi
section
variable {P : Program}
theorem Arr.first {w : World} {a : Option Addr} {n c : Nat} {h : Nat → Value} (k : Arr w a n c h) (size : Nat) (hs : size = 1) : (Builtin.firstCells size n (.slice a n c)).run P w = .ok ((List.range n).map h).toArray w := by
  subst hs
  by_cases hn : n = 0
  · subst hn
    cases a with
    | none => rw [run_firstCells_none]; rfl
    | some ad => exact run_firstCells_some w 1 0 ad 0 c _ (by simp) (fun j v e => by simp at e)
  · have := k.le
    obtain ⟨b, off, rfl, hc⟩ := k.addr (by omega)
    refine run_firstCells_some w 1 n _ n c _ (by simp) (fun j v e => ?_)
    obtain ⟨hj, rfl⟩ := lst_get _ _ _ _ e
    rw [Addr.add_lit]
    exact hc j (by omega)
theorem Arr.src {w : World} {a : Option Addr} {n c : Nat} {h : Nat → Value} (k : Arr w a n c h) {tx e' : TypeId} (ht : P.underlying tx = some (.slice e')) (one : ∀ i, i < n → (h i).oneCell' = true) : Src P 1 tx (.slice a n c) n ((List.range n).map h) w :=
  ⟨.inl ⟨e', ht⟩, fun _ => rfl, k.first 1 rfl, Arr.first (w := w.drew) ⟨k.le, k.mx, fun i hi => by simpa using k.cell i hi⟩ 1 rfl, by simp, fun u hu => by
    obtain ⟨i, hi, rfl⟩ := List.mem_map.1 hu
    exact one i (by simpa using hi)⟩

theorem setCells_below {B : Nat} (b : Nat) (hB : B ≤ b) : ∀ (vs : List Value) (o : Nat) (w : World), Below B w (w.setCells b o vs)
  | [], _, w => Below.refl _ _
  | v :: r, o, w => ((Below.refl B w).setCell (p := ⟨b, o, none⟩) hB v).trans (setCells_below b hB r (o + 1) _)
theorem size_zero1 (z : Value) (h : z.cells = #[z]) (n j : Nat) (hj : j < n) : (Builtin.zeroCells z.cells n)[j]? = some z := by
  rw [h]
  unfold Builtin.zeroCells
  simp [hj, Nat.mod_one]

/-- append, whatever is appended, onto a slice of one's own: what it runs to. -/
theorem run_append_arr (w : World) (t tx ty e e' : TypeId) (z : Value) (bytes : Nat) (ht : P.underlying t = some (.slice e)) (htx : P.underlying tx = some (.slice e'))
    (hi : (P.info? e).map (fun i => (i.zero, i.size, i.bytes)) = some (some z, 1, bytes)) (hz : z.cells = #[z]) (base : Nat) (hbase : base ≤ w.heap.size)
    (a ao : Option Addr) (n c m d : Nat) (h g : Nat → Value) (A : Arr w a n c h) (N : New w base a c) (S : Arr w ao m d g) (one : ∀ i, i < m → (g i).oneCell' = true)
    (hlen : (n + m) * (2 * bytes) ≤ 281474976710656) (h63 : n + m ≤ 140737488355328) :
    ∃ a' c' r w', (Builtin.append_ #[t, tx] ty #[.slice a n c, .slice ao m d]).run P w = .ok (.slice a' (n + m) c') w' ∧ (r = h ∧ c' = c ∨ r = fun _ => z) ∧
      Arr w' a' (n + m) c' (cat h n g m r) ∧ New w' base a' c' ∧ Below base w w' := by
  obtain ⟨i, hi0, hiz, his, hib⟩ := info_parts hi
  have src := S.src (P := P) htx one
  by_cases hroom : n + m ≤ c
  · by_cases hc0 : c = 0
    · subst hc0
      have hn0 : n = 0 := by omega
      have hm0 : m = 0 := by omega
      subst hn0; subst hm0
      refine ⟨a, 0, h, w, ?_, .inl ⟨rfl, rfl⟩, ⟨Nat.le_refl _, Nat.zero_le _, fun _ hi => by omega⟩, fun _ hi => by omega, Below.refl _ _⟩
      have f0 := S.first (P := P) 1 rfl
      simp at f0
      rcases hx : a with _ | ad
      · simp [Builtin.append_, run_underlying ht, run_underlying htx, sizeOf, typeInfo, hi0, Builtin.lenOf, his]
        simp [f0]
      · simp [Builtin.append_, run_underlying ht, run_underlying htx, sizeOf, typeInfo, hi0, Builtin.lenOf, his]
        simp [f0, storeCells]
    · obtain ⟨b, off, rfl, hc⟩ := A.addr (by omega)
      have hrun := run_append_room_src (P := P) w t tx ty e i ht hi0 b off n c (.slice ao m d) m ((List.range m).map g) (by rw [his]; exact src) hroom
        (fun j hj => by rw [his, Nat.mul_one, Nat.add_assoc, hc (n + j) (by simp at hj; omega)]; rfl)
        (fun j hj => by
          obtain ⟨b', off', e', _, hf⟩ := N (n + j) (by simp at hj; omega)
          simp only [Option.some.injEq, Addr.mk.injEq, and_true] at e'
          obtain ⟨rfl, rfl⟩ := e'
          rw [his, Nat.mul_one, Nat.add_assoc]; exact hf)
      rw [his, Nat.mul_one] at hrun
      obtain ⟨b', off', e', hb, _⟩ := N 0 (by omega)
      simp only [Option.some.injEq, Addr.mk.injEq, and_true] at e'
      obtain ⟨rfl, rfl⟩ := e'
      refine ⟨_, _, h, _, hrun, .inl ⟨rfl, rfl⟩, ⟨hroom, A.mx, fun j hj => ⟨b, off, rfl, ?_⟩⟩, fun j hj => ?_, setCells_below b hb _ _ _⟩
      · unfold cat
        split
        · rw [World.cell?_setCells_out _ _ _ _ _ (fun _ _ => .inl (by simp; omega))]; exact hc j hj
        · split
          · have := World.cell?_setCells_in b ((List.range m).map g) (off + n) w (fun k hk => by rw [Nat.add_assoc, hc (n + k) (by simp at hk; omega)]; rfl) (j - n) (by simp; omega)
            rw [show off + n + (j - n) = off + j by omega] at this
            rw [this]; simp
          · rw [World.cell?_setCells_out _ _ _ _ _ (fun _ _ => .inr (by simp; omega))]; exact hc j hj
      · obtain ⟨b', off', e', h1, h2⟩ := N j hj
        exact ⟨b', off', e', h1, by rw [World.frozen?_setCells]; exact h2⟩
  · have hgrow : c < n + m := by omega
    have hrun := run_append_grow_src (P := P) w t tx ty e i z ht hi0 hiz a n c ((List.range n).map h) (Arr.first (w := w.drew) ⟨A.le, A.mx, fun i hi => by simpa using A.cell i hi⟩ i.size his) (.slice ao m d) m ((List.range m).map g) (by rw [his]; exact src) hgrow
      (by omega) (by
        have h1 := nextslicecap_le hgrow
        have h2 : Builtin.nextslicecap (n + m) c * i.bytes ≤ 2 * (n + m) * i.bytes := Nat.mul_le_mul_right _ h1
        have h3 : 2 * (n + m) * i.bytes = (n + m) * (2 * bytes) := by rw [hib, Nat.mul_comm 2, Nat.mul_assoc]
        omega)
    have hge := grownCap_ge w (n + m) c e
    have hle := grownCap_le_maxLen w (n + m) c e (by unfold maxLen; omega)
    have hcell : ∀ j, j < grownCap w (n + m) c e → (((List.range n).map h ++ (List.range m).map g).toArray ++ Builtin.zeroCells z.cells (grownCap w (n + m) c e - (n + m)))[j]? = some (cat h n g m (fun _ => z) j) := by
      intro j hj
      unfold cat
      rw [Array.getElem?_append]
      split
      · rename_i h1
        simp at h1
        simp only [List.getElem?_toArray, List.getElem?_append, List.length_map, List.length_range]
        split
        · simp [*]
        · rename_i h2; simp [show j - n < m by omega]
      · rename_i h1
        simp at h1
        rw [if_neg (by omega), if_neg (by omega)]
        exact size_zero1 z hz _ _ (by simp; omega)
    refine ⟨_, _, fun _ => z, _, hrun, .inr rfl, ⟨hge, hle, fun j hj => ⟨w.heap.size, 0, rfl, ?_⟩⟩, fun j hj => ⟨w.heap.size, 0, rfl, hbase, ?_⟩, ((Below.refl _ _).drew).alloc hbase _⟩
    · rw [Nat.zero_add]
      have := World.cell?_alloc_new w.drew (((List.range n).map h ++ (List.range m).map g).toArray ++ Builtin.zeroCells z.cells (grownCap w (n + m) c e - (n + m))) e j
      exact this.trans (hcell j hj)
    · exact World.frozen?_alloc_new w.drew _ _ _

/-- append, in the walk's form. -/
theorem wpList_append_arr {ops : Array Oper} {rest : List Oper} {o : Oper} {act : Act} {Q : Exit → Act → World → Prop} (w : World) (hgd : o.guard = none) (s x : Operand) (t tx : TypeId)
    (ho : o.op = .call { callee := .builtin .append, args := #[s, x], argTypes := #[t, tx] })
    (e e' : TypeId) (z : Value) (bytes : Nat) (ht : P.underlying t = some (.slice e)) (htx : P.underlying tx = some (.slice e'))
    (hi : (P.info? e).map (fun i => (i.zero, i.size, i.bytes)) = some (some z, 1, bytes)) (hz : z.cells = #[z]) (base : Nat) (hbase : base ≤ w.heap.size)
    (a ao : Option Addr) (n c m d : Nat) (h g : Nat → Value) (hs : act.eval s = .slice a n c) (hx : act.eval x = .slice ao m d) (A : Arr w a n c h) (N : New w base a c) (S : Arr w ao m d g) (one : ∀ i, i < m → (g i).oneCell' = true)
    (hlen : (n + m) * (2 * bytes) ≤ 281474976710656) (h63 : n + m ≤ 140737488355328)
    (hK : ∀ a' c' r w', (r = h ∧ c' = c ∨ r = fun _ => z) → Arr w' a' (n + m) c' (cat h n g m r) → New w' base a' c' → Below base w w' → wpList P ops Q rest (act.put o.dst (.slice a' (n + m) c')) w') :
    wpList P ops Q (o :: rest) act w := by
  refine wpList_plain hgd fun K hK' => ?_
  obtain ⟨a', c', r, w', hrun, h1, h2, h3, h4⟩ := run_append_arr (P := P) w t tx o.type e e' z bytes ht htx hi hz base hbase a ao n c m d h g A N S one hlen h63
  unfold Oper.wp
  simp [execOp, ho, resolve, invoke, builtin, hs, hx, hrun, Result.andThen]
  exact hK' _ _ (hK a' c' r w' h1 h2 h3 h4)

/-- append at limbs. -/
theorem wpList_append_u32 {ops : Array Oper} {rest : List Oper} {o : Oper} {act : Act} {Q : Exit → Act → World → Prop} (w : World) (hgd : o.guard = none) (s x : Operand) (t tx : TypeId)
    (ho : o.op = .call { callee := .builtin .append, args := #[s, x], argTypes := #[t, tx] })
    (e : TypeId) (ht : P.underlying t = some (.slice e)) (htx : P.underlying tx = some (.slice e))
    (hi : (P.info? e).map (fun i => (i.zero, i.size, i.bytes)) = some (some (.int .u32 0), 1, 4)) (base : Nat) (hbase : base ≤ w.heap.size)
    (a ao : Option Addr) (n c m d : Nat) (h g : Nat → Nat) (hs : act.eval s = .slice a n c) (hx : act.eval x = .slice ao m d) (A : Us w a n c h) (N : New w base a c) (S : Us w ao m d g)
    (hlen : n + m ≤ 35184372088832)
    (hK : ∀ a' c' f w', Us w' a' (n + m) c' f → (∀ i, i < n → f i = h i) → (∀ i, i < m → f (n + i) = g i) → New w' base a' c' → Below base w w' → wpList P ops Q rest (act.put o.dst (.slice a' (n + m) c')) w') :
    wpList P ops Q (o :: rest) act w :=
  wpList_append_arr w hgd s x t tx ho e e (.int .u32 0) 4 ht htx hi rfl base hbase a ao n c m d _ _ hs hx A.arr N S.arr (fun _ _ => rfl) (by omega) (by omega)
    fun a' c' r w' hr hA hN hB => by
      have hr' : r = (fun i => Value.int .u32 (h i : Nat)) ∧ Lm h c' ∨ r = fun _ => Value.int .u32 ((0 : Nat) : Int) := by
        rcases hr with ⟨h1, h2⟩ | h1
        · subst h2; exact .inl ⟨h1, A.lm⟩
        · exact .inr h1
      obtain ⟨f, h1, h2, h3⟩ := cat_us (Nat.zero_le _) (A.lm.mono A.le) (S.lm.mono S.le) hr' hA
      exact hK a' c' f w' h1 h2 h3 hN hB

/-- make of a slice of so many noughts, in the walk's form. -/
theorem wpList_make_arr {ops : Array Oper} {rest : List Oper} {o : Oper} {act : Act} {Q : Exit → Act → World → Prop} (w : World) (hgd : o.guard = none) (l c : Operand) (t : TypeId) (hop : o.op = Op.makeSlice t l c)
    (e : TypeId) (z : Value) (bytes : Nat) (ht : P.underlying t = some (.slice e))
    (hi : (P.info? e).map (fun i => (i.zero, i.size, i.bytes)) = some (some z, 1, bytes)) (hz : z.cells = #[z])
    (kl kc : IntKind) (L C : Int) (n : Nat) (hl : act.eval l = .int kl L) (hc : act.eval c = .int kc C) (hL : L = (n : Int)) (hC : C = (n : Int)) (b2 : bytes * n ≤ 281474976710656) (b3 : n ≤ 281474976710656)
    (hK : ∀ w', (∀ i, i < n → w'.cell? ⟨w.heap.size, i, none⟩ = some z) → (∀ i, w'.frozen? ⟨w.heap.size, i, none⟩ = false) → Below w.heap.size w w' → w'.heap.size = w.heap.size + 1 → wpList P ops Q rest (act.put o.dst (.slice (some ⟨w.heap.size, 0, none⟩) n n)) w') :
    wpList P ops Q (o :: rest) act w := by
  obtain ⟨i, hi0, hiz, his, hib⟩ := info_parts hi
  refine wpList_plain hgd fun K hK' => ?_
  subst hL; subst hC
  have hb3 : (i.bytes : Int) * (n : Int) ≤ 281474976710656 := by
    rw [hib]
    have : ((bytes * n : Nat) : Int) ≤ 281474976710656 := by omega
    rwa [Int.natCast_mul] at this
  have hr := run_make (P := P) w t e i z ht hi0 hiz kl kc (n : Int) (n : Int) (by omega) (Int.le_refl _) hb3 (by omega)
  simp only [Int.toNat_natCast, his, Nat.mul_one] at hr
  unfold Oper.wp
  simp [execOp, hop, hl, hc, hr, Result.andThen]
  refine hK' _ _ (hK _ (fun j hj => ?_) (fun j => ?_) ((Below.refl _ _).alloc (Nat.le_refl _) _) (by simp))
  · rw [World.cell?_alloc_new, hz]
    simp [madeCells, hj, Nat.mod_one]
  · exact World.frozen?_alloc_new w _ _ _
end
end Go.Proofs.YticfggljaagcmaaDoor
