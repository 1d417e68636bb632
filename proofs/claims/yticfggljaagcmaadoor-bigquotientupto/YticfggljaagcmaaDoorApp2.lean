/-
  append, with what it leaves alone. No condition.
-/
import Derived.Test.YticfggljaagcmaaDoorApp
namespace Go.Proofs.YticfggljaagcmaaDoor
set_option linter.all false
open Go.RowKit
section
variable {P : Program}

/-- append, whatever is appended, onto a slice of one's own: what it runs to. -/
theorem run_append_frame (w : World) (t tx ty e e' : TypeId) (z : Value) (bytes : Nat) (ht : P.underlying t = some (.slice e)) (htx : P.underlying tx = some (.slice e'))
    (hi : (P.info? e).map (fun i => (i.zero, i.size, i.bytes)) = some (some z, 1, bytes)) (hz : z.cells = #[z]) (base : Nat) (hbase : base ≤ w.heap.size)
    (a ao : Option Addr) (n c m d : Nat) (h g : Nat → Value) (A : Arr w a n c h) (N : New w base a c) (S : Arr w ao m d g) (one : ∀ i, i < m → (g i).oneCell' = true)
    (hlen : (n + m) * (2 * bytes) ≤ 281474976710656) (h63 : n + m ≤ 140737488355328) :
    ∃ a' c' r w', (Builtin.append_ #[t, tx] ty #[.slice a n c, .slice ao m d]).run P w = .ok (.slice a' (n + m) c') w' ∧ (r = h ∧ c' = c ∨ r = fun _ => z) ∧
      Arr w' a' (n + m) c' (cat h n g m r) ∧ New w' base a' c' ∧ Below base w w' ∧ (∀ p : Addr, p.block < w.heap.size → (∀ b off, a = some ⟨b, off, none⟩ → 0 < c → p.block ≠ b) → w'.cell? p = w.cell? p) := by
  obtain ⟨i, hi0, hiz, his, hib⟩ := info_parts hi
  have src := S.src (P := P) htx one
  by_cases hroom : n + m ≤ c
  · by_cases hc0 : c = 0
    · subst hc0
      have hn0 : n = 0 := by omega
      have hm0 : m = 0 := by omega
      subst hn0; subst hm0
      refine ⟨a, 0, h, w, ?_, .inl ⟨rfl, rfl⟩, ⟨Nat.le_refl _, Nat.zero_le _, fun _ hi => by omega⟩, fun _ hi => by omega, Below.refl _ _, fun _ _ _ => rfl⟩
      have f0 := S.first (P := P) 1 rfl
      simp at f0
      rcases hx : a with _ | ad
      · simp [Builtin.append_, run_underlying ht, run_underlying htx, sizeOf, typeInfo, hi0, Builtin.lenOf, his]
        simp [f0]
      · simp [Builtin.append_, run_underlying ht, run_underlying htx, sizeOf, typeInfo, hi0, Builtin.lenOf, his]
        simp [f0, storeCells]
    · obtain ⟨b, off, rfl, hc⟩ := A.addr (by omega)
      have hrun := run_append_room_src (P := P) w t tx ty e i ht hi0 b off n c (.slice ao m d) m ((List.range m).map g) (by rw [his]; exact src) hroom
        (fun j hj => by rw [his, Nat.mul_one, Nat.add_assoc, hc (n + j) (by simp at hj; omega)]; rfl)
        (fun j hj => by
          obtain ⟨b', off', e', _, hf⟩ := N (n + j) (by simp at hj; omega)
          simp only [Option.some.injEq, Addr.mk.injEq, and_true] at e'
          obtain ⟨rfl, rfl⟩ := e'
          rw [his, Nat.mul_one, Nat.add_assoc]; exact hf)
      rw [his, Nat.mul_one] at hrun
      obtain ⟨b', off', e', hb, _⟩ := N 0 (by omega)
      simp only [Option.some.injEq, Addr.mk.injEq, and_true] at e'
      obtain ⟨rfl, rfl⟩ := e'
      refine ⟨_, _, h, _, hrun, .inl ⟨rfl, rfl⟩, ⟨hroom, A.mx, fun j hj => ⟨b, off, rfl, ?_⟩⟩, fun j hj => ?_, setCells_below b hb _ _ _, fun p _ hp => World.cell?_setCells_out _ _ _ _ _ (fun e _ => absurd e (hp b off rfl (by omega)))⟩
      · unfold cat
        split
        · rw [World.cell?_setCells_out _ _ _ _ _ (fun _ _ => .inl (by simp; omega))]; exact hc j hj
        · split
          · have := World.cell?_setCells_in b ((List.range m).map g) (off + n) w (fun k hk => by rw [Nat.add_assoc, hc (n + k) (by simp at hk; omega)]; rfl) (j - n) (by simp; omega)
            rw [show off + n + (j - n) = off + j by omega] at this
            rw [this]; simp
          · rw [World.cell?_setCells_out _ _ _ _ _ (fun _ _ => .inr (by simp; omega))]; exact hc j hj
      · obtain ⟨b', off', e', h1, h2⟩ := N j hj
        exact ⟨b', off', e', h1, by rw [World.frozen?_setCells]; exact h2⟩
  · have hgrow : c < n + m := by omega
    have hrun := run_append_grow_src (P := P) w t tx ty e i z ht hi0 hiz a n c ((List.range n).map h) (Arr.first (w := w.drew) ⟨A.le, A.mx, fun i hi => by simpa using A.cell i hi⟩ i.size his) (.slice ao m d) m ((List.range m).map g) (by rw [his]; exact src) hgrow
      (by omega) (by
        have h1 := nextslicecap_le hgrow
        have h2 : Builtin.nextslicecap (n + m) c * i.bytes ≤ 2 * (n + m) * i.bytes := Nat.mul_le_mul_right _ h1
        have h3 : 2 * (n + m) * i.bytes = (n + m) * (2 * bytes) := by rw [hib, Nat.mul_comm 2, Nat.mul_assoc]
        omega)
    have hge := grownCap_ge w (n + m) c e
    have hle := grownCap_le_maxLen w (n + m) c e (by unfold maxLen; omega)
    have hcell : ∀ j, j < grownCap w (n + m) c e → (((List.range n).map h ++ (List.range m).map g).toArray ++ Builtin.zeroCells z.cells (grownCap w (n + m) c e - (n + m)))[j]? = some (cat h n g m (fun _ => z) j) := by
      intro j hj
      unfold cat
      rw [Array.getElem?_append]
      split
      · rename_i h1
        simp at h1
        simp only [List.getElem?_toArray, List.getElem?_append, List.length_map, List.length_range]
        split
        · simp [*]
        · rename_i h2; simp [show j - n < m by omega]
      · rename_i h1
        simp at h1
        rw [if_neg (by omega), if_neg (by omega)]
        exact size_zero1 z hz _ _ (by simp; omega)
    refine ⟨_, _, fun _ => z, _, hrun, .inr rfl, ⟨hge, hle, fun j hj => ⟨w.heap.size, 0, rfl, ?_⟩⟩, fun j hj => ⟨w.heap.size, 0, rfl, hbase, ?_⟩, ((Below.refl _ _).drew).alloc hbase _, fun p hp _ => World.cell?_alloc_lt w.drew _ p hp⟩
    · rw [Nat.zero_add]
      have := World.cell?_alloc_new w.drew (((List.range n).map h ++ (List.range m).map g).toArray ++ Builtin.zeroCells z.cells (grownCap w (n + m) c e - (n + m))) e j
      exact this.trans (hcell j hj)
    · exact World.frozen?_alloc_new w.drew _ _ _

/-- append, in the walk's form. -/
theorem wpList_append_frame {ops : Array Oper} {rest : List Oper} {o : Oper} {act : Act} {Q : Exit → Act → World → Prop} (w : World) (hgd : o.guard = none) (s x : Operand) (t tx : TypeId)
    (ho : o.op = .call { callee := .builtin .append, args := #[s, x], argTypes := #[t, tx] })
    (e e' : TypeId) (z : Value) (bytes : Nat) (ht : P.underlying t = some (.slice e)) (htx : P.underlying tx = some (.slice e'))
    (hi : (P.info? e).map (fun i => (i.zero, i.size, i.bytes)) = some (some z, 1, bytes)) (hz : z.cells = #[z]) (base : Nat) (hbase : base ≤ w.heap.size)
    (a ao : Option Addr) (n c m d : Nat) (h g : Nat → Value) (hs : act.eval s = .slice a n c) (hx : act.eval x = .slice ao m d) (A : Arr w a n c h) (N : New w base a c) (S : Arr w ao m d g) (one : ∀ i, i < m → (g i).oneCell' = true)
    (hlen : (n + m) * (2 * bytes) ≤ 281474976710656) (h63 : n + m ≤ 140737488355328)
    (hK : ∀ a' c' r w', (r = h ∧ c' = c ∨ r = fun _ => z) → Arr w' a' (n + m) c' (cat h n g m r) → New w' base a' c' → Below base w w' → (∀ p : Addr, p.block < w.heap.size → (∀ b off, a = some ⟨b, off, none⟩ → 0 < c → p.block ≠ b) → w'.cell? p = w.cell? p) → wpList P ops Q rest (act.put o.dst (.slice a' (n + m) c')) w') :
    wpList P ops Q (o :: rest) act w := by
  refine wpList_plain hgd fun K hK' => ?_
  obtain ⟨a', c', r, w', hrun, h1, h2, h3, h4, h5⟩ := run_append_frame (P := P) w t tx o.type e e' z bytes ht htx hi hz base hbase a ao n c m d h g A N S one hlen h63
  unfold Oper.wp
  simp [execOp, ho, resolve, invoke, builtin, hs, hx, hrun, Result.andThen]
  exact hK' _ _ (hK a' c' r w' h1 h2 h3 h4 h5)


/-- One value in a block of its own. -/
theorem one_arr (w : World) (v : Value) (T : TypeId) : Arr (w.alloc (Obj.cells #[v] T)) (some ⟨w.heap.size, 0, none⟩) 1 1 (fun _ => v) := by
  refine ⟨Nat.le_refl _, by decide, fun i hi => ⟨_, _, rfl, ?_⟩⟩
  obtain rfl : i = 0 := by omega
  simp [World.cell?_alloc_new]
theorem Arr.lt {w : World} {a : Option Addr} {n c : Nat} {h : Nat → Value} (k : Arr w a n c h) {b off : Nat} (e : a = some ⟨b, off, none⟩) (hc : 0 < c) : b < w.heap.size := by
  obtain ⟨b', off', e', h'⟩ := k.cell 0 hc
  rw [e] at e'
  simp only [Option.some.injEq, Addr.mk.injEq, and_true] at e'
  obtain ⟨rfl, rfl⟩ := e'
  exact World.block_lt_of_cell? w _ h'
theorem New.below_arr {w w' : World} {base B : Nat} {a : Option Addr} {n c : Nat} {h : Nat → Value} (k : New w base a c) (u : Arr w a n c h) (hb : Below B w w') (hB : w.heap.size ≤ B) : New w' base a c :=
  fun i hi => by
    obtain ⟨b, off, e, h1, h2⟩ := k i hi
    have hlt := u.lt e (by omega)
    exact ⟨b, off, e, h1, by rw [hb.frozen (p := ⟨b, off + i, none⟩) (by simp; omega)]; exact h2⟩
/-- What lies in another block stays. -/
theorem Us.frame {w w' : World} {a a2 : Option Addr} {n c c2 : Nat} {h : Nat → Nat} (k : Us w a n c h)
    (hf : ∀ p : Addr, p.block < w.heap.size → (∀ b off, a2 = some ⟨b, off, none⟩ → 0 < c2 → p.block ≠ b) → w'.cell? p = w.cell? p)
    (hne : ∀ b off b2 off2, a = some ⟨b, off, none⟩ → a2 = some ⟨b2, off2, none⟩ → 0 < c → 0 < c2 → b ≠ b2) : Us w' a n c h :=
  ⟨k.le, k.mx, k.lm, fun i hi => by
    obtain ⟨b, off, e, hc⟩ := k.cell i hi
    exact ⟨b, off, e, by rw [hf _ (World.block_lt_of_cell? w _ hc) (fun b2 off2 e2 h2 => hne _ _ _ _ e e2 (by omega) h2)]; exact hc⟩⟩
end
end Go.Proofs.YticfggljaagcmaaDoor
