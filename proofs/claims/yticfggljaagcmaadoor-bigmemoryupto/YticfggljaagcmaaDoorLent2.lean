/-
  The law's lent, walked: a number in memory of its own, with room behind it.
-/
import Derived.Test.YticfggljaagcmaaDoorLent
namespace Go.Proofs.YticfggljaagcmaaDoor
set_option linter.all false
open Go.RowKit

section
variable {P : Program}
/-- append where there is room: the same block. -/
theorem wpList_append_in {ops : Array Oper} {rest : List Oper} {o : Oper} {act : Act} {Q : Exit → Act → World → Prop} (w : World) (hgd : o.guard = none) (s x : Operand) (t tx : TypeId)
    (ho : o.op = .call { callee := .builtin .append, args := #[s, x], argTypes := #[t, tx] })
    (e : TypeId) (ht : P.underlying t = some (.slice e)) (htx : P.underlying tx = some (.slice e))
    (hi : (P.info? e).map (fun i => (i.zero, i.size, i.bytes)) = some (some (.int .u32 0), 1, 4)) (base : Nat)
    (a ao : Option Addr) (n c m d : Nat) (h g : Nat → Nat) (hs : act.eval s = .slice a n c) (hx : act.eval x = .slice ao m d) (A : Us w a n c h) (N : New w base a c) (S : Us w ao m d g)
    (hroom : n + m ≤ c) (hc : 0 < c)
    (hK : ∀ w', Us w' a (n + m) c (fun j => if j < n then h j else if j < n + m then g (j - n) else h j) → New w' base a c → Below base w w' → wpList P ops Q rest (act.put o.dst (.slice a (n + m) c)) w') :
    wpList P ops Q (o :: rest) act w := by
  refine wpList_plain hgd fun K hK' => ?_
  obtain ⟨i, hi0, hiz, his, hib⟩ := info_parts hi
  have src := S.arr.src (P := P) htx (fun _ _ => rfl)
  obtain ⟨b, off, rfl, hcl⟩ := A.arr.addr hc
  have hrun := run_append_room_src (P := P) w t tx o.type e i ht hi0 b off n c (.slice ao m d) m ((List.range m).map (fun i => Value.int .u32 (g i : Nat))) (by rw [his]; exact src) hroom
    (fun j hj => by rw [his, Nat.mul_one, Nat.add_assoc, hcl (n + j) (by simp at hj; omega)]; rfl)
    (fun j hj => by
      obtain ⟨b', off', e', _, hf⟩ := N (n + j) (by simp at hj; omega)
      simp only [Option.some.injEq, Addr.mk.injEq, and_true] at e'
      obtain ⟨rfl, rfl⟩ := e'
      rw [his, Nat.mul_one, Nat.add_assoc]; exact hf)
  rw [his, Nat.mul_one] at hrun
  obtain ⟨b', off', e', hb, _⟩ := N 0 hc
  simp only [Option.some.injEq, Addr.mk.injEq, and_true] at e'
  obtain ⟨rfl, rfl⟩ := e'
  unfold Oper.wp
  simp [execOp, ho, resolve, invoke, builtin, hs, hx, hrun, Result.andThen]
  refine hK' _ _ (hK _ ⟨hroom, A.mx, fun j hj => ?_, fun j hj => ⟨b, off, rfl, ?_⟩⟩ (fun j hj => ?_) (setCells_below b hb _ _ _))
  · show (if j < n then h j else if j < n + m then g (j - n) else h j) ≤ 4294967295
    split
    · exact A.lm j hj
    · split
      · have := S.le; exact S.lm (j - n) (by omega)
      · exact A.lm j hj
  · split
    · rw [World.cell?_setCells_out _ _ _ _ _ (fun _ _ => .inl (by simp; omega))]; exact hcl j hj
    · split
      · have := World.cell?_setCells_in b ((List.range m).map (fun i => Value.int .u32 (g i : Nat))) (off + n) w (fun k hk => by rw [Nat.add_assoc, hcl (n + k) (by simp at hk; omega)]; rfl) (j - n) (by simp; omega)
        rw [show off + n + (j - n) = off + j by omega] at this
        rw [this]; simp
      · rw [World.cell?_setCells_out _ _ _ _ _ (fun _ _ => .inr (by simp; omega))]; exact hcl j hj
  · obtain ⟨b', off', e', h1, h2⟩ := N j hj
    exact ⟨b', off', e', h1, by rw [World.frozen?_setCells]; exact h2⟩
end

theorem us_other {w : World} {b off n c : Nat} {h : Nat → Nat} (k : Us w (some ⟨b, off, none⟩) n c h) {p : Addr} (hp : p.block ≠ b) (x : Value) : Us (w.setCell p x) (some ⟨b, off, none⟩) n c h :=
  ⟨k.le, k.mx, k.lm, fun i hi => ⟨b, off, rfl, by rw [World.cell?_setCell_other _ _ _ _ (by intro h; subst h; exact hp rfl)]; exact k.cs i hi⟩⟩

theorem us_at {w : World} {b n c : Nat} {h : Nat → Nat} (k : Us w (some ⟨b, 0, none⟩) n c h) {i : Nat} (hi : i < c) : ∃ x : Nat, w.cell? ⟨b, i, none⟩ = some (.int .u32 (x : Nat)) :=
  ⟨h i, by have := k.cs i hi; rwa [Nat.zero_add] at this⟩
theorem new_at {w : World} {base b c : Nat} (k : New w base (some ⟨b, 0, none⟩) c) {i : Nat} (hi : i < c) : w.frozen? ⟨b, i, none⟩ = false := by have := k.fr i hi; rwa [Nat.zero_add] at this
theorem bx_below {wx wy : World} {b B : Nat} {x0 x1 : Value} (k : Bx wx b x0 x1) (hb : Below B wx wy) (h : b < B) : Bx wy b x0 x1 :=
  ⟨Nat.lt_of_lt_of_le k.lt hb.size, (hb.cell (p := ⟨b, 0, none⟩) h).trans k.c0, (hb.cell (p := ⟨b, 1, none⟩) h).trans k.c1, fun o => (hb.frozen (p := ⟨b, o, none⟩) h).trans (k.fr o)⟩

set_option maxHeartbeats 4000000 in
theorem lent_any (neg : Bool) (a : Option Addr) (n c : Nat) (f : Nat → Nat) (w : World) (hn : n ≤ 4398046511104) (hu : Us w a n c f) :
    Calls Tryd.prog 19 #[.agg #[.bool neg, .slice a n c]] w fun e w' => ∃ ax fx, e = .returned (.agg #[.bool neg, .slice ax n (n + 2)]) ∧ Us w' ax n (n + 2) fx ∧ New w' w.heap.size ax (n + 2) ∧ Below w.heap.size w w' ∧ Hid ((∀ i, i < n → fx i = f i) ∧ fx n = 77 ∧ fx (n + 1) = 78) := by
  have hW : ((w.alloc (.cells #[.bool neg, .slice a n c] 24)).alloc (.cells #[.bool false, .slice none 0 0] 24)).heap.size = w.heap.size + 1 + 1 := by simp
  have b0 := below_alloc2 w (.cells #[.bool neg, .slice a n c] 24) (.cells #[.bool false, .slice none 0 0] 24)
  have hBx : Bx ((w.alloc (.cells #[.bool neg, .slice a n c] 24)).alloc (.cells #[.bool false, .slice none 0 0] 24)) w.heap.size (.bool neg) (.slice a n c) := (Bx.made w (.bool neg) (.slice a n c) 24).alloc _
  have hBy : Bx ((w.alloc (.cells #[.bool neg, .slice a n c] 24)).alloc (.cells #[.bool false, .slice none 0 0] 24)) (w.heap.size + 1) (.bool false) (.slice none 0 0) := by simpa using Bx.made (w.alloc (.cells #[.bool neg, .slice a n c] 24)) (.bool false) (.slice none 0 0) 24
  go_enter Tryd.func19, Tryd.ntmps19
  go_wp2_with (at_make; refine wpList_make_room _ rfl _ _ 22 rfl 58 (.int .u32 0) 4 Tryd.underlying22 Tryd.info58 rfl _ _ _ _ (n + 2) rfl rfl (by omega) (by omega) (by omega) (by omega) ?_)
  intro w1 hc1 hf1 hb1 hs1
  have Bx1 := bx_below hBx hb1 (by omega)
  have By1 := bx_below hBy hb1 (by omega)
  have hu1 : Us w1 a n c f := (hu.below b0 (Nat.le_refl _)).below hb1 (by simp)
  have U1 : Us w1 (some ⟨w.heap.size + 1 + 1, 0, none⟩) 0 (n + 2) (fun _ => 0) := ⟨by omega, by unfold maxLen; omega, fun _ _ => by simp, fun i hi => ⟨_, _, rfl, by simpa using hc1 i hi⟩⟩
  have N1 : New w1 (w.heap.size + 1 + 1) (some ⟨w.heap.size + 1 + 1, 0, none⟩) (n + 2) := fun i hi => ⟨_, _, rfl, Nat.le_refl _, by simpa using hf1 i⟩
  have Hw1 : Below w.heap.size w w1 := b0.trans (hb1.mono (by omega))
  have cx0 := Bx1.c0
  have cx1 := Bx1.c1
  clear hc1 hf1 hBx hBy hs1
  go_wp2_with (at_builtin; refine wpList_append_in _ rfl _ _ 22 22 rfl 58 Tryd.underlying22 Tryd.underlying22 Tryd.info58 (w.heap.size + 1 + 1) _ _ _ _ _ _ _ _ rfl rfl U1 N1 hu1 (by omega) (by omega) ?_; intro w2 U2 N2 hb2; have Bx2 := bx_below Bx1 hb2 (by omega); have By2 := bx_below By1 hb2 (by omega); have Hw2 := Hw1.trans (hb2.mono (by omega)); rw [Nat.zero_add] at U2; clear cx0 cx1; have cx0 := Bx2.c0; have cx1 := Bx2.c1; have cy0 := By2.c0; have cy1 := By2.c1; have fy := By2.fr; obtain ⟨x7, c7⟩ := us_at U2 (i := n) (by omega); obtain ⟨x8, c8⟩ := us_at U2 (i := n + 1) (by omega); have f7 := new_at N2 (i := n) (by omega); have f8 := new_at N2 (i := n + 1) (by omega))
  have U3 := U2.set (j := n) (x := 77) (v := 77) (by omega) rfl (by omega)
  have U4 := U3.set (j := n + 1) (x := 78) (v := 78) (by omega) rfl (by omega)
  simp only [Nat.zero_add] at U4
  have N4 := ((N2.set ⟨w.heap.size + 1 + 1, n, none⟩ (.int .u32 77)).set ⟨w.heap.size + 1 + 1, n + 1, none⟩ (.int .u32 78))
  have H4 := (Hw2.setCell (p := ⟨w.heap.size + 1 + 1, n, none⟩) (by simp; omega) (.int .u32 77)).setCell (p := ⟨w.heap.size + 1 + 1, n + 1, none⟩) (by simp; omega) (.int .u32 78)
  refine bodyPost_ret (v := .agg #[.bool neg, .slice (some ⟨w.heap.size + 1 + 1, 0, none⟩) n (n + 2)]) (by simp [results, Tryd.results19, go_sem, cy0, cy1]) rfl ⟨_, _, rfl, us_other (us_other U4 (by simp) _) (by simp) _, ((N4.set _ _).set _ _).mono (by omega), (H4.setCell (by simp) _).setCell (by simp) _, hid ⟨fun i hi => ?_, ?_, ?_⟩⟩
  · rw [upd_other _ _ _ _ (by omega), upd_other _ _ _ _ (by omega)]; simp [hi]
  · rw [upd_other _ _ _ _ (by omega), upd_same]
  · rw [upd_same]

theorem below_drewN {B : Nat} {w w' : World} (h : Below B w w') (q : Nat) : Below B w (w'.drewN q) := ⟨h.os, h.tape, h.output, h.size, h.block⟩

set_option maxHeartbeats 4000000 in
theorem stays_any (neg : Bool) (ax a : Option Addr) (n c : Nat) (fx f : Nat → Nat) (w : World) (hn : n ≤ 4398046511104) (ux : Us w ax n (n + 2) fx) (hu : Us w a n c f) (hx : Hid ((∀ i, i < n → fx i = f i) ∧ fx n = 77 ∧ fx (n + 1) = 78)) :
    Calls Tryd.prog 29 #[.agg #[.bool neg, .slice ax n (n + 2)], .agg #[.bool neg, .slice a n c]] w fun e w' => e = .returned (.bool true) ∧ Below w.heap.size w w' := by
  have hb := (below_alloc2 w (.cells #[.bool neg, .slice ax n (n + 2)] 24) (.cells #[.bool neg, .slice a n c] 24))
  have ux2 := (ux.alloc (.cells #[.bool neg, .slice ax n (n + 2)] 24)).alloc (.cells #[.bool neg, .slice a n c] 24)
  have hu2 := (hu.alloc (.cells #[.bool neg, .slice ax n (n + 2)] 24)).alloc (.cells #[.bool neg, .slice a n c] 24)
  obtain ⟨bx, ox, rfl, hcx⟩ := ux2.arr.addr (by omega)
  have lx := ux.lm
  have lu := hu.lm
  have hle := hu.le
  have hmx := ux.mx
  have hmu := hu.mx
  unfold maxLen at hmx hmu
  go_enter Tryd.func29, Tryd.ntmps29
  go_wp2
  have cell2 := hu2.cell
  clear hu hu2 ux ux2
  go_loopw [5] (fun iv wr => (∃ q, wr = ((w.alloc (.cells #[.bool neg, .slice (some ⟨bx, ox, none⟩) n (n + 2)] 24)).alloc (.cells #[.bool neg, .slice a n c] 24)).drewN q) ∧ ∃ i : Nat, i ≤ n ∧ iv = .int .i64 i) (fun iv _ => n - (intOf iv).toNat)
  case atStart => exact ⟨⟨0, rfl⟩, 0, Nat.zero_le _, rfl⟩
  case round =>
    obtain ⟨⟨q, rfl⟩, i, hi, rfl⟩ := hrel
    by_cases hin : i < n
    · obtain ⟨b, off, rfl, hcl⟩ := cell2 i (by omega)
      have hci := hcx i (by omega)
      rw [hx.out.1 i hin] at hci
      go_wp2
      go_region
      go_wp2
      refine ⟨⟨⟨q + 1, rfl⟩, i + 1, by omega, by simp⟩, by simp [intOf]; omega⟩
    · obtain rfl : i = n := by omega
      have h77 := hcx i (by omega)
      have h78 := hcx (i + 1) (by omega)
      rw [hx.out.2.1] at h77
      rw [hx.out.2.2] at h78
      clear hcx cell2 lx lu
      simp only [Int.ofNat_eq_natCast, Int.cast_ofNat_Int] at h77 h78
      go_wp2
      go_ret
      exact ⟨rfl, below_drewN hb q⟩
end Go.Proofs.YticfggljaagcmaaDoor
