/-
  The parser in memory: what it may turn, what it keeps; trees that it makes. No condition; no program in sight.
-/
import Derived.Test.YtkblonfmjlopaaaGreatDoorSxT
import Derived.Lib.LaidTab
import Derived.Test.YtkblonfmjlopaaaGreatDoorLx1
set_option linter.all false
set_option maxRecDepth 1000000
set_option maxHeartbeats 16000000
namespace Go.Proofs.YtkblonfmjlopaaaGreatDoor
open Go Go.RowKit
structure Gh where
  bp : Nat
  la : Option Addr
  lc : Nat
  X : Tx
  w0 : World
def Gh.B (G : Gh) : Nat := G.w0.heap.size
structure GOk (G : Gh) : Prop where
  tk : Toks G.w0 G.la G.X.ts.length G.lc G.X.ts
  few : G.X.ts.length ≤ 65536
  en : G.X.en ≤ 65536
  wd : ∀ (i : Nat) (t : Tok), G.X.ts[i]? = some t → t.text.length ≤ 65536 ∧ t.pos ≤ 65536 ∧ (t.kind = 4 → t.text ≠ []) ∧ t.kind ≤ 8
  bpl : G.B ≤ G.bp
  tab : ∀ w, Below G.B G.w0 w → Lib.TabIs Tryz.prog w "internal/strconv.uint64pow10" .u64 Lib.pow10Tab
def Scp (w : World) (B : Nat) (na : Option Addr) (nc : Nat) (fa : Option Addr) (fc : Nat) (sc : List Fx) : Prop :=
  ∃ hn hf, ArrS w na sc.length nc 1 hn ∧ ArrS w fa sc.length fc 2 hf ∧ New w B na (nc * 1) ∧ New w B fa (fc * 2) ∧
    ∀ (i : Nat) (f : Fx), sc[i]? = some f → hn i = .string ⟨f.name.toArray⟩ ∧ hf (2 * i) = .int .i64 f.level ∧ hf (2 * i + 1) = .bool f.right
structure PS (G : Gh) (M : Nat → Prop) (na : Option Addr) (nc : Nat) (fa : Option Addr) (fc : Nat) (w : World) (s : PSt) : Prop where
  low : Below G.B G.w0 w
  mB : ∀ k, M k → G.B ≤ k ∧ k < w.heap.size
  mp : M G.bp
  mn : ∀ b off, na = some ⟨b, off, none⟩ → M b ∧ b ≠ G.bp
  mf : ∀ b off, fa = some ⟨b, off, none⟩ → M b ∧ b ≠ G.bp
  nf : ∀ b o1 o2, na = some ⟨b, o1, none⟩ → fa = some ⟨b, o2, none⟩ → False
  c0 : w.cell? ⟨G.bp, 0, none⟩ = some (.slice G.la G.X.ts.length G.lc)
  c1 : w.cell? ⟨G.bp, 1, none⟩ = some (.int .i64 (s.i : Nat))
  c2 : w.cell? ⟨G.bp, 2, none⟩ = some (.int .i64 (G.X.en : Nat))
  c3 : w.cell? ⟨G.bp, 3, none⟩ = some (.slice na s.sc.length nc)
  c4 : w.cell? ⟨G.bp, 4, none⟩ = some (.slice fa s.sc.length fc)
  fr : ∀ o, w.frozen? ⟨G.bp, o, none⟩ = false
  sc : Scp w G.B na nc fa fc s.sc
  nsc : s.sc.length ≤ 20 + s.i
  il : s.i ≤ G.X.ts.length
  npos : 0 < s.sc.length
structure Kn (B : Nat) (M : Nat → Prop) (w w' : World) : Prop where
  bel : Below B w w'
  blk : ∀ k, k < w.heap.size → ¬ M k → w'.heap[k]? = w.heap[k]?
theorem Kn.refl (B : Nat) (M : Nat → Prop) (w : World) : Kn B M w w := ⟨Below.refl _ _, fun _ _ _ => rfl⟩
theorem Kn.size {B : Nat} {M : Nat → Prop} {w w' : World} (h : Kn B M w w') : w.heap.size ≤ w'.heap.size := h.bel.size
theorem Kn.trans {B : Nat} {M M' : Nat → Prop} {w w1 w2 : World} (h : Kn B M w w1) (k : Kn B M' w1 w2) (hM : ∀ k, k < w.heap.size → M' k → M k) : Kn B M w w2 :=
  ⟨h.bel.trans k.bel, fun j hj hn => (k.blk j (by have := h.size; omega) (fun hm => hn (hM j hj hm))).trans (h.blk j hj hn)⟩
theorem Kn.go {B : Nat} {M : Nat → Prop} {w w1 w2 : World} (h : Kn B M w w1) (k : Kn B M w1 w2) : Kn B M w w2 := h.trans k fun _ _ h => h
theorem Kn.of {B : Nat} {M : Nat → Prop} {w w' : World} (h : Below w.heap.size w w') (hB : B ≤ w.heap.size) : Kn B M w w' := ⟨h.mono hB, fun k hk _ => h.block k hk⟩
theorem Kn.low {B L : Nat} {M : Nat → Prop} {w w1 w2 : World} (h : Kn B M w w1) (k : Below L w1 w2) (hB : B ≤ L) (hL : w.heap.size ≤ L) : Kn B M w w2 :=
  ⟨h.bel.trans (k.mono hB), fun j hj hn => (k.block j (by omega)).trans (h.blk j hj hn)⟩
theorem Kn.set {B : Nat} {M : Nat → Prop} {w w1 : World} (h : Kn B M w w1) {p : Addr} (hB : B ≤ p.block) (hM : M p.block) (v : Value) : Kn B M w (w1.setCell p v) :=
  ⟨h.bel.setCell hB v, fun j hj hn => (Below.heap_setCell _ _ _ _ (fun e => hn (by rw [e]; exact hM))).trans (h.blk j hj hn)⟩
theorem Kn.drew {B : Nat} {M : Nat → Prop} {w w1 : World} (h : Kn B M w w1) : Kn B M w w1.drew := ⟨h.bel.drew, h.blk⟩
theorem Kn.drewN {B : Nat} {M : Nat → Prop} {w w1 : World} (h : Kn B M w w1) (n : Nat) : Kn B M w (w1.drewN n) := by
  refine ⟨⟨h.bel.os, ?_, h.bel.output, h.bel.size, h.bel.block⟩, h.blk⟩; exact h.bel.tape
theorem Kn.cell {B : Nat} {M : Nat → Prop} {w w' : World} (h : Kn B M w w') {p : Addr} (hp : p.block < w.heap.size) (hM : ¬ M p.block) : w'.cell? p = w.cell? p := World.cell?_of_block (w := w) (h.blk p.block hp hM)
theorem Below.drewN {B : Nat} {a w : World} (h : Below B a w) (n : Nat) : Below B a (w.drewN n) := ⟨h.os, h.tape, h.output, h.size, h.block⟩
theorem bl_set {B b o : Nat} {a w : World} {v : Value} (h : Below B a w) (hb : B ≤ b) : Below B a (w.setCell ⟨b, o, none⟩ v) := h.setCell hb v
theorem bl_alloc {B : Nat} {a w : World} {o : Obj} (h : Below B a w) (hb : B ≤ a.heap.size) : Below B a (w.alloc o) := h.alloc (Nat.le_trans hb h.size) o
/-! ### A parser kept -/
theorem ArrS.blocks {w w' : World} {a : Option Addr} {n c s : Nat} {h : Nat → Value} (k : ArrS w a n c s h) (hk : ∀ b off, a = some ⟨b, off, none⟩ → w'.heap[b]? = w.heap[b]?) : ArrS w' a n c s h :=
  ⟨k.le, k.mx, fun j hj => by
    obtain ⟨b, off, e, hc⟩ := k.cell j hj
    exact ⟨b, off, e, (World.cell?_of_block (w := w) (a := ⟨b, off + j, none⟩) (hk b off e)).trans hc⟩⟩
theorem New.blocks {w w' : World} {base c : Nat} {a : Option Addr} (k : New w base a c) (hk : ∀ b off, a = some ⟨b, off, none⟩ → w'.heap[b]? = w.heap[b]?) : New w' base a c := fun j hj => by
  obtain ⟨b, off, e, h1, h2⟩ := k j hj; exact ⟨b, off, e, h1, (World.frozen?_of_block (w := w) (a := ⟨b, off + j, none⟩) (hk b off e)).trans h2⟩
theorem Scp.blocks {w w' : World} {B : Nat} {na : Option Addr} {nc : Nat} {fa : Option Addr} {fc : Nat} {sc : List Fx} (h : Scp w B na nc fa fc sc)
    (hn : ∀ b off, na = some ⟨b, off, none⟩ → w'.heap[b]? = w.heap[b]?) (hf : ∀ b off, fa = some ⟨b, off, none⟩ → w'.heap[b]? = w.heap[b]?) : Scp w' B na nc fa fc sc := by
  obtain ⟨a, b, h1, h2, h3, h4, h5⟩ := h; exact ⟨a, b, h1.blocks hn, h2.blocks hf, h3.blocks hn, h4.blocks hf, h5⟩
section
variable {G : Gh} {M : Nat → Prop} {na : Option Addr} {nc : Nat} {fa : Option Addr} {fc : Nat} {w w' : World} {s : PSt}
theorem PS.keep (h : PS G M na nc fa fc w s) (hb : Below G.B w w') (hk : ∀ k, M k → w'.heap[k]? = w.heap[k]?) : PS G M na nc fa fc w' s := by
  have hc : ∀ o, w'.cell? ⟨G.bp, o, none⟩ = w.cell? ⟨G.bp, o, none⟩ := fun o => World.cell?_of_block (w := w) (a := ⟨G.bp, o, none⟩) (hk _ h.mp)
  exact ⟨h.low.trans hb, fun k hm => ⟨(h.mB k hm).1, by have := (h.mB k hm).2; have := hb.size; omega⟩, h.mp, h.mn, h.mf, h.nf, (hc 0).trans h.c0, (hc 1).trans h.c1, (hc 2).trans h.c2, (hc 3).trans h.c3, (hc 4).trans h.c4,
    fun o => (World.frozen?_of_block (w := w) (a := ⟨G.bp, o, none⟩) (hk _ h.mp)).trans (h.fr o), h.sc.blocks (fun b off e => hk _ (h.mn b off e).1) (fun b off e => hk _ (h.mf b off e).1), h.nsc, h.il, h.npos⟩
theorem PS.bB (h : PS G M na nc fa fc w s) : G.B ≤ w.heap.size := by have := h.mB _ h.mp; omega
theorem PS.lt (h : PS G M na nc fa fc w s) : G.bp < w.heap.size := (h.mB _ h.mp).2
theorem PS.below {L : Nat} (h : PS G M na nc fa fc w s) (hb : Below L w w') (hL : ∀ k, M k → k < L) (hB : G.B ≤ L) : PS G M na nc fa fc w' s := h.keep (hb.mono hB) fun k hm => hb.block k (hL k hm)
theorem PS.new (h : PS G M na nc fa fc w s) (hb : Below w.heap.size w w') : PS G M na nc fa fc w' s := h.below hb (fun k hm => (h.mB k hm).2) h.bB
theorem PS.drew (h : PS G M na nc fa fc w s) : PS G M na nc fa fc w.drew s := h.new (Below.refl _ _).drew
theorem PS.drewN (h : PS G M na nc fa fc w s) (n : Nat) : PS G M na nc fa fc (w.drewN n) s := h.keep ⟨rfl, rfl, rfl, Nat.le_refl _, fun _ _ => rfl⟩ fun _ _ => rfl
theorem PS.alloc (h : PS G M na nc fa fc w s) (o : Obj) : PS G M na nc fa fc (w.alloc o) s := h.new (below_alloc _ _)
theorem PS.set (h : PS G M na nc fa fc w s) {p : Addr} (hB : G.B ≤ p.block) (hM : ¬ M p.block) (v : Value) : PS G M na nc fa fc (w.setCell p v) s :=
  h.keep ((Below.refl _ _).setCell hB v) fun k hm => Below.heap_setCell _ _ _ _ (fun e => hM (by rw [← e]; exact hm))
theorem PS.more {M' : Nat → Prop} (h : PS G M na nc fa fc w s) (h1 : ∀ k, M k → M' k) (h2 : ∀ k, M' k → G.B ≤ k ∧ k < w.heap.size) : PS G M' na nc fa fc w s :=
  ⟨h.low, h2, h1 _ h.mp, fun b o e => ⟨h1 _ (h.mn b o e).1, (h.mn b o e).2⟩, fun b o e => ⟨h1 _ (h.mf b o e).1, (h.mf b o e).2⟩, h.nf, h.c0, h.c1, h.c2, h.c3, h.c4, h.fr, h.sc, h.nsc, h.il, h.npos⟩
theorem PS.less {M' : Nat → Prop} (h : PS G M' na nc fa fc w s) (h1 : ∀ k, M k → M' k) (hp : M G.bp) (hn : ∀ b off, na = some ⟨b, off, none⟩ → M b) (hf : ∀ b off, fa = some ⟨b, off, none⟩ → M b) : PS G M na nc fa fc w s :=
  ⟨h.low, fun k hm => h.mB k (h1 k hm), hp, fun b o e => ⟨hn b o e, (h.mn b o e).2⟩, fun b o e => ⟨hf b o e, (h.mf b o e).2⟩, h.nf, h.c0, h.c1, h.c2, h.c3, h.c4, h.fr, h.sc, h.nsc, h.il, h.npos⟩
theorem PS.step (h : PS G M na nc fa fc w s) {j : Nat} (h1 : s.i ≤ j) (h2 : j ≤ G.X.ts.length) : PS G M na nc fa fc (w.setCell ⟨G.bp, 1, none⟩ (.int .i64 (j : Nat))) { s with i := j } := by
  have ho : ∀ k v, k ≠ G.bp → (w.setCell ⟨G.bp, 1, none⟩ v).heap[k]? = w.heap[k]? := fun k v hk => Below.heap_setCell _ _ _ _ hk; have hB := (h.mB _ h.mp).1; refine ⟨h.low.setCell hB _, fun k hm => by have := h.mB k hm; simpa [World.setCell] using this, h.mp, h.mn, h.mf, h.nf, ?_, ?_, ?_, ?_, ?_, fun o => by simpa using h.fr o, h.sc.blocks (fun b off e => ho _ _ (h.mn b off e).2) (fun b off e => ho _ _ (h.mf b off e).2), by have := h.nsc; simp only; omega, h2, h.npos⟩
  · rw [World.cell?_setCell_other _ _ _ _ (by intro h; simp at h)]; exact h.c0
  · rw [World.cell?_setCell_same _ _ _ h.c1]
  · rw [World.cell?_setCell_other _ _ _ _ (by intro h; simp at h)]; exact h.c2
  · rw [World.cell?_setCell_other _ _ _ _ (by intro h; simp at h)]; exact h.c3
  · rw [World.cell?_setCell_other _ _ _ _ (by intro h; simp at h)]; exact h.c4
theorem PS.step1 (h : PS G M na nc fa fc w s) (hi : s.i < G.X.ts.length) : PS G M na nc fa fc (w.setCell ⟨G.bp, 1, none⟩ (.int .i64 ((s.i : Int) + 1))) { s with i := s.i + 1 } := h.step (Nat.le_succ _) hi
def Jp (G : Gh) : Nat → Prop := fun k => k = G.bp
theorem Kn.step {w1 : World} {B : Nat} (k : Kn B (Jp G) w w1) (h : PS G M na nc fa fc w1 s) (hB : B = G.B) (v : Value) : Kn B (Jp G) w (w1.setCell ⟨G.bp, 1, none⟩ v) := k.set (by rw [hB]; exact (h.mB _ h.mp).1) (show Jp G G.bp from rfl) v
theorem Kn.jp {B : Nat} (k : Kn B (Jp G) w w') (h : M G.bp) : Kn B M w w' := ⟨k.bel, fun j hj hn => k.blk j hj (fun e => hn (by rw [show j = G.bp from e]; exact h))⟩
theorem Kn.more {B : Nat} {M' : Nat → Prop} (k : Kn B M w w') (h : ∀ j, M j → M' j) : Kn B M' w w' := ⟨k.bel, fun j hj hn => k.blk j hj (fun e => hn (h j e))⟩
end
/-! ### Trees -/
def Own (B lo hi : Nat) (M : Nat → Prop) (b : Nat) : Prop := b < B ∨ lo ≤ b ∧ b < hi ∧ ¬ M b
def No : Nat → Prop := fun _ => False
def Kb (w w' : World) (F : Nat → Prop) : Prop := ∀ b, F b → w'.heap[b]? = w.heap[b]?
theorem Kb.cells {w w' : World} {F : Nat → Prop} (h : Kb w w' F) : ∀ b off v, F b → w.cell? ⟨b, off, none⟩ = some v → w'.cell? ⟨b, off, none⟩ = some v :=
  fun b off v hb hc => (World.cell?_of_block (w := w) (a := ⟨b, off, none⟩) (h b hb)).trans hc
theorem RepR.on {w w' : World} {F F' : Nat → Prop} {r : List Tr} {cs : List Value} (h : RepR w F r cs) (hk : Kb w w' F) (hF : ∀ b, F b → F' b) : RepR w' F' r cs := RepR.keep hF hk.cells h
theorem RepT.on {w w' : World} {F F' : Nat → Prop} {t : Tr} {cs : List Value} (h : RepT w F t cs) (hk : Kb w w' F) (hF : ∀ b, F b → F' b) : RepT w' F' t cs := RepT.keep hF hk.cells h
theorem Kb.refl (w : World) (F : Nat → Prop) : Kb w w F := fun _ _ => rfl
theorem Kb.of {L : Nat} {w w' : World} {F : Nat → Prop} (h : Below L w w') (hF : ∀ b, F b → b < L) : Kb w w' F := fun b hb => h.block b (hF b hb)
theorem repN {w : World} {F : Nat → Prop} : RepR w F [] [] := by unfold RepR; rfl
theorem repV {w : World} {F : Nat → Prop} {r : List Tr} {cs : List Value} (x : Value) (h : RepR w F r cs) : RepR w F (.v x :: r) (x :: cs) := by
  unfold RepR; exact ⟨[x], cs, rfl, by unfold RepT; rfl, h⟩
theorem repT1 {w : World} {F : Nat → Prop} {t : Tr} {r : List Tr} {x : Value} {cs : List Value} (h1 : RepT w F t [x]) (h : RepR w F r cs) : RepR w F (t :: r) (x :: cs) := by
  unfold RepR; exact ⟨[x], cs, rfl, h1, h⟩
theorem repT2 {w : World} {F : Nat → Prop} {t : Tr} {r : List Tr} {x y : Value} {cs : List Value} (h1 : RepT w F t [x, y]) (h : RepR w F r cs) : RepR w F (t :: r) (x :: y :: cs) := by
  unfold RepR; exact ⟨[x, y], cs, rfl, h1, h⟩
theorem repNil {w : World} {F : Nat → Prop} : RepT w F (.sl []) [.slice none 0 0] := by
  unfold RepT; exact ⟨none, 0, rfl, Nat.le_refl _, Nat.zero_le _, .inl rfl⟩
theorem repZero {w : World} {F : Nat → Prop} : RepT w F (.big 0) [.bool false, .slice none 0 0] := by
  unfold RepT; exact ⟨false, none, 0, 0, fun _ => 0, rfl, Us.nil _ _, Nat.zero_le _, .inl rfl, fun _ => rfl, rfl, fun _ _ h => by cases h⟩
theorem repOne {w : World} {F : Nat → Prop} {b : Nat} {r : List Tr} {cs : List Value} {c : Nat} (hb : F b) (hc : ∀ j, j < cs.length → w.cell? ⟨b, j, none⟩ = cs[j]?) (h : RepR w F r cs) (h1 : 1 ≤ c) (h2 : c ≤ maxLen) : RepT w F (.sl [r]) [.slice (some ⟨b, 0, none⟩) 1 c] := by
  unfold RepT; refine ⟨some ⟨b, 0, none⟩, c, rfl, h1, h2, .inr ⟨b, 0, rfl, hb, ?_⟩⟩; unfold RepL; refine ⟨⟨cs, fun j hj => by rw [Nat.zero_add]; exact hc j hj, h⟩, ?_⟩; unfold RepL; trivial
theorem repTwo {w : World} {F : Nat → Prop} {b : Nat} {r q : List Tr} {cs ds : List Value} (hb : F b) (hc : ∀ j, j < cs.length → w.cell? ⟨b, j, none⟩ = cs[j]?) (hd : ∀ j, j < ds.length → w.cell? ⟨b, cs.length + j, none⟩ = ds[j]?) (h : RepR w F r cs) (k : RepR w F q ds) : RepT w F (.sl [r, q]) [.slice (some ⟨b, 0, none⟩) 2 2] := by
  unfold RepT; refine ⟨some ⟨b, 0, none⟩, 2, rfl, Nat.le_refl _, by unfold maxLen; omega, .inr ⟨b, 0, rfl, hb, ?_⟩⟩; unfold RepL; refine ⟨⟨cs, fun j hj => by rw [Nat.zero_add]; exact hc j hj, h⟩, ?_⟩; unfold RepL; rw [← h.len, Nat.zero_add]; refine ⟨⟨ds, hd, k⟩, ?_⟩; unfold RepL; trivial
/-! ### What a reading answers -/
def thrown (c q : Nat) : Ending := .panicked [{ v := .iface 26 (.agg #[.int .i64 (c : Nat), .int .i64 (q : Nat)]), recovered := false }]
abbrev Shp := World → (Nat → Prop) → Nd → Value → Prop
def PN (G : Gh) (M : Nat → Prop) (na : Option Addr) (nc : Nat) (fa : Option Addr) (fc : Nat) (I : Shp) (w : World) (s : PSt) (r : Except (Nat × Nat) (Nd × PSt)) (e : Ending) (w' : World) : Prop :=
  Kn G.B M w w' ∧ match r with
    | .error (c, q) => e = thrown c q
    | .ok (nd, s') => s'.sc = s.sc ∧ s.i ≤ s'.i ∧ PS G M na nc fa fc w' s' ∧ ∃ v, e = .returned v ∧ I w' (Own G.B w.heap.size w'.heap.size No) nd v
def IsSl (w : World) (F : Nat → Prop) (l : List Nd) (v : Value) : Prop := ∃ a c, v = .slice a l.length c ∧ RepT w F (.sl l) [.slice a l.length c]
theorem IsSl.on {w w' : World} {F F' : Nat → Prop} {l : List Nd} {v : Value} (h : IsSl w F l v) (hk : Kb w w' F) (hF : ∀ b, F b → F' b) : IsSl w' F' l v := by
  obtain ⟨a, c, e, h⟩ := h; exact ⟨a, c, e, h.on hk hF⟩
def PL (G : Gh) (M : Nat → Prop) (na : Option Addr) (nc : Nat) (fa : Option Addr) (fc : Nat) (w : World) (s : PSt) (r : Except (Nat × Nat) (List Nd × PSt)) (e : Ending) (w' : World) : Prop :=
  Kn G.B M w w' ∧ match r with
    | .error (c, q) => e = thrown c q
    | .ok (l, s') => s'.sc = s.sc ∧ s.i ≤ s'.i ∧ PS G M na nc fa fc w' s' ∧ ∃ v, e = .returned v ∧ IsSl w' (Own G.B w.heap.size w'.heap.size No) l v
theorem bind_cases {α β : Type} {x : PM α} {f : α → PM β} {s : PSt} {r : Except (Nat × Nat) (β × PSt)} (h : (x >>= f) s = some r) :
    (∃ c q, x s = some (.error (c, q)) ∧ r = .error (c, q)) ∨ ∃ a s', x s = some (.ok (a, s')) ∧ f a s' = some r := by
  have h : PM.bind x f s = some r := h; unfold PM.bind at h
  rcases hx : x s with _ | ⟨c, q⟩ | ⟨a, s'⟩
  · rw [hx] at h; cases h
  · rw [hx] at h; exact .inl ⟨c, q, rfl, (Option.some.inj h).symm⟩
  · rw [hx] at h; exact .inr ⟨a, s', rfl, h⟩
theorem pure_inv {α : Type} {a : α} {s : PSt} {r : Except (Nat × Nat) (α × PSt)} (h : (pure a : PM α) s = some r) : r = .ok (a, s) := (Option.some.inj (show some (Except.ok (a, s)) = some r from h)).symm
theorem setCells_heap (b : Nat) : ∀ (vs : List Value) (o : Nat) (w : World) (k : Nat), k ≠ b → (w.setCells b o vs).heap[k]? = w.heap[k]?
  | [], _, _, _, _ => rfl
  | v :: vs, o, w, k, hk => (setCells_heap b vs (o + 1) (w.setCell ⟨b, o, none⟩ v) k hk).trans (Below.heap_setCell _ _ _ _ hk)
structure Kq (w w' : World) (a : Option Addr) (lo hi : Nat) : Prop where
  kp : Kp w w' a lo hi
  blk : ∀ k, k < w.heap.size → (∀ off, a ≠ some ⟨k, off, none⟩) → w'.heap[k]? = w.heap[k]?
section
variable {P : Program}
theorem run_append_q (w : World) (t tx ty e e' : TypeId) (z : Value) (s bytes : Nat) (ht : P.underlying t = some (.slice e)) (htx : P.underlying tx = some (.slice e'))
    (hi : (P.info? e).map (fun i => (i.zero, i.size, i.bytes)) = some (some z, s, bytes)) (hz : z.cells.size = s) (hs0 : 0 < s) (base : Nat) (hbase : base ≤ w.heap.size)
    (a : Option Addr) (n c : Nat) (h g : Nat → Value) (xb xo d : Nat) (A : ArrS w a n c s h) (N : New w base a (c * s)) (hg : ∀ j, j < s → w.cell? ⟨xb, xo + j, none⟩ = some (g j)) (one : ∀ j, j < s → (g j).oneCell' = true)
    (hlen : (n + 1) * (2 * bytes) ≤ 281474976710656) (h63 : n + 1 ≤ 140737488355328) :
    ∃ a' c' r w', (Builtin.append_ #[t, tx] ty #[.slice a n c, .slice (some ⟨xb, xo, none⟩) 1 d]).run P w = .ok (.slice a' (n + 1) c') w' ∧ (r = h ∧ a' = a ∧ c' = c ∨ r = zcS z ∧ a' = some ⟨w.heap.size, 0, none⟩ ∧ w.heap.size < w'.heap.size ∧ ∀ p : Addr, p.block < w.heap.size → w'.cell? p = w.cell? p) ∧
      ArrS w' a' (n + 1) c' s (catS h (n * s) s g r) ∧ New w' base a' (c' * s) ∧ Below base w w' ∧ Kq w w' a (n * s) ((n + 1) * s) := by
  obtain ⟨i, hi0, hiz, his, hib⟩ := info_parts hi; have hxb : xb < w.heap.size := World.block_lt_of_cell? w _ (hg 0 hs0)
  have src : Src P i.size tx (.slice (some ⟨xb, xo, none⟩) 1 d) 1 ((List.range s).map g) w := by
    rw [his]; refine ⟨.inl ⟨e', htx⟩, fun _ => rfl, ?_, ?_, by simp, fun u hu => ?_⟩
    · refine run_firstCells_some w s 1 _ 1 d _ (by simp) (fun j v e => ?_); obtain ⟨hj, rfl⟩ := lst_get _ _ _ _ e; rw [Addr.add_lit]; exact hg j hj
    · refine run_firstCells_some w.drew s 1 _ 1 d _ (by simp) (fun j v e => ?_); obtain ⟨hj, rfl⟩ := lst_get _ _ _ _ e; rw [Addr.add_lit]; exact hg j hj
    · obtain ⟨j, hj, rfl⟩ := List.mem_map.1 hu; exact one j (by simpa using hj)
  by_cases hroom : n + 1 ≤ c
  · have hms : (n + 1) * s ≤ c * s := Nat.mul_le_mul_right _ hroom; have hn1 : (n + 1) * s = n * s + s := Nat.succ_mul n s; obtain ⟨b, off, rfl, hc⟩ := A.addr (by omega)
    have hrun := run_append_room_src (P := P) w t tx ty e i ht hi0 b off n c (.slice (some ⟨xb, xo, none⟩) 1 d) 1 ((List.range s).map g) src hroom
      (fun j hj => by rw [his, Nat.add_assoc, hc (n * s + j) (by simp at hj; omega)]; rfl)
      (fun j hj => by
        obtain ⟨b', off', e', _, hf⟩ := N (n * s + j) (by simp at hj; omega); simp only [Option.some.injEq, Addr.mk.injEq, and_true] at e'; obtain ⟨rfl, rfl⟩ := e'
        rw [his, Nat.add_assoc]; exact hf)
    rw [his] at hrun; obtain ⟨b', off', e', hb, _⟩ := N 0 (by omega); simp only [Option.some.injEq, Addr.mk.injEq, and_true] at e'; obtain ⟨rfl, rfl⟩ := e'; refine ⟨_, _, h, _, hrun, .inl ⟨rfl, rfl, rfl⟩, ⟨hroom, A.mx, fun j hj => ⟨b, off, rfl, ?_⟩⟩, fun j hj => ?_, setCells_below b hb _ _ _, ⟨⟨?_, fun p hp hn => ?_, fun p hp => World.frozen?_setCells ..⟩, fun k hk hn => setCells_heap b _ _ _ k (fun e => hn off (by rw [e]))⟩⟩
    · unfold catS
      split
      · rw [World.cell?_setCells_out _ _ _ _ _ (fun _ _ => .inl (by simp; omega))]; exact hc j hj
      · split
        · have := World.cell?_setCells_in b ((List.range s).map g) (off + n * s) w (fun k hk => by rw [Nat.add_assoc, hc (n * s + k) (by simp at hk; omega)]; rfl) (j - n * s) (by simp; omega); rw [show off + n * s + (j - n * s) = off + j by omega] at this; rw [this]; simp
        · rw [World.cell?_setCells_out _ _ _ _ _ (fun _ _ => .inr (by simp; omega))]; exact hc j hj
    · obtain ⟨b', off', e', h1, h2⟩ := N j hj; exact ⟨b', off', e', h1, by rw [World.frozen?_setCells]; exact h2⟩
    · exact (setCells_below b (Nat.le_refl b) _ _ _).size
    · refine World.cell?_setCells_out _ _ _ _ _ (fun h1 h2 => ?_); have h3 := hn b off rfl; simp only [List.length_map, List.length_range]
      by_cases q : p.off < off + n * s
      · exact .inl q
      · exact .inr (by
          by_cases q2 : p.off < off + (n + 1) * s
          · exact absurd ⟨h1, h2, by omega, q2⟩ h3
          · omega)
  · have hn1 : (n + 1) * s = n * s + s := Nat.succ_mul n s
    have hrun := run_append_grow_src (P := P) w t tx ty e i z ht hi0 hiz a n c ((List.range (n * s)).map h) (by rw [his]; exact firstS (w := w.drew) ⟨A.le, A.mx, fun i hi => by simpa using A.cell i hi⟩) (.slice (some ⟨xb, xo, none⟩) 1 d) 1 ((List.range s).map g) src (by omega)
      (by omega) (by
        have h1 := nextslicecap_le (show c < n + 1 by omega); have h2 : Builtin.nextslicecap (n + 1) c * i.bytes ≤ 2 * (n + 1) * i.bytes := Nat.mul_le_mul_right _ h1; have h3 : 2 * (n + 1) * i.bytes = (n + 1) * (2 * bytes) := by rw [hib, Nat.mul_comm 2, Nat.mul_assoc]
        omega)
    have hge := grownCap_ge w (n + 1) c e; have hle := grownCap_le_maxLen w (n + 1) c e (by unfold maxLen; omega)
    have hcell : ∀ j, j < grownCap w (n + 1) c e * s → (((List.range (n * s)).map h ++ (List.range s).map g).toArray ++ Builtin.zeroCells z.cells (grownCap w (n + 1) c e - (n + 1)))[j]? = some (catS h (n * s) s g (zcS z) j) := by
      intro j hj; unfold catS; rw [Array.getElem?_append]
      split
      · rename_i h1; simp at h1; simp only [List.getElem?_toArray, List.getElem?_append, List.length_map, List.length_range]
        split
        · simp [*]
        · rename_i h2; simp [show j - n * s < s by omega]
      · rename_i h1; simp at h1; rw [if_neg (by omega), if_neg (by omega)]; have hsub : (grownCap w (n + 1) c e - (n + 1)) * s = grownCap w (n + 1) c e * s - (n + 1) * s := Nat.sub_mul ..; unfold Builtin.zeroCells zcS; have hlt : j - (n * s + s) < (grownCap w (n + 1) c e - (n + 1)) * z.cells.size := by rw [hz, hsub]; omega
        simp only [List.length_append, List.length_map, List.length_range, List.size_toArray]; rw [Array.getElem?_map, Array.getElem?_range]; rw [if_pos hlt]; simp only [Option.map_some]
        congr 1
        rw [hz]
        have : (j - (n * s + s)) % s = j % s := by
          have e1 : j = (j - (n * s + s)) + s * (n + 1) := by rw [Nat.mul_comm s, hn1]; omega
          conv => rhs; rw [e1]
          rw [Nat.add_mul_mod_self_left]
        rw [this]
    refine ⟨_, _, zcS z, _, hrun, .inr ⟨rfl, rfl, by simp, fun p hp => (((Below.refl w.heap.size w).drew).alloc (Nat.le_refl _) _).cell hp⟩, ⟨hge, hle, fun j hj => ⟨w.heap.size, 0, rfl, ?_⟩⟩, fun j hj => ⟨w.heap.size, 0, rfl, hbase, ?_⟩, ((Below.refl _ _).drew).alloc hbase _, ⟨⟨by simp, fun p hp _ => ?_, fun p hp => ?_⟩, fun k hk _ => (((Below.refl w.heap.size w).drew).alloc (Nat.le_refl _) _).block k hk⟩⟩
    · rw [Nat.zero_add]; have := World.cell?_alloc_new w.drew (((List.range (n * s)).map h ++ (List.range s).map g).toArray ++ Builtin.zeroCells z.cells (grownCap w (n + 1) c e - (n + 1))) e j; exact this.trans (hcell j hj)
    · exact World.frozen?_alloc_new w.drew _ _ _
    · exact (((Below.refl w.heap.size w).drew).alloc (Nat.le_refl _) _).cell hp
    · exact (((Below.refl w.heap.size w).drew).alloc (Nat.le_refl _) _).frozen hp
theorem wpList_append_q {ops : Array Oper} {rest : List Oper} {o : Oper} {act : Act} {Q : Exit → Act → World → Prop} (w : World) (hgd : o.guard = none) (sl x : Operand) (t tx : TypeId)
    (ho : o.op = .call { callee := .builtin .append, args := #[sl, x], argTypes := #[t, tx] })
    (e e' : TypeId) (z : Value) (s bytes : Nat) (ht : P.underlying t = some (.slice e)) (htx : P.underlying tx = some (.slice e'))
    (hi : (P.info? e).map (fun i => (i.zero, i.size, i.bytes)) = some (some z, s, bytes)) (hz : z.cells.size = s) (hs0 : 0 < s) (base : Nat) (hbase : base ≤ w.heap.size)
    (a : Option Addr) (n c : Nat) (h g : Nat → Value) (xb xo d : Nat) (hs : act.eval sl = .slice a n c) (hx : act.eval x = .slice (some ⟨xb, xo, none⟩) 1 d) (A : ArrS w a n c s h) (N : New w base a (c * s)) (hg : ∀ j, j < s → w.cell? ⟨xb, xo + j, none⟩ = some (g j)) (one : ∀ j, j < s → (g j).oneCell' = true)
    (hlen : (n + 1) * (2 * bytes) ≤ 281474976710656) (h63 : n + 1 ≤ 140737488355328)
    (hK : ∀ a' c' r w', (r = h ∧ a' = a ∧ c' = c ∨ r = zcS z ∧ a' = some ⟨w.heap.size, 0, none⟩ ∧ w.heap.size < w'.heap.size ∧ ∀ p : Addr, p.block < w.heap.size → w'.cell? p = w.cell? p) → ArrS w' a' (n + 1) c' s (catS h (n * s) s g r) → New w' base a' (c' * s) → Below base w w' → Kq w w' a (n * s) ((n + 1) * s) → wpList P ops Q rest (act.put o.dst (.slice a' (n + 1) c')) w') :
    wpList P ops Q (o :: rest) act w := by
  refine wpList_plain hgd fun K hK' => ?_; obtain ⟨a', c', r, w', hrun, h1, h2, h3, h4, h5⟩ := run_append_q (P := P) w t tx o.type e e' z s bytes ht htx hi hz hs0 base hbase a n c h g xb xo d A N hg one hlen h63; unfold Oper.wp; simp [execOp, ho, resolve, invoke, builtin, hs, hx, hrun, Result.andThen]; exact hK' _ _ (hK a' c' r w' h1 h2 h3 h4 h5)
theorem oper_append_q {o : Oper} {K : Act → World → Prop} {act : Act} {Q : Exit → Act → World → Prop} (w : World) (D : Option Tmp) (hD : o.dst = D) (sl x : Operand) (t tx : TypeId)
    (ho : o.op = .call { callee := .builtin .append, args := #[sl, x], argTypes := #[t, tx] })
    (e e' : TypeId) (z : Value) (s bytes : Nat) (ht : P.underlying t = some (.slice e)) (htx : P.underlying tx = some (.slice e'))
    (hi : (P.info? e).map (fun i => (i.zero, i.size, i.bytes)) = some (some z, s, bytes)) (hz : z.cells.size = s) (hs0 : 0 < s) (base : Nat) (hbase : base ≤ w.heap.size)
    (a : Option Addr) (n c : Nat) (h g : Nat → Value) (xb xo d : Nat) (hs : act.eval sl = .slice a n c) (hx : act.eval x = .slice (some ⟨xb, xo, none⟩) 1 d) (A : ArrS w a n c s h) (N : New w base a (c * s)) (hg : ∀ j, j < s → w.cell? ⟨xb, xo + j, none⟩ = some (g j)) (one : ∀ j, j < s → (g j).oneCell' = true)
    (hlen : (n + 1) * (2 * bytes) ≤ 281474976710656) (h63 : n + 1 ≤ 140737488355328)
    (hK : ∀ a' c' r w', (r = h ∧ a' = a ∧ c' = c ∨ r = zcS z ∧ a' = some ⟨w.heap.size, 0, none⟩ ∧ w.heap.size < w'.heap.size ∧ ∀ p : Addr, p.block < w.heap.size → w'.cell? p = w.cell? p) → ArrS w' a' (n + 1) c' s (catS h (n * s) s g r) → New w' base a' (c' * s) → Below base w w' → Kq w w' a (n * s) ((n + 1) * s) → K (act.put D (.slice a' (n + 1) c')) w') :
    Oper.wp P o act w K Q := by
  subst hD; obtain ⟨a', c', r, w', hrun, h1, h2, h3, h4, h5⟩ := run_append_q (P := P) w t tx o.type e e' z s bytes ht htx hi hz hs0 base hbase a n c h g xb xo d A N hg one hlen h63; unfold Oper.wp; simp [execOp, ho, resolve, invoke, builtin, hs, hx, hrun, Result.andThen]; exact hK a' c' r w' h1 h2 h3 h4 h5
end
def LsA (w : World) (F : Nat → Prop) (L sz A c : Nat) (l : List Nd) : Prop :=
  ∃ h, L ≤ A ∧ A < w.heap.size ∧ ¬ F A ∧ ArrS w (some ⟨A, 0, none⟩) l.length c sz h ∧ New w L (some ⟨A, 0, none⟩) (c * sz) ∧ ∀ (i : Nat) (r : Nd), l[i]? = some r → RepR w F r ((List.range sz).map fun j => h (i * sz + j))
theorem repL_of {w : World} {F : Nat → Prop} {A sz : Nat} {h : Nat → Value} : ∀ (l : List Nd) (o : Nat), (∀ j, j < l.length * sz → w.cell? ⟨A, o + j, none⟩ = some (h (o + j))) → (∀ (i : Nat) (r : Nd), l[i]? = some r → RepR w F r ((List.range sz).map fun j => h (o + (i * sz + j)))) → RepL w F A o l
  | [], o, _, _ => by unfold RepL; trivial
  | r :: l, o, hc, hr => by
    have h0 := hr 0 r rfl; have hl := h0.len; simp only [List.length_map, List.length_range] at hl; unfold RepL; refine ⟨⟨_, fun j hj => ?_, h0⟩, ?_⟩
    · have hj : j < sz := by simpa using hj
      rw [hc j (by rw [List.length_cons, Nat.succ_mul]; omega)]; simp [hj]
    · rw [← hl]; refine repL_of (h := h) (sz := sz) l (o + sz) (fun j hj => ?_) (fun i r hi => ?_)
      · have := hc (sz + j) (by rw [List.length_cons, Nat.succ_mul]; omega); rw [Nat.add_assoc]; exact this
      · have := hr (i + 1) r hi; have e : (fun j => h (o + ((i + 1) * sz + j))) = fun j => h (o + sz + (i * sz + j)) := funext fun j => congrArg h (by rw [Nat.succ_mul]; omega); rw [e] at this; exact this
theorem LsA.rep {w : World} {F F' : Nat → Prop} {L sz A c : Nat} {l : List Nd} (h : LsA w F L sz A c l) (hF : ∀ b, F b → F' b) (hA : F' A) : RepT w F' (.sl l) [.slice (some ⟨A, 0, none⟩) l.length c] := by
  obtain ⟨h, _, _, _, ha, _, hr⟩ := h; unfold RepT; refine ⟨some ⟨A, 0, none⟩, c, rfl, ha.le, ha.mx, .inr ⟨A, 0, rfl, hA, ?_⟩⟩; refine repL_of (h := h) (sz := sz) l 0 (fun j hj => ?_) (fun i r hi => ?_)
  · obtain ⟨b, off, e, hc⟩ := ha.cell j (Nat.lt_of_lt_of_le hj (Nat.mul_le_mul_right _ ha.le)); simp only [Option.some.injEq, Addr.mk.injEq, and_true] at e; obtain ⟨rfl, rfl⟩ := e; rw [hc, Nat.zero_add]
  · simp only [Nat.zero_add]; exact RepR.keep hF (fun _ _ _ _ h => h) (hr i r hi)
theorem LsA.keep {w w' : World} {F F' : Nat → Prop} {L sz A c : Nat} {l : List Nd} (h : LsA w F L sz A c l) (hk : Kb w w' F) (hA : w'.heap[A]? = w.heap[A]?) (hs : w.heap.size ≤ w'.heap.size) (hF : ∀ b, F b → F' b) (hn : ¬ F' A) : LsA w' F' L sz A c l := by
  obtain ⟨h, h1, h2, h3, ha, hN, hr⟩ := h
  have hb : ∀ b off, (some ⟨A, 0, none⟩ : Option Addr) = some ⟨b, off, none⟩ → w'.heap[b]? = w.heap[b]? := fun b off e => by
    simp only [Option.some.injEq, Addr.mk.injEq, and_true] at e; rw [← e.1]; exact hA
  exact ⟨h, h1, Nat.lt_of_lt_of_le h2 hs, hn, ha.blocks hb, hN.blocks hb, fun i r hi => (hr i r hi).on hk hF⟩
theorem LsA.one {w : World} {F : Nat → Prop} {L A : Nat} {r : Nd} {cs : List Value} (hL : L ≤ A) (hA : A < w.heap.size) (hn : ¬ F A) (hc : ∀ j, j < cs.length → w.cell? ⟨A, j, none⟩ = cs[j]?) (hf : ∀ j, j < cs.length → w.frozen? ⟨A, j, none⟩ = false) (hr : RepR w F r cs) : LsA w F L cs.length A 1 [r] := by
  have hx : ∀ j, j < cs.length → w.cell? ⟨A, 0 + j, none⟩ = some (cs.toArray[j]!) := fun j hj => by
    rw [Nat.zero_add, hc j hj, List.getElem?_eq_getElem hj]; simp [hj]
  refine ⟨fun j => cs.toArray[j]!, hL, hA, hn, ⟨Nat.le_refl _, by unfold maxLen; simp, fun j hj => ⟨A, 0, rfl, hx j (by omega)⟩⟩, fun j hj => ⟨A, 0, rfl, hL, by rw [Nat.zero_add]; exact hf j (by omega)⟩, fun i q hi => ?_⟩
  have hi0 : i = 0 := by
    have := (List.getElem?_eq_some_iff.1 hi).1; simp at this; omega
  subst hi0; simp only [List.getElem?_cons_zero, Option.some.injEq] at hi; subst hi
  have e : ((List.range cs.length).map fun j => cs.toArray[0 * cs.length + j]!) = cs := by
    apply List.ext_getElem
    · simp
    · intro i h1 h2; simp [h2]
  rw [e]; exact hr
theorem LsA.push {w w' : World} {F F1 F' : Nat → Prop} {L sz A c c' : Nat} {l : List Nd} {r : Nd} {g rr h : Nat → Value} {z : Value} {a' : Option Addr} (hs0 : 0 < sz)
    (h1 : L ≤ A) (h2 : A < w.heap.size) (h3 : ¬ F A) (hr : ∀ (i : Nat) (r : Nd), l[i]? = some r → RepR w F r ((List.range sz).map fun j => h (i * sz + j)))
    (hF : ∀ b, F b → b < w.heap.size) (hF1 : ∀ b, F1 b → b < w.heap.size ∧ b ≠ A) (hn : RepR w F1 r ((List.range sz).map g))
    (hcase : rr = h ∧ a' = some ⟨A, 0, none⟩ ∧ c' = c ∨ rr = zcS z ∧ a' = some ⟨w.heap.size, 0, none⟩ ∧ w.heap.size < w'.heap.size ∧ ∀ p : Addr, p.block < w.heap.size → w'.cell? p = w.cell? p)
    (hL : L ≤ w.heap.size) (Arr : ArrS w' a' (l.length + 1) c' sz (catS h (l.length * sz) sz g rr)) (N : New w' L a' (c' * sz)) (kq : Kq w w' (some ⟨A, 0, none⟩) (l.length * sz) ((l.length + 1) * sz))
    (hF' : ∀ b, F b ∨ F1 b → F' b) (hA' : ∀ A', a' = some ⟨A', 0, none⟩ → ¬ F' A') : ∃ A', a' = some ⟨A', 0, none⟩ ∧ (A' = A ∨ A' = w.heap.size) ∧ LsA w' F' L sz A' c' (l ++ [r]) := by
  have hkeep : ∀ b off v, (F b ∨ F1 b) → w.cell? ⟨b, off, none⟩ = some v → w'.cell? ⟨b, off, none⟩ = some v := fun b off v hb hc => by
    have hbl : b < w.heap.size := hb.elim (hF b) (fun q => (hF1 b q).1); have hbA : b ≠ A := hb.elim (fun q e => h3 (e ▸ q)) (fun q => (hF1 b q).2); rw [← hc]
    exact kq.kp.cell ⟨b, off, none⟩ hbl (fun x o e hx => by
      simp only [Option.some.injEq, Addr.mk.injEq, and_true] at e
      exact hbA (hx.1.trans e.1.symm))
  have key : ∀ A', a' = some ⟨A', 0, none⟩ → L ≤ A' → A' < w'.heap.size → LsA w' F' L sz A' c' (l ++ [r]) := fun A' e hl hlt => by
    subst e; refine ⟨catS h (l.length * sz) sz g rr, hl, hlt, hA' A' rfl, by rw [List.length_append]; exact Arr, N, fun i q hi => ?_⟩
    by_cases hil : i < l.length
    · rw [List.getElem?_append_left hil] at hi
      have e : ((List.range sz).map fun j => catS h (l.length * sz) sz g rr (i * sz + j)) = (List.range sz).map fun j => h (i * sz + j) := by
        apply List.map_congr_left; intro j hj; have hj : j < sz := by simpa using hj
        unfold catS; have : (i + 1) * sz ≤ l.length * sz := Nat.mul_le_mul_right _ hil; rw [Nat.succ_mul] at this; rw [if_pos (by omega)]
      rw [e]; exact RepR.keep (fun b hb => hF' b (.inl hb)) (fun b off v hb hc => hkeep b off v (.inl hb) hc) (hr i q hi)
    · have hi2 : i = l.length := by
        have := (List.getElem?_eq_some_iff.1 hi).1; simp at this; omega
      subst hi2; rw [List.getElem?_append_right (Nat.le_refl _), Nat.sub_self] at hi; have ht2 := Option.some.inj (show some _ = some q from hi); subst ht2
      have e : ((List.range sz).map fun j => catS h (l.length * sz) sz g rr (l.length * sz + j)) = (List.range sz).map g := by
        apply List.map_congr_left; intro j hj; have hj : j < sz := by simpa using hj
        unfold catS; rw [if_neg (by omega), if_pos (by omega), Nat.add_sub_cancel_left]
      rw [e]; exact RepR.keep (fun b hb => hF' b (.inr hb)) (fun b off v hb hc => hkeep b off v (.inr hb) hc) hn
  rcases hcase with ⟨_, e, _⟩ | ⟨_, e, hlt, _⟩
  · exact ⟨A, e, .inl rfl, key A e h1 (Nat.lt_of_lt_of_le h2 kq.kp.size)⟩
  · exact ⟨w.heap.size, e, .inr rfl, key _ e hL hlt⟩
end Go.Proofs.YtkblonfmjlopaaaGreatDoor
