/-
  Words in memory: a row of tokens; tell, walked.
-/
import Derived.Test.YtajpeeccomgnnaaGreatDoorLxApp
import Derived.Test.YtajpeeccomgnnaaGreatDoorLx3
import Derived.Test.YtajpeeccomgnnaaGreatDoorRegT
namespace Go.Proofs.YtajpeeccomgnnaaGreatDoor
set_option linter.all false
open Go Go.RowKit

/-- A word. -/
structure Tok where
  kind : Nat
  text : List UInt8
  num : Int
  bits : Nat
  n : Nat
  pos : Nat
/-- A word with its place. -/
def Tok.put (t : Tok) (x : List UInt8) (p : Nat) : Tok := { t with text := x, pos := p }
/-- A number in memory, as it should stand. -/
def Mg (w : World) (sg : Bool) (a : Option Addr) (n c : Nat) (z : Int) : Prop :=
  ∃ f, Us w a n c f ∧ n ≤ 1048576 ∧ Nm f n ∧ (n = 0 → sg = false) ∧ ival sg (val f n) = z
/-- A word's seven cells. -/
def TokC (w : World) (t : Tok) (h : Nat → Value) (o : Nat) : Prop :=
  ∃ sg a n c, h o = .int .i64 (t.kind : Nat) ∧ h (o + 1) = .string ⟨t.text.toArray⟩ ∧ h (o + 2) = .bool sg ∧ h (o + 3) = .slice a n c ∧ h (o + 4) = .int .u64 (t.bits : Nat) ∧ h (o + 5) = .int .i64 (t.n : Nat) ∧ h (o + 6) = .int .i64 (t.pos : Nat) ∧ Mg w sg a n c t.num
/-- Only cells that hold no limbs may have turned. -/
def UsK (w w' : World) : Prop := ∀ a n c f, Us w a n c f → Us w' a n c f
theorem UsK.refl (w : World) : UsK w w := fun _ _ _ _ h => h
theorem UsK.trans {w w' w'' : World} (h : UsK w w') (k : UsK w' w'') : UsK w w'' := fun a n c f u => k a n c f (h a n c f u)
theorem UsK.below {w w' : World} (h : Below w.heap.size w w') : UsK w w' := fun _ _ _ _ u => u.below h (Nat.le_refl _)
theorem UsK.set {w w' : World} (h : UsK w w') {p : Addr} {v : Value} (hp : w'.cell? p = some v) (hv : ∀ x, v ≠ .int .u32 x) (y : Value) : UsK w (w'.setCell p y) := fun a n c f u => us_kind (h a n c f u) hp hv y
theorem Mg.keep {w w' : World} {sg : Bool} {a : Option Addr} {n c : Nat} {z : Int} (h : Mg w sg a n c z) (k : UsK w w') : Mg w' sg a n c z := by
  obtain ⟨f, u, r⟩ := h
  exact ⟨f, k _ _ _ _ u, r⟩
theorem TokC.keep {w w' : World} {t : Tok} {h : Nat → Value} {o : Nat} (c : TokC w t h o) (k : UsK w w') : TokC w' t h o := by
  obtain ⟨sg, a, n, d, h0, h1, h2, h3, h4, h5, h6, m⟩ := c
  exact ⟨sg, a, n, d, h0, h1, h2, h3, h4, h5, h6, m.keep k⟩
/-- A word's zero. -/
def tokZ : Value := .agg #[.int .i64 0, .string ⟨#[]⟩, .bool false, .slice none 0 0, .int .u64 0, .int .i64 0, .int .i64 0]
theorem tokZ_kind (j : Nat) (x : Int) : zcS tokZ j ≠ .int .u32 x := by
  unfold zcS
  have h7 : j % 7 < 7 := Nat.mod_lt _ (by omega)
  have hz7 : tokZ.cells.size = 7 := rfl
  rw [hz7]
  generalize j % 7 = r7 at h7
  match r7, h7 with
  | 0, _ => intro h; cases h
  | 1, _ => intro h; cases h
  | 2, _ => intro h; cases h
  | 3, _ => intro h; cases h
  | 4, _ => intro h; cases h
  | 5, _ => intro h; cases h
  | 6, _ => intro h; cases h
theorem TokC.congr {w : World} {t : Tok} {h g : Nat → Value} {o : Nat} (c : TokC w t h o) (e : ∀ k, k < 7 → g (o + k) = h (o + k)) : TokC w t g o := by
  obtain ⟨sg, a, n, d, h0, h1, h2, h3, h4, h5, h6, m⟩ := c
  exact ⟨sg, a, n, d, (e 0 (by omega)).trans h0, (e 1 (by omega)).trans h1, (e 2 (by omega)).trans h2, (e 3 (by omega)).trans h3, (e 4 (by omega)).trans h4, (e 5 (by omega)).trans h5, (e 6 (by omega)).trans h6, m⟩
/-- Words, one behind the other. -/
def Toks (w : World) (a : Option Addr) (n c : Nat) (ts : List Tok) : Prop :=
  ∃ h, ArrS w a n c 7 h ∧ n = ts.length ∧ (∀ j, n * 7 ≤ j → j < c * 7 → h j = zcS tokZ j) ∧ ∀ i t, ts[i]? = some t → TokC w t h (i * 7)
theorem Tryz.info38 : (Tryz.prog.info? 38).map (fun i => (i.zero, i.size, i.bytes)) = some (some tokZ, 7, 80) := by kernel_rfl

theorem gen_world {P : Program} {c : Code} {Q : Exit → Act → World → Prop} {a : Act} (w : World) (h : ∀ W, W = w → Code.wp P c Q a W) : Code.wp P c Q a w := h w rfl

set_option maxHeartbeats 4000000 in
theorem tell_any (b : Nat) (s : ByteArray) (p n : Nat) (la : Option Addr) (ln lc : Nat) (code mat : Int) (kind bits N : Nat) (tx : ByteArray) (sg : Bool) (am : Option Addr) (nm cm : Nat) (z : Int) (at0 : Int) (ts : List Tok) (base : Nat) (w : World)
    (hs : s.size ≤ 1099511627776) (hp : p + n ≤ s.size) (h : Sc w b s p la ln lc code mat) (hT : Toks w la ln lc ts) (hN : New w base la (lc * 7)) (hb : base ≤ b) (hlb : ∀ x off, la = some ⟨x, off, none⟩ → b < x ∧ x < w.heap.size) (hm : Mg w sg am nm cm z) (hln : ln ≤ 1099511627776) :
    Calls Tryz.prog 34 #[.pointer (some ⟨b, 0, none⟩), .agg #[.int .i64 (kind : Nat), .string tx, .bool sg, .slice am nm cm, .int .u64 (bits : Nat), .int .i64 (N : Nat), .int .i64 at0], .int .i64 (n : Nat)] w fun e w' =>
      ∃ la' lc', e = .returned (.tuple #[]) ∧ Sc w' b s (p + n) la' (ln + 1) lc' code mat ∧ Toks w' la' (ln + 1) lc' (ts ++ [⟨kind, (s.extract p (p + n)).data.toList, z, bits, N, p⟩]) ∧ New w' base la' (lc' * 7) ∧ (∀ x off, la' = some ⟨x, off, none⟩ → b < x ∧ x < w'.heap.size) ∧ Below base w w' ∧ UsK w w' := by
  obtain ⟨blt, c0, c1, c2, c3, c4, fr⟩ := h
  go_enter Tryz.func34, Tryz.ntmps34
  go_wp2
  have hwr : IntKind.i64.wrap ((p : Int) + (n : Int)) = (p : Int) + (n : Int) := IntWalk.i64_in _ (by omega)
  have lne : b ≠ w.heap.size := by omega
  go_region
  go_wp2
  have hT0 := hT
  obtain ⟨hh, hA, rfl, hz0, htk⟩ := hT0
  have blt1 : b < ((w.alloc (.cells #[.int .i64 (kind : Nat), .string (s.extract p (p + n)), .bool sg, .slice am nm cm, .int .u64 (bits : Nat), .int .i64 (N : Nat), .int .i64 (p : Nat)] 38)).drew).heap.size := by simp; omega
  have hb1 : Below w.heap.size w (w.alloc (.cells #[.int .i64 (kind : Nat), .string (s.extract p (p + n)), .bool sg, .slice am nm cm, .int .u64 (bits : Nat), .int .i64 (N : Nat), .int .i64 (p : Nat)] 38)).drew := (below_alloc w _).drew
  have nw := fun (j : Nat) (v : Value) (e : (#[.int .i64 (kind : Nat), .string (s.extract p (p + n)), .bool sg, .slice am nm cm, .int .u64 (bits : Nat), .int .i64 (N : Nat), .int .i64 (p : Nat)] : Array Value)[j]? = some v) => show (w.alloc (.cells #[.int .i64 (kind : Nat), .string (s.extract p (p + n)), .bool sg, .slice am nm cm, .int .u64 (bits : Nat), .int .i64 (N : Nat), .int .i64 (p : Nat)] 38)).drew.cell? ⟨w.heap.size, j, none⟩ = some v from (World.cell?_alloc_new w _ _ j).trans e
  have x0 := nw 0 _ rfl
  have x1 := nw 1 _ rfl
  have x2 := nw 2 _ rfl
  have x3 := nw 3 _ rfl
  have x4 := nw 4 _ rfl
  have x5 := nw 5 _ rfl
  have x6 := nw 6 _ rfl
  have d2 := (hb1.cell (p := ⟨b, 2, none⟩) blt).trans c2
  refine gen_world _ (fun W hW => ?_)
  rw [← hW] at blt1 hb1 x0 x1 x2 x3 x4 x5 x6 d2
  clear hW nw
  refine region_T (S := fun wx => wx.cell? ⟨b, 2, none⟩ = some (.slice la ts.length lc) ∧ wx.cell? ⟨w.heap.size, 0, none⟩ = some (.int .i64 (kind : Nat)) ∧ wx.cell? ⟨w.heap.size, 1, none⟩ = some (.string (s.extract p (p + n))) ∧ wx.cell? ⟨w.heap.size, 2, none⟩ = some (.bool sg) ∧ wx.cell? ⟨w.heap.size, 3, none⟩ = some (.slice am nm cm) ∧ wx.cell? ⟨w.heap.size, 4, none⟩ = some (.int .u64 (bits : Nat)) ∧ wx.cell? ⟨w.heap.size, 5, none⟩ = some (.int .i64 (N : Nat)) ∧ wx.cell? ⟨w.heap.size, 6, none⟩ = some (.int .i64 (p : Nat))) (T := fun j => j == 10) (by kernel_rfl) ?_
  have hS0 := And.intro d2 (And.intro x0 (And.intro x1 (And.intro x2 (And.intro x3 (And.intro x4 (And.intro x5 x6))))))
  refine anyT_take (i := 0) (v := ?_) rfl (by kernel_rfl) (by kernel_rfl) (by kernel_rfl) (by kernel_rfl) (by kernel_rfl) (fun _ _ _ h => h) (Or.inl ⟨by rfl, ?_⟩) (by simpa using hS0) ?_
  rotate_left 1
  · intro wz hz; obtain ⟨_, _, _, _, _, _, _, _⟩ := hz; go_simp; try with_reducible rfl
  try simp only [Act.put, List.setIfInBounds_toArray, List.set_cons_zero, List.set_cons_succ]
  refine anyT_take (i := 1) (v := ?_) rfl (by kernel_rfl) (by kernel_rfl) (by kernel_rfl) (by kernel_rfl) (by kernel_rfl) (fun _ _ _ h => h) (Or.inl ⟨by rfl, ?_⟩) (by simpa using hS0) ?_
  rotate_left 1
  · intro wz hz; obtain ⟨_, _, _, _, _, _, _, _⟩ := hz; go_simp; try with_reducible rfl
  try simp only [Act.put, List.setIfInBounds_toArray, List.set_cons_zero, List.set_cons_succ]
  refine anyT_take (i := 2) (v := ?_) rfl (by kernel_rfl) (by kernel_rfl) (by kernel_rfl) (by kernel_rfl) (by kernel_rfl) (fun _ _ _ h => h) (Or.inl ⟨by rfl, ?_⟩) (by simpa using hS0) ?_
  rotate_left 1
  · intro wz hz; obtain ⟨_, _, _, _, _, _, _, _⟩ := hz; go_simp; try with_reducible rfl
  try simp only [Act.put, List.setIfInBounds_toArray, List.set_cons_zero, List.set_cons_succ]
  refine anyT_take (i := 3) (v := ?_) rfl (by kernel_rfl) (by kernel_rfl) (by kernel_rfl) (by kernel_rfl) (by kernel_rfl) (fun _ _ _ h => h) (Or.inl ⟨by rfl, ?_⟩) (by simpa using hS0) ?_
  rotate_left 1
  · intro wz hz; obtain ⟨_, _, _, _, _, _, _, _⟩ := hz; go_simp; try with_reducible rfl
  try simp only [Act.put, List.setIfInBounds_toArray, List.set_cons_zero, List.set_cons_succ]
  refine anyT_take (i := 4) (v := ?_) rfl (by kernel_rfl) (by kernel_rfl) (by kernel_rfl) (by kernel_rfl) (by kernel_rfl) (fun _ _ _ h => h) (Or.inl ⟨by rfl, ?_⟩) (by simpa using hS0) ?_
  rotate_left 1
  · intro wz hz; obtain ⟨_, _, _, _, _, _, _, _⟩ := hz; go_simp; try with_reducible rfl
  try simp only [Act.put, List.setIfInBounds_toArray, List.set_cons_zero, List.set_cons_succ]
  refine anyT_take (i := 5) (v := ?_) rfl (by kernel_rfl) (by kernel_rfl) (by kernel_rfl) (by kernel_rfl) (by kernel_rfl) (fun _ _ _ h => h) (Or.inl ⟨by rfl, ?_⟩) (by simpa using hS0) ?_
  rotate_left 1
  · intro wz hz; obtain ⟨_, _, _, _, _, _, _, _⟩ := hz; go_simp; try with_reducible rfl
  try simp only [Act.put, List.setIfInBounds_toArray, List.set_cons_zero, List.set_cons_succ]
  refine anyT_one (i := 6) (by kernel_rfl) rfl (fun K hK => ?_)
  go_simp
  have hb2 : Below W.heap.size W (W.alloc (.cells #[.int .i64 (kind : Nat), .string (s.extract p (p + n)), .bool sg, .slice am nm cm, .int .u64 (bits : Nat), .int .i64 (N : Nat), .int .i64 (p : Nat)] 38)).drew := (below_alloc W _).drew
  have hs2 : (W.alloc (.cells #[.int .i64 (kind : Nat), .string (s.extract p (p + n)), .bool sg, .slice am nm cm, .int .u64 (bits : Nat), .int .i64 (N : Nat), .int .i64 (p : Nat)] 38)).drew.heap.size = W.heap.size + 1 := by simp
  have nw := fun (j : Nat) (v : Value) (e : (#[.int .i64 (kind : Nat), .string (s.extract p (p + n)), .bool sg, .slice am nm cm, .int .u64 (bits : Nat), .int .i64 (N : Nat), .int .i64 (p : Nat)] : Array Value)[j]? = some v) => show (W.alloc (.cells #[.int .i64 (kind : Nat), .string (s.extract p (p + n)), .bool sg, .slice am nm cm, .int .u64 (bits : Nat), .int .i64 (N : Nat), .int .i64 (p : Nat)] 38)).drew.cell? ⟨W.heap.size, j, none⟩ = some v from (World.cell?_alloc_new W _ _ j).trans e
  have lW : w.heap.size < W.heap.size := World.block_lt_of_cell? W _ x0
  have hS1 := And.intro ((hb2.cell (p := ⟨b, 2, none⟩) blt1).trans d2) (And.intro ((hb2.cell (p := ⟨w.heap.size, 0, none⟩) lW).trans x0) (And.intro ((hb2.cell (p := ⟨w.heap.size, 1, none⟩) lW).trans x1) (And.intro ((hb2.cell (p := ⟨w.heap.size, 2, none⟩) lW).trans x2) (And.intro ((hb2.cell (p := ⟨w.heap.size, 3, none⟩) lW).trans x3) (And.intro ((hb2.cell (p := ⟨w.heap.size, 4, none⟩) lW).trans x4) (And.intro ((hb2.cell (p := ⟨w.heap.size, 5, none⟩) lW).trans x5) ((hb2.cell (p := ⟨w.heap.size, 6, none⟩) lW).trans x6)))))))
  have hbw : Below w.heap.size w (W.alloc (.cells #[.int .i64 (kind : Nat), .string (s.extract p (p + n)), .bool sg, .slice am nm cm, .int .u64 (bits : Nat), .int .i64 (N : Nat), .int .i64 (p : Nat)] 38)).drew := hb1.trans (hb2.mono (by omega))
  refine hK.out _ _ (fun _ => hS1) ?_
  clear hK K
  generalize (W.alloc (.cells #[.int .i64 (kind : Nat), .string (s.extract p (p + n)), .bool sg, .slice am nm cm, .int .u64 (bits : Nat), .int .i64 (N : Nat), .int .i64 (p : Nat)] 38)).drew = W2 at hb2 hs2 nw hS1 hbw ⊢
  have A2 : ArrS W2 la ts.length lc 7 hh := ⟨hA.le, hA.mx, fun j hj => by
    obtain ⟨x, off, e, hc⟩ := hA.cell j hj
    exact ⟨x, off, e, (hbw.cell (p := ⟨x, off + j, none⟩) (by have := hlb x off e; simp; omega)).trans hc⟩⟩
  have N2 : New W2 base la (lc * 7) := fun j hj => by
    obtain ⟨x, off, e, h1, h2⟩ := hN j hj
    exact ⟨x, off, e, h1, (hbw.frozen (p := ⟨x, off + j, none⟩) (by have := hlb x off e; simp; omega)).trans h2⟩
  have hg : ∀ j, j < 7 → W2.cell? ⟨W.heap.size, 0 + j, none⟩ = some ((#[.int .i64 (kind : Nat), .string (s.extract p (p + n)), .bool sg, .slice am nm cm, .int .u64 (bits : Nat), .int .i64 (N : Nat), .int .i64 (p : Nat)] : Array Value)[j]!) := fun j hj => by
    rw [Nat.zero_add]
    match j, hj with
    | 0, _ => exact nw 0 _ rfl
    | 1, _ => exact nw 1 _ rfl
    | 2, _ => exact nw 2 _ rfl
    | 3, _ => exact nw 3 _ rfl
    | 4, _ => exact nw 4 _ rfl
    | 5, _ => exact nw 5 _ rfl
    | 6, _ => exact nw 6 _ rfl
  have one : ∀ j, j < 7 → ((#[.int .i64 (kind : Nat), .string (s.extract p (p + n)), .bool sg, .slice am nm cm, .int .u64 (bits : Nat), .int .i64 (N : Nat), .int .i64 (p : Nat)] : Array Value)[j]!).oneCell' = true := fun j hj => by
    match j, hj with
    | 0, _ => rfl
    | 1, _ => rfl
    | 2, _ => rfl
    | 3, _ => rfl
    | 4, _ => rfl
    | 5, _ => rfl
    | 6, _ => rfl
  clear nw
  try simp only [Act.put, List.setIfInBounds_toArray, List.set_cons_zero, List.set_cons_succ]
  refine anyT_one (i := 7) (by kernel_rfl) rfl (fun K hK => ?_)
  rw [if_pos (by rfl)]
  refine oper_append_one W2 (some 34) rfl _ _ 23 23 rfl 38 38 tokZ 7 80 Tryz.underlying23 Tryz.underlying23 Tryz.info38 rfl (by omega) base (by have := hbw.size; omega) la ts.length lc hh (fun j => (#[.int .i64 (kind : Nat), .string (s.extract p (p + n)), .bool sg, .slice am nm cm, .int .u64 (bits : Nat), .int .i64 (N : Nat), .int .i64 (p : Nat)] : Array Value)[j]!) W.heap.size 0 1 rfl rfl A2 N2 hg one (by omega) (by omega) ?_
  intro a' c' r w3 hr A3 N3 hb3 hk3
  have bW : b < W2.heap.size := by omega
  have wW : w.heap.size < W2.heap.size := by omega
  have k3 : ∀ (q : Addr), (q.block = b ∨ q.block = w.heap.size) → w3.cell? q = W2.cell? q := fun q hq => hk3.cell q (by omega) (fun x off e hx => by have := hlb x off e; omega)
  have f3 : ∀ (q : Addr), q.block = b → w3.frozen? q = w.frozen? q := fun q hq => (hk3.frozen q (by omega)).trans (hbw.frozen (by omega))
  have hS3 := And.intro ((k3 ⟨b, 2, none⟩ (.inl rfl)).trans hS1.1) (And.intro ((k3 ⟨w.heap.size, 0, none⟩ (.inr rfl)).trans hS1.2.1) (And.intro ((k3 ⟨w.heap.size, 1, none⟩ (.inr rfl)).trans hS1.2.2.1) (And.intro ((k3 ⟨w.heap.size, 2, none⟩ (.inr rfl)).trans hS1.2.2.2.1) (And.intro ((k3 ⟨w.heap.size, 3, none⟩ (.inr rfl)).trans hS1.2.2.2.2.1) (And.intro ((k3 ⟨w.heap.size, 4, none⟩ (.inr rfl)).trans hS1.2.2.2.2.2.1) (And.intro ((k3 ⟨w.heap.size, 5, none⟩ (.inr rfl)).trans hS1.2.2.2.2.2.2.1) ((k3 ⟨w.heap.size, 6, none⟩ (.inr rfl)).trans hS1.2.2.2.2.2.2.2)))))))
  refine hK.out _ _ (fun _ => hS3) ?_
  clear hK K
  have e0 := ((k3 ⟨b, 0, none⟩ (.inl rfl)).trans (hbw.cell (p := ⟨b, 0, none⟩) blt)).trans c0
  have e1 := ((k3 ⟨b, 1, none⟩ (.inl rfl)).trans (hbw.cell (p := ⟨b, 1, none⟩) blt)).trans c1
  have e2 := hS3.1
  have e3 := ((k3 ⟨b, 3, none⟩ (.inl rfl)).trans (hbw.cell (p := ⟨b, 3, none⟩) blt)).trans c3
  have e4 := ((k3 ⟨b, 4, none⟩ (.inl rfl)).trans (hbw.cell (p := ⟨b, 4, none⟩) blt)).trans c4
  have fr3 : ∀ o, w3.frozen? ⟨b, o, none⟩ = false := fun o => (f3 _ rfl).trans (fr o)
  try simp only [Act.put, List.setIfInBounds_toArray, List.set_cons_zero, List.set_cons_succ]
  refine anyT_one (i := 8) (by kernel_rfl) rfl (fun K hK => ?_)
  go_simp
  refine hK.out _ _ (fun _ => hS3) ?_
  clear hK K
  try simp only [Act.put, List.setIfInBounds_toArray, List.set_cons_zero, List.set_cons_succ]
  refine anyT_one (i := 9) (by kernel_rfl) rfl (fun K hK => ?_)
  go_simp
  refine hK.out _ _ (fun _ => hS3) ?_
  clear hK K
  try simp only [Act.put, List.setIfInBounds_toArray, List.set_cons_zero, List.set_cons_succ]
  refine anyT_one (i := 10) (by kernel_rfl) rfl (fun K hK => ?_)
  go_simp
  refine hK.out _ _ (fun h => by cases h) ?_
  clear hK K
  try simp only [Act.put, List.setIfInBounds_toArray, List.set_cons_zero, List.set_cons_succ]
  refine anyT_done (by kernel_rfl) ?_ _
  clear k3 f3 hS1 hS3 hS0 hg one
  go_wp2
  go_end0
  have hlen7 : (ts.length + 1) * 7 = ts.length * 7 + 7 := Nat.succ_mul _ _
  have hw3 : W2.heap.size ≤ w3.heap.size := hk3.size
  have ha' : ∀ x off, a' = some ⟨x, off, none⟩ → b < x ∧ x < w3.heap.size := fun x off e => by
    rcases hr with ⟨_, h2, _⟩ | ⟨_, h2, h3, _⟩
    · rw [h2] at e
      have := hlb x off e
      omega
    · rw [h2] at e
      simp only [Option.some.injEq, Addr.mk.injEq, and_true] at e
      omega
  have uk3 : UsK w w3 := by
    intro ay ny cy fy uy
    have u2 : Us W2 ay ny cy fy := uy.below hbw (Nat.le_refl _)
    refine ⟨u2.le, u2.mx, u2.lm, fun q hq => ?_⟩
    obtain ⟨y, oy, ey, hc⟩ := u2.cell q hq
    refine ⟨y, oy, ey, ?_⟩
    have hlt := World.block_lt_of_cell? W2 _ hc
    rw [← hc]
    rcases hr with ⟨_, _, h5⟩ | ⟨_, _, _, h6⟩
    · refine hk3.cell ⟨y, oy + q, none⟩ hlt (fun x off e hx => ?_)
      obtain ⟨h1, _, h2, h3⟩ := hx
      simp only at h1 h2 h3
      have hroom := A3.le
      have hm : (ts.length + 1) * 7 ≤ lc * 7 := Nat.mul_le_mul_right _ (by omega)
      obtain ⟨x', off', e', hcx⟩ := A2.cell (oy + q - off) (by omega)
      rw [e] at e'
      simp only [Option.some.injEq, Addr.mk.injEq, and_true] at e'
      obtain ⟨rfl, rfl⟩ := e'
      rw [show off + (oy + q - off) = oy + q by omega, ← h1, hc] at hcx
      rw [hz0 _ (by omega) (by omega)] at hcx
      have := Option.some.inj hcx
      exact tokZ_kind _ _ this.symm
    · exact h6 _ hlt
  have u1 : UsK w (w3.setCell ⟨b, 2, none⟩ (.slice a' (ts.length + 1) c')) := uk3.set e2 (fun _ h => by cases h) _
  have e1' : (w3.setCell ⟨b, 2, none⟩ (.slice a' (ts.length + 1) c')).cell? ⟨b, 1, none⟩ = some (.int .i64 (p : Nat)) := by
    rw [World.cell?_setCell_other _ _ _ _ (by intro h; simp at h)]; exact e1
  have u2 : UsK w ((w3.setCell ⟨b, 2, none⟩ (.slice a' (ts.length + 1) c')).setCell ⟨b, 1, none⟩ (.int .i64 ((p : Int) + (n : Int)))) := u1.set e1' (fun _ h => by cases h) _
  have hbl : Below base w w3 := (hbw.mono (by omega)).trans hb3
  refine ⟨a', c', rfl, ⟨by simpa using (by omega : b < w3.heap.size), ?_, ?_, ?_, ?_, ?_, fun o => by simpa using fr3 o⟩, ⟨catS hh (ts.length * 7) 7 (fun j => (#[.int .i64 (kind : Nat), .string (s.extract p (p + n)), .bool sg, .slice am nm cm, .int .u64 (bits : Nat), .int .i64 (N : Nat), .int .i64 (p : Nat)] : Array Value)[j]!) r, ⟨A3.le, A3.mx, fun j hj => ?_⟩, by simp, fun j h1 h2 => ?_, fun i t ht => ?_⟩, (N3.set _ _).set _ _, fun x off e => by simpa using ha' x off e, (hbl.setCell hb _).setCell hb _, u2⟩
  · rw [World.cell?_setCell_other _ _ _ _ (by intro h; simp at h), World.cell?_setCell_other _ _ _ _ (by intro h; simp at h)]; exact e0
  · rw [World.cell?_setCell_same _ _ _ e1']; simp
  · rw [World.cell?_setCell_other _ _ _ _ (by intro h; simp at h), World.cell?_setCell_same _ _ _ e2]
  · rw [World.cell?_setCell_other _ _ _ _ (by intro h; simp at h), World.cell?_setCell_other _ _ _ _ (by intro h; simp at h)]; exact e3
  · rw [World.cell?_setCell_other _ _ _ _ (by intro h; simp at h), World.cell?_setCell_other _ _ _ _ (by intro h; simp at h)]; exact e4
  · obtain ⟨x, off, e, hc⟩ := A3.cell j hj
    have hx := (ha' x off e).1
    refine ⟨x, off, e, ?_⟩
    rw [World.cell?_setCell_other _ _ _ _ (by intro h; simp only [Addr.mk.injEq] at h; omega), World.cell?_setCell_other _ _ _ _ (by intro h; simp only [Addr.mk.injEq] at h; omega)]
    exact hc
  · unfold catS
    rw [if_neg (by omega), if_neg (by omega)]
    rcases hr with ⟨h5, _, h6⟩ | ⟨h5, _⟩
    · rw [h5]; exact hz0 j (by omega) (by omega)
    · rw [h5]
  · by_cases hi : i < ts.length
    · rw [List.getElem?_append_left hi] at ht
      refine ((htk i t ht).congr (fun k hk => ?_)).keep u2
      unfold catS
      rw [if_pos (by omega)]
    · have hi2 : i = ts.length := by
        have := (List.getElem?_eq_some_iff.1 ht).1
        simp at this; omega
      subst hi2
      rw [List.getElem?_append_right (Nat.le_refl _), Nat.sub_self] at ht
      have ht2 := Option.some.inj (show some _ = some t from ht)
      subst ht2
      have hg7 : ∀ k, k < 7 → catS hh (ts.length * 7) 7 (fun j => (#[.int .i64 (kind : Nat), .string (s.extract p (p + n)), .bool sg, .slice am nm cm, .int .u64 (bits : Nat), .int .i64 (N : Nat), .int .i64 (p : Nat)] : Array Value)[j]!) r (ts.length * 7 + k) = (#[.int .i64 (kind : Nat), .string (s.extract p (p + n)), .bool sg, .slice am nm cm, .int .u64 (bits : Nat), .int .i64 (N : Nat), .int .i64 (p : Nat)] : Array Value)[k]! := fun k hk => by
        unfold catS
        rw [if_neg (by omega), if_pos (by omega), Nat.add_sub_cancel_left]
      refine ⟨sg, am, nm, cm, ?_, ?_, ?_, ?_, ?_, ?_, ?_, hm.keep u2⟩
      · exact hg7 0 (by omega)
      · exact (hg7 1 (by omega)).trans (by rw [Array.toArray_toList]; rfl)
      · exact hg7 2 (by omega)
      · exact hg7 3 (by omega)
      · exact hg7 4 (by omega)
      · exact hg7 5 (by omega)
      · exact hg7 6 (by omega)
end Go.Proofs.YtajpeeccomgnnaaGreatDoor
