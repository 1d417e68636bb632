/-
  Parse, walked: a text that the lexer cuts.
-/
import Derived.Test.YtkblonfmjlopaaaGreatDoorSySf
import Derived.Test.YtkblonfmjlopaaaGreatDoorSyDeep
import Derived.Test.YtkblonfmjlopaaaGreatDoorSyDe
import Derived.Test.YtkblonfmjlopaaaGreatDoorLxToks
import Derived.BigQuiet
import Derived.Deep.Cut
import Derived.Test.YtkblonfmjlopaaaGreatDoorSxT
set_option linter.all false
set_option maxRecDepth 1000000
set_option maxHeartbeats 16000000
namespace Go.Proofs.YtkblonfmjlopaaaGreatDoor
open Go Go.RowKit
structure WdOk (tx : ByteArray) (ts : List Tok) : Prop where
  few : ts.length ≤ 65536
  en : tx.size ≤ 65536
  wd : ∀ (i : Nat) (t : Tok), ts[i]? = some t → t.text.length ≤ 65536 ∧ t.pos ≤ 65536 ∧ (t.kind = 4 → t.text ≠ []) ∧ t.kind ≤ 8
structure WOk (w : World) : Prop where
  big : 3 < w.heap.size
  mx : ∃ m : Int, w.cell? ⟨3, 0, none⟩ = some (.int .i64 m)
  sp : ∀ w', Below w.heap.size w w' → Lib.TabIs Tryz.prog w' "strings.asciiSpace" .u8 Lib.asciiSpaceTab
  p10 : ∀ w', Below w.heap.size w w' → Lib.TabIs Tryz.prog w' "internal/strconv.uint64pow10" .u64 Lib.pow10Tab
theorem Toks.other' {w : World} {a : Option Addr} {n c : Nat} {ts : List Tok} (h : Toks w a n c ts) {p : Addr} {v : Value} (hp : w.cell? p = some v) (hv : ∀ x, v ≠ .int .u32 x) (ha : c ≠ 0 → ∀ x off, a = some ⟨x, off, none⟩ → p.block ≠ x) (y : Value) : Toks (w.setCell p y) a n c ts := by
  by_cases hc : c = 0
  · subst hc; obtain ⟨hh, A, e, z, tk⟩ := h; refine ⟨hh, ⟨A.le, A.mx, fun j hj => by omega⟩, e, z, fun i t ht => (tk i t ht).keep ((UsK.refl w).set hp hv y)⟩
  · exact h.other hp hv (ha hc) y
theorem ps_start {tx : ByteArray} {ts : List Tok} {w W2 w5 : World} {la na fa : Option Addr} {lc nc fc : Nat} (hw : Below w.heap.size w W2) (hW : WOk w) (hwd : WdOk tx ts) (htk : Toks W2 la ts.length lc ts) (hb5 : Below W2.heap.size W2 w5) (hsc : Scp w5 W2.heap.size na nc fa fc begin0)
    (hln : ∀ b o, na = some ⟨b, o, none⟩ → b < w5.heap.size ∧ W2.heap.size ≤ b) (hlf : ∀ b o, fa = some ⟨b, o, none⟩ → b < w5.heap.size ∧ W2.heap.size ≤ b) (hnf : ∀ b o1 o2, na = some ⟨b, o1, none⟩ → fa = some ⟨b, o2, none⟩ → False) :
    GOk ⟨w5.heap.size, la, lc, ⟨ts, tx.size⟩, W2⟩ ∧ PS ⟨w5.heap.size, la, lc, ⟨ts, tx.size⟩, W2⟩ (fun k => k = w5.heap.size ∨ (∃ o, na = some ⟨k, o, none⟩) ∨ ∃ o, fa = some ⟨k, o, none⟩) na nc fa fc (w5.alloc (.cells #[.slice la ts.length lc, .int .i64 0, .int .i64 (tx.size : Nat), .slice na 17 nc, .slice fa 17 fc] 55)) ⟨0, begin0⟩ := by
  have ba := below_alloc w5 (.cells #[.slice la ts.length lc, .int .i64 0, .int .i64 (tx.size : Nat), .slice na 17 nc, .slice fa 17 fc] 55); have bx := BxC.new w5 #[.slice la ts.length lc, .int .i64 0, .int .i64 (tx.size : Nat), .slice na 17 nc, .slice fa 17 fc] 55; have h5 := hb5.size; have hsz : (w5.alloc (.cells #[.slice la ts.length lc, .int .i64 0, .int .i64 (tx.size : Nat), .slice na 17 nc, .slice fa 17 fc] 55)).heap.size = w5.heap.size + 1 := by simp
  refine ⟨⟨htk, hwd.few, hwd.en, hwd.wd, h5, fun w' hb => hW.p10 w' (hw.trans (hb.mono hw.size))⟩, ⟨hb5.trans (ba.mono h5), fun k hk => ?_, .inl rfl, fun b o e => ⟨.inr (.inl ⟨o, e⟩), fun e2 => by have := (hln b o e).1; have e3 : b = w5.heap.size := e2; omega⟩, fun b o e => ⟨.inr (.inr ⟨o, e⟩), fun e2 => by have := (hlf b o e).1; have e3 : b = w5.heap.size := e2; omega⟩, hnf, ?_, ?_, ?_, ?_, ?_, bx.2.1, hsc.blocks (fun b o e => ba.block b (hln b o e).1) (fun b o e => ba.block b (hlf b o e).1), ?_, Nat.zero_le _, ?_⟩⟩
  · show W2.heap.size ≤ k ∧ k < _
    rcases hk with rfl | ⟨o, e⟩ | ⟨o, e⟩
    · omega
    · have := hln k o e; omega
    · have := hlf k o e; omega
  · exact bx.2.2 0 (show 0 < 5 by omega)
  · exact bx.2.2 1 (show 1 < 5 by omega)
  · exact bx.2.2 2 (show 2 < 5 by omega)
  · exact bx.2.2 3 (show 3 < 5 by omega)
  · exact bx.2.2 4 (show 4 < 5 by omega)
  · show begin0.length ≤ 20 + 0; decide
  · show 0 < begin0.length; decide
theorem parseP_cases {X : Tx} {f : Fs} {r : Except (Nat × Nat) (List Nd)} (h : parseP X f = some r) : (∃ c q, f.decs true ⟨0, begin0⟩ = some (.error (c, q)) ∧ r = .error (c, q)) ∨
    ∃ l s1, f.decs true ⟨0, begin0⟩ = some (.ok (l, s1)) ∧ ((s1.i < X.ts.length ∧ r = .error (wrongE X s1)) ∨ (¬ s1.i < X.ts.length ∧ r = .ok l)) := by
  have key : ∀ x, topP X f ⟨0, begin0⟩ = some x → (∃ c q, f.decs true ⟨0, begin0⟩ = some (.error (c, q)) ∧ x = .error (c, q)) ∨ ∃ l s1, f.decs true ⟨0, begin0⟩ = some (.ok (l, s1)) ∧ ((s1.i < X.ts.length ∧ x = .error (wrongE X s1)) ∨ (¬ s1.i < X.ts.length ∧ x = .ok (l, s1))) := fun x hx => by
    unfold topP at hx
    rcases bind_cases hx with ⟨c, q, h1, rfl⟩ | ⟨l, s1, h1, h2⟩
    · exact .inl ⟨c, q, h1, rfl⟩
    · rw [get_bind] at h2; refine .inr ⟨l, s1, h1, ?_⟩
      by_cases hi : s1.i < X.ts.length
      · rw [if_pos hi, wrong_eq] at h2; exact .inl ⟨hi, (Option.some.inj h2).symm⟩
      · rw [if_neg hi] at h2; exact .inr ⟨hi, pure_inv h2⟩
  unfold parseP at h
  rcases ht : topP X f ⟨0, begin0⟩ with _ | e | ⟨l, s1⟩
  · rw [ht] at h; cases h
  · rw [ht] at h; obtain rfl := Option.some.inj h
    rcases key _ ht with ⟨c, q, h1, h2⟩ | ⟨l, s1, h1, ⟨h2, h3⟩ | ⟨h2, h3⟩⟩
    · cases h2; exact .inl ⟨c, q, h1, rfl⟩
    · cases h3; exact .inr ⟨l, s1, h1, .inl ⟨h2, rfl⟩⟩
    · cases h3
  · rw [ht] at h; obtain rfl := Option.some.inj h
    rcases key _ ht with ⟨c, q, h1, h2⟩ | ⟨l', s', h1, ⟨h2, h3⟩ | ⟨h2, h3⟩⟩
    · cases h2
    · cases h3
    · cases h3; exact .inr ⟨l, s1, h1, .inr ⟨h2, rfl⟩⟩
theorem caught {w9 W1 : World} {lb mb c q : Nat} {x : Value} {y0 y1 : Int} (hl : BxC w9 lb #[x]) (hm : BxC w9 mb #[.int .i64 y0, .int .i64 y1]) (hne : lb ≠ mb) (hb : Below w9.heap.size w9 W1) :
    ∃ F, F = ((W1.setCell ⟨lb, 0, none⟩ (.slice none 0 0)).setCell ⟨mb, 0, none⟩ (.int .i64 (c : Nat))).setCell ⟨mb, 1, none⟩ (.int .i64 (q : Nat)) ∧ F.cell? ⟨lb, 0, none⟩ = some (.slice none 0 0) ∧ F.cell? ⟨mb, 0, none⟩ = some (.int .i64 (c : Nat)) ∧ F.cell? ⟨mb, 1, none⟩ = some (.int .i64 (q : Nat)) ∧ ∀ B, B ≤ lb → B ≤ mb → Below B w9 w9 → B ≤ w9.heap.size → Below B w9 F := by
  have h1 : BxC (W1.setCell ⟨lb, 0, none⟩ (.slice none 0 0)) lb #[.slice none 0 0] := by simpa using (hl.bl hb).set1 0 (by simp) (.slice none 0 0)
  have hot : ∀ b, b ≠ lb → (W1.setCell ⟨lb, 0, none⟩ (.slice none 0 0)).heap[b]? = W1.heap[b]? := fun b h => Below.heap_setCell _ _ _ _ h; have h2 : BxC (W1.setCell ⟨lb, 0, none⟩ (.slice none 0 0)) mb #[.int .i64 y0, .int .i64 y1] := (hm.bl hb).keep (hot mb (Ne.symm hne)) (by simp [World.setCell]); have h3 : BxC (((W1.setCell ⟨lb, 0, none⟩ (.slice none 0 0)).setCell ⟨mb, 0, none⟩ (.int .i64 (c : Nat))).setCell ⟨mb, 1, none⟩ (.int .i64 (q : Nat))) mb #[.int .i64 (c : Nat), .int .i64 (q : Nat)] := by simpa using (h2.set1 0 (by simp) (.int .i64 (c : Nat))).set1 1 (by simp) (.int .i64 (q : Nat))
  refine ⟨_, rfl, ?_, h3.2.2 0 (show 0 < 2 by omega), h3.2.2 1 (show 1 < 2 by omega), fun B b1 b2 _ b3 => (((hb.mono b3).setCell (p := ⟨lb, 0, none⟩) b1 _).setCell (p := ⟨mb, 0, none⟩) b2 _).setCell (p := ⟨mb, 1, none⟩) b2 _⟩; have e1 := Below.heap_setCell ((W1.setCell ⟨lb, 0, none⟩ (.slice none 0 0)).setCell ⟨mb, 0, none⟩ (.int .i64 (c : Nat))) ⟨mb, 1, none⟩ (.int .i64 (q : Nat)) lb hne; have e2 := Below.heap_setCell (W1.setCell ⟨lb, 0, none⟩ (.slice none 0 0)) ⟨mb, 0, none⟩ (.int .i64 (c : Nat)) lb hne; exact (World.cell?_of_block (w := W1.setCell ⟨lb, 0, none⟩ (.slice none 0 0)) (a := ⟨lb, 0, none⟩) (e1.trans e2)).trans (h1.2.2 0 (show 0 < 1 by omega))
theorem three_set {wB FW : World} {lb mb : Nat} {x0 x : Value} {z0 z1 y0 y1 : Int} (hl : BxC wB lb #[x0]) (hm : BxC wB mb #[.int .i64 z0, .int .i64 z1]) (hne : lb ≠ mb) (hF : ((wB.setCell ⟨lb, 0, none⟩ x).setCell ⟨mb, 0, none⟩ (.int .i64 y0)).setCell ⟨mb, 1, none⟩ (.int .i64 y1) = FW) :
    FW.cell? ⟨lb, 0, none⟩ = some x ∧ FW.cell? ⟨mb, 0, none⟩ = some (.int .i64 y0) ∧ FW.cell? ⟨mb, 1, none⟩ = some (.int .i64 y1) ∧ ∀ B, B ≤ lb → B ≤ mb → Below B wB FW := by
  subst hF; have h1 : BxC (wB.setCell ⟨lb, 0, none⟩ x) lb #[x] := by simpa using hl.set1 0 (by simp) x
  have hot : ∀ b, b ≠ lb → (wB.setCell ⟨lb, 0, none⟩ x).heap[b]? = wB.heap[b]? := fun b h => Below.heap_setCell _ _ _ _ h; have h2 : BxC (wB.setCell ⟨lb, 0, none⟩ x) mb #[.int .i64 z0, .int .i64 z1] := hm.keep (hot mb (Ne.symm hne)) (by simp [World.setCell]); have h3 : BxC (((wB.setCell ⟨lb, 0, none⟩ x).setCell ⟨mb, 0, none⟩ (.int .i64 y0)).setCell ⟨mb, 1, none⟩ (.int .i64 y1)) mb #[.int .i64 y0, .int .i64 y1] := by simpa using (h2.set1 0 (by simp) (.int .i64 y0)).set1 1 (by simp) (.int .i64 y1)
  refine ⟨?_, h3.2.2 0 (show 0 < 2 by omega), h3.2.2 1 (show 1 < 2 by omega), fun B b1 b2 => (((Below.refl B wB).setCell (p := ⟨lb, 0, none⟩) b1 _).setCell (p := ⟨mb, 0, none⟩) b2 _).setCell (p := ⟨mb, 1, none⟩) b2 _⟩; have e1 := Below.heap_setCell ((wB.setCell ⟨lb, 0, none⟩ x).setCell ⟨mb, 0, none⟩ (.int .i64 y0)) ⟨mb, 1, none⟩ (.int .i64 y1) lb hne; have e2 := Below.heap_setCell (wB.setCell ⟨lb, 0, none⟩ x) ⟨mb, 0, none⟩ (.int .i64 y0) lb hne; exact (World.cell?_of_block (w := wB.setCell ⟨lb, 0, none⟩ x) (a := ⟨lb, 0, none⟩) (e1.trans e2)).trans (h1.2.2 0 (show 0 < 1 by omega))
def Sm (w w' : World) : Prop := w'.heap.size = w.heap.size ∧ ∀ p v, w.cell? p = some v → w'.cell? p = some v
theorem Sm.refl (w : World) : Sm w w := ⟨rfl, fun _ _ h => h⟩
theorem Sm.drew {w w' : World} (h : Sm w w') : Sm w w'.drew := h
theorem Sm.drewN {w w' : World} (h : Sm w w') (n : Nat) : Sm w (w'.drewN n) := h
theorem Sm.set {w w' : World} (h : Sm w w') {p : Addr} {v : Value} (hp : w.cell? p = some v) : Sm w (w'.setCell p v) := by
  refine ⟨by simpa [World.setCell] using h.1, fun q x hq => ?_⟩
  by_cases e : q = p
  · subst e; rw [hp] at hq; cases hq; exact World.cell?_setCell_same _ _ _ (h.2 _ _ hp)
  · rw [World.cell?_setCell_other _ _ _ _ (by first | exact e | exact fun h => e h.symm)]; exact h.2 q x hq
theorem same_end {w wB FW : World} {F : Nat → Prop} {l : List Nd} {v : Value} {lb mb : Nat} {x : Value} {y0 y1 : Int} {Q : World → Prop} (hs : IsSl wB F l v) (hF : ∀ b, F b → b < wB.heap.size) (hbx : Below w.heap.size w wB) (sm : Sm wB FW) (hb : Below w.heap.size wB FW) (l0 : wB.cell? ⟨lb, 0, none⟩ = some x) (m0 : wB.cell? ⟨mb, 0, none⟩ = some (.int .i64 y0)) (m1 : wB.cell? ⟨mb, 1, none⟩ = some (.int .i64 y1))
    (k : ∀ W, W.cell? ⟨lb, 0, none⟩ = some x → W.cell? ⟨mb, 0, none⟩ = some (.int .i64 y0) → W.cell? ⟨mb, 1, none⟩ = some (.int .i64 y1) → Below w.heap.size w W → IsSl W F l v ∧ (∀ b, F b → b < W.heap.size) → Q W) : Q FW := by
  refine k FW (sm.2 _ _ l0) (sm.2 _ _ m0) (sm.2 _ _ m1) (hbx.trans hb) ⟨?_, fun b hb => by rw [sm.1]; exact hF b hb⟩; obtain ⟨a, c, e, hr⟩ := hs; exact ⟨a, c, e, hr.keep (fun _ h => h) (fun b off x _ hc => sm.2 _ _ hc)⟩
def PrsP (w : World) (r : Except (Nat × Nat) (List Nd)) (d : Nat) (e : Ending) (w' : World) : Prop :=
  Below w.heap.size w w' ∧ match r with
    | .error (c, q) => e = .returned (.tuple #[.slice none 0 0, .agg #[.int .i64 (c : Nat), .int .i64 (q : Nat)]])
    | .ok l => if 200 < d then e = .returned (.tuple #[.slice none 0 0, .agg #[.int .i64 3, .int .i64 0]]) else ∃ v F, e = .returned (.tuple #[v, .agg #[.int .i64 0, .int .i64 0]]) ∧ IsSl w' F l v ∧ ∀ b, F b → b < w'.heap.size
theorem parse_any (tx : ByteArray) (ts : List Tok) (w : World) (hW : WOk w) (hwd : WdOk tx ts) (N d : Nat) (hN : N ≤ 1000000) (r : Except (Nat × Nat) (List Nd)) (hp : parseP ⟨ts, tx.size⟩ (fsR ⟨ts, tx.size⟩ N) = some r) (hd : ∀ l, r = .ok l → GdL l ∧ ∃ k, deL (depD k) l 0 = some d) (hd9 : d ≤ 1000000000) (hq : ∀ l s1, (fsR ⟨ts, tx.size⟩ N).decs true ⟨0, begin0⟩ = some (.ok (l, s1)) → ¬ s1.i < ts.length)
    (htok : ∀ w', Below w.heap.size w w' → Calls Tryz.prog 9 #[.string tx] w' fun e w2 => Below w'.heap.size w' w2 ∧ ∃ la lc, e = .returned (.tuple #[.slice la ts.length lc, .agg #[.int .i64 0, .int .i64 0]]) ∧ Toks w2 la ts.length lc ts ∧ New w2 w'.heap.size la (lc * 7)) :
    Calls Tryz.prog 6 #[.string tx] w fun e w' => PrsP w r d e w' := by
  have hmf : ∀ (fn : Fn) (first cap : Array Value) (w : World), (Instr.makeFunc fn first cap).run Tryz.prog w = .ok (.func fn first cap) w := fun _ _ _ _ => rfl; have HW := hid hW; have HTK := hid htok; have HWD := hid hwd; have HPP := hid (parseP_cases hp); have HDD := hid hd; have HD9 := hid hd9; have HN := hid hN; have HQ := hid hq; clear hp hd hd9 hN hq; have hs2 : ((w.alloc (.cells #[.slice none 0 0] 23)).alloc (.cells #[.int .i64 0, .int .i64 0] 26)).heap.size = w.heap.size + 2 := by simp
  have HB1 : Hid (Below w.heap.size w ((w.alloc (.cells #[.slice none 0 0] 23)).alloc (.cells #[.int .i64 0, .int .i64 0] 26))) := hid ((below_alloc w _).trans ((below_alloc _ _).mono (below_alloc w _).size)); have HL1 : Hid (BxC ((w.alloc (.cells #[.slice none 0 0] 23)).alloc (.cells #[.int .i64 0, .int .i64 0] 26)) w.heap.size #[.slice none 0 0]) := hid ((BxC.new w _ 23).bl (below_alloc _ _)); have HM1 : Hid (BxC ((w.alloc (.cells #[.slice none 0 0] 23)).alloc (.cells #[.int .i64 0, .int .i64 0] 26)) (w.heap.size + 1) #[.int .i64 0, .int .i64 0]) := hid (BxC.new' _ _ _ 26 (by simp)); have HS2 := hid hs2
  have HNC1 : Hid (∀ j, 1 ≤ j → ((w.alloc (.cells #[.slice none 0 0] 23)).alloc (.cells #[.int .i64 0, .int .i64 0] 26)).cell? ⟨w.heap.size, j, none⟩ = none) := hid (fun j hj => by
    have e : ((w.alloc (.cells #[.slice none 0 0] 23)).alloc (.cells #[.int .i64 0, .int .i64 0] 26)).cell? ⟨w.heap.size, j, none⟩ = (w.alloc (.cells #[.slice none 0 0] 23)).cell? ⟨w.heap.size, j, none⟩ := (below_alloc (w.alloc (.cells #[.slice none 0 0] 23)) (.cells #[.int .i64 0, .int .i64 0] 26)).cell (p := ⟨w.heap.size, j, none⟩) (by show w.heap.size < _; simp); rw [e, World.cell?_alloc_new]; obtain ⟨k, rfl⟩ : ∃ k, j = k + 1 := ⟨j - 1, by omega⟩
    rfl)
  clear hW htok hwd hs2
  go_enter_defers Tryz.func6, Tryz.ntmps6
  go_upto_region 2 with (go_at_call 9; refine (HTK.out _ HB1.out).mono ?_; rintro e w1 ⟨hb, la, lc, rfl, htk, hnew⟩; have HT := hid (And.intro hb (And.intro htk hnew)); have HL2 := hid (HL1.out.bl hb); have HM2 := hid (HM1.out.bl hb); obtain ⟨m0, m1⟩ := bx2 HM2.out.2.2; have mf := HM2.out.2.1; clear hb htk hnew)
  have HBW : Hid (Below w.heap.size w ((w1.setCell ⟨w.heap.size + 1, 0, none⟩ (.int .i64 0)).setCell ⟨w.heap.size + 1, 1, none⟩ (.int .i64 0))) := hid (by
    have h := HB1.out.trans (HT.out.1.mono HB1.out.size)
    exact (h.setCell (p := ⟨w.heap.size + 1, 0, none⟩) (Nat.le_succ _) _).setCell (p := ⟨w.heap.size + 1, 1, none⟩) (Nat.le_succ _) _)
  have HTK2 : Hid (Toks ((w1.setCell ⟨w.heap.size + 1, 0, none⟩ (.int .i64 0)).setCell ⟨w.heap.size + 1, 1, none⟩ (.int .i64 0)) la ts.length lc ts) := hid (by
    have hx : lc ≠ 0 → ∀ x off, la = some ⟨x, off, none⟩ → w.heap.size + 1 ≠ x := fun h0 x off e => by
      subst e; obtain ⟨b, o, e, hb, _⟩ := HT.out.2.2 0 (by omega); cases e; have := HS2.out; omega
    refine Toks.other' (Toks.other' HT.out.2.1 (p := ⟨w.heap.size + 1, 0, none⟩) m0 (fun _ h => by cases h) hx (.int .i64 0)) (p := ⟨w.heap.size + 1, 1, none⟩) (v := .int .i64 0) ?_ (fun _ h => by cases h) hx _; rw [World.cell?_setCell_other _ _ _ _ (by intro h; simp at h)]
    exact m1)
  have HOT2 : ∀ b, b ≠ w.heap.size + 1 → ((w1.setCell ⟨w.heap.size + 1, 0, none⟩ (.int .i64 0)).setCell ⟨w.heap.size + 1, 1, none⟩ (.int .i64 0)).heap[b]? = w1.heap[b]? := fun b hb => (Below.heap_setCell _ _ _ _ hb).trans (Below.heap_setCell _ _ _ _ hb); have hlb1 : w.heap.size < ((w.alloc (.cells #[.slice none 0 0] 23)).alloc (.cells #[.int .i64 0, .int .i64 0] 26)).heap.size := by rw [HS2.out]; omega
  have HL3 : Hid (BxC ((w1.setCell ⟨w.heap.size + 1, 0, none⟩ (.int .i64 0)).setCell ⟨w.heap.size + 1, 1, none⟩ (.int .i64 0)) w.heap.size #[.slice none 0 0]) := hid (HL2.out.keep (HOT2 _ (by omega)) (by simp [World.setCell])); have HNC2 : Hid (∀ j, 1 ≤ j → ((w1.setCell ⟨w.heap.size + 1, 0, none⟩ (.int .i64 0)).setCell ⟨w.heap.size + 1, 1, none⟩ (.int .i64 0)).cell? ⟨w.heap.size, j, none⟩ = none) := hid (fun j hj => ((World.cell?_of_block (w := w1) (a := ⟨w.heap.size, j, none⟩) (HOT2 _ (by show ¬ w.heap.size = w.heap.size + 1; omega))).trans (HT.out.1.cell (p := ⟨w.heap.size, j, none⟩) hlb1)).trans (HNC1.out j hj)); clear HOT2 hlb1; have HM3 : Hid (BxC ((w1.setCell ⟨w.heap.size + 1, 0, none⟩ (.int .i64 0)).setCell ⟨w.heap.size + 1, 1, none⟩ (.int .i64 0)) (w.heap.size + 1) #[.int .i64 0, .int .i64 0]) := hid (by simpa using (HM2.out.set1 0 (by simp) (.int .i64 0)).set1 1 (by simp) (.int .i64 0)); clear m0 m1 mf HL2 HM2 HT HL1 HM1; generalize (w1.setCell ⟨w.heap.size + 1, 0, none⟩ (.int .i64 0)).setCell ⟨w.heap.size + 1, 1, none⟩ (.int .i64 0) = W2 at HBW HTK2 HL3 HM3 HNC2 ⊢; have m0 : W2.cell? ⟨w.heap.size + 1, 0, none⟩ = some (.int .i64 0) := HM3.out.2.2 0 (show 0 < 2 by omega)
  go_upto_region 6 with (go_at_call 11; refine (begin_any W2 (fun w' hb => HW.out.sp w' (HBW.out.trans (hb.mono HBW.out.size)))).mono ?_; rintro e w5 ⟨na, nc, fa, fc, rfl, hb5, hsc, hln, hlf, hnf⟩; have HPS := hid (ps_start HBW.out HW.out HWD.out HTK2.out hb5 hsc hln hlf hnf); have HL5 := hid (HL3.out.bl hb5); have HM5 := hid (HM3.out.bl hb5); have HB5 := hid hb5; clear hb5 hsc hln hlf hnf)
  have HL6 := hid (HL5.out.bl (below_alloc w5 (.cells #[.slice la ts.length lc, .int .i64 0, .int .i64 (tx.size : Nat), .slice na 17 nc, .slice fa 17 fc] 55))); have HM6 := hid (HM5.out.bl (below_alloc w5 (.cells #[.slice la ts.length lc, .int .i64 0, .int .i64 (tx.size : Nat), .slice na 17 nc, .slice fa 17 fc] 55)))
  have HNC6 : Hid (∀ j, 1 ≤ j → (w5.alloc (.cells #[.slice la ts.length lc, .int .i64 0, .int .i64 (tx.size : Nat), .slice na 17 nc, .slice fa 17 fc] 55)).cell? ⟨w.heap.size, j, none⟩ = none) := hid (fun j hj => by
    have h3 := HL3.out.1; have h5 := HB5.out.size
    exact (((below_alloc w5 (.cells #[.slice la ts.length lc, .int .i64 0, .int .i64 (tx.size : Nat), .slice na 17 nc, .slice fa 17 fc] 55)).cell (p := ⟨w.heap.size, j, none⟩) (by show w.heap.size < _; omega)).trans (HB5.out.cell (p := ⟨w.heap.size, j, none⟩) h3)).trans (HNC2.out j hj))
  have HDC := hid ((all_ok HPS.out.1 N HN.out).decs true); have HB6 : Hid (Below w.heap.size w (w5.alloc (.cells #[.slice la ts.length lc, .int .i64 0, .int .i64 (tx.size : Nat), .slice na 17 nc, .slice fa 17 fc] 55))) := hid (HBW.out.trans ((HB5.out.trans ((below_alloc w5 _).mono HB5.out.size)).mono HBW.out.size)); have HLT : Hid (w.heap.size + 1 < W2.heap.size) := hid HM3.out.1; clear m0 HTK2 HL3 HM3 HL5 HM5; obtain ⟨bp, hbp⟩ : ∃ bp, w5.heap.size = bp := ⟨_, rfl⟩; rw [hbp] at HPS HDC ⊢; generalize w5.alloc (.cells #[.slice la ts.length lc, .int .i64 0, .int .i64 (tx.size : Nat), .slice na 17 nc, .slice fa 17 fc] 55) = W6 at HPS HL6 HM6 HB6 HNC6 ⊢; clear hbp HB5
  rcases HPP.out with ⟨c, q, h1, rfl⟩ | ⟨l, s1, h1, hr⟩
  · have H1 := hid h1; clear h1
    go_wp2_with (go_at_call 12; refine (HDC.out _ na nc fa fc _ _ _ HPS.out.2 H1.out).mono ?_; rintro e w9 ⟨hk, rfl⟩; have HK9 := hid hk; have HBF := hid (HB6.out.trans (hk.bel.mono (by show w.heap.size ≤ W2.heap.size; exact HBW.out.size))); clear hk; unfold thrown)
    have hB6 := HB6.out; have hBs := HBW.out.size; have hlt := HLT.out; have HL9 : BxC w9 w.heap.size #[.slice none 0 0] := HL6.out.keep (HK9.out.bel.block _ (by show w.heap.size < W2.heap.size; omega)) HK9.out.size; have HM9 : BxC w9 (w.heap.size + 1) #[.int .i64 0, .int .i64 0] := HM6.out.keep (HK9.out.bel.block _ (by show w.heap.size + 1 < W2.heap.size; omega)) HK9.out.size; refine leaves_cons (f := 10) (args := #[.pointer (some ⟨w.heap.size, 0, none⟩), .pointer (some ⟨w.heap.size + 1, 0, none⟩)]) (by simp) (by simp [go_sem]) ?_; refine (catch_mishap w.heap.size (w.heap.size + 1) c q _ 0 0 [] w9 (HL9.2.2 0 (show 0 < 1 by omega)) (HM9.2.2 0 (show 0 < 2 by omega)) (HM9.2.2 1 (show 1 < 2 by omega)) HL9.2.1 HM9.2.1 (by omega)).mono ?_; rintro e u' w'' ⟨rfl, rfl, W1, hbw, rfl⟩; obtain ⟨FW, hF, r0, r1, r2, hbl⟩ := caught (c := c) (q := q) HL9 HM9 (by omega) hbw; rw [← hF]; have hfin : Below w.heap.size w FW := HBF.out.trans (hbl w.heap.size (Nat.le_refl _) (Nat.le_succ _) (Below.refl _ _) HBF.out.size); clear hF hbl hbw HL9 HM9; simp [Leaves, settle, results, Tryz.results6, go_sem, r0, r1, r2]; exact ⟨hfin, rfl⟩
  · have hni := HQ.out l s1 h1
    obtain rfl : r = .ok l := by
      rcases hr with ⟨q, _⟩ | ⟨_, q⟩
      · exact absurd q hni
      · exact q
    have H1 := hid h1; have HNI : Hid (¬ (s1.i : Int) < (ts.length : Int)) := hid (by omega); obtain ⟨hgd, kd, hdp⟩ := HDD.out l rfl; have HGD := hid hgd; have HDP := hid hdp; clear h1 hr hni hgd hdp HDD HQ HPP
    go_upto_region 7 with (go_at_call 12; refine (HDC.out _ na nc fa fc _ _ _ HPS.out.2 H1.out).mono ?_; rintro e w9 ⟨hk, hsc, hi, hP9, v, rfl, a, c, rfl, hrt⟩; have HK9 := hid hk; have HBF := hid (HB6.out.trans (hk.bel.mono (by show w.heap.size ≤ W2.heap.size; exact HBW.out.size))); have HP9 := hid hP9; have HRT := hid hrt; have HL9 : Hid (BxC w9 w.heap.size #[.slice none 0 0]) := hid (HL6.out.keep (hk.bel.block _ (by have := HLT.out; show w.heap.size < W2.heap.size; omega)) hk.size); have HM9 : Hid (BxC w9 (w.heap.size + 1) #[.int .i64 0, .int .i64 0]) := hid (HM6.out.keep (hk.bel.block _ (by have := HLT.out; show w.heap.size + 1 < W2.heap.size; omega)) hk.size); have l0 : w9.cell? ⟨w.heap.size, 0, none⟩ = some (.slice none 0 0) := HL9.out.2.2 0 (show 0 < 1 by omega); have lf := HL9.out.2.1; clear hk hsc hi hP9 hrt)
    have hlt := HLT.out; have hb2 : W2.heap.size ≤ bp := HPS.out.1.bpl; have HNC9 : ∀ j, 1 ≤ j → w9.cell? ⟨w.heap.size, j, none⟩ = none := fun j hj => (World.cell?_of_block (w := W6) (a := ⟨w.heap.size, j, none⟩) (HK9.out.bel.block _ (by show w.heap.size < W2.heap.size; omega))).trans (HNC6.out j hj); have HSL := hid (IsSl.avoid ⟨_, _, _, l0⟩ HNC9 HGD.out ⟨a, c, rfl, HRT.out⟩ (.slice a l.length c)); have hot : ∀ b, b ≠ w.heap.size → (w9.setCell ⟨w.heap.size, 0, none⟩ (.slice a l.length c)).heap[b]? = w9.heap[b]? := fun b hb => Below.heap_setCell _ _ _ _ hb; have hsz : (w9.setCell ⟨w.heap.size, 0, none⟩ (.slice a l.length c)).heap.size = w9.heap.size := by simp [World.setCell]
    have HLA : Hid (BxC (w9.setCell ⟨w.heap.size, 0, none⟩ (.slice a l.length c)) w.heap.size #[.slice a l.length c]) := hid (by simpa using HL9.out.set1 0 (by simp) (.slice a l.length c)); have HMA : Hid (BxC (w9.setCell ⟨w.heap.size, 0, none⟩ (.slice a l.length c)) (w.heap.size + 1) #[.int .i64 0, .int .i64 0]) := hid (HM9.out.keep (hot _ (by omega)) (by omega)); have c0 : (w9.setCell ⟨w.heap.size, 0, none⟩ (.slice a l.length c)).cell? ⟨bp, 0, none⟩ = some (.slice la ts.length lc) := (World.cell?_of_block (w := w9) (a := ⟨bp, 0, none⟩) (hot bp (by omega))).trans HP9.out.c0; have c1 : (w9.setCell ⟨w.heap.size, 0, none⟩ (.slice a l.length c)).cell? ⟨bp, 1, none⟩ = some (.int .i64 (s1.i : Nat)) := (World.cell?_of_block (w := w9) (a := ⟨bp, 1, none⟩) (hot bp (by omega))).trans HP9.out.c1; have HBA : Hid (Below w.heap.size w (w9.setCell ⟨w.heap.size, 0, none⟩ (.slice a l.length c))) := hid (HBF.out.setCell (p := ⟨w.heap.size, 0, none⟩) (Nat.le_refl _) _); have HFB : Hid (∀ b, (Own W2.heap.size W6.heap.size w9.heap.size No b ∧ b ≠ w.heap.size) → b < (w9.setCell ⟨w.heap.size, 0, none⟩ (.slice a l.length c)).heap.size) := hid (fun b hb => by rw [hsz]; have h6 := HK9.out.size; have h7 : W2.heap.size ≤ W6.heap.size := HPS.out.2.bB; rcases hb.1 with q | q; (have : b < W2.heap.size := q; omega); exact q.2.1)
    clear l0 lf hot hsz HNC9; generalize w9.setCell ⟨w.heap.size, 0, none⟩ (.slice a l.length c) = WA at HSL HLA HMA c0 c1 HBA HFB ⊢; have hni := HNI.out; have l0 : WA.cell? ⟨w.heap.size, 0, none⟩ = some (.slice a l.length c) := HLA.out.2.2 0 (show 0 < 1 by omega); have lf := HLA.out.2.1; obtain ⟨m0, m1⟩ := bx2 HMA.out.2.2; have mf := HMA.out.2.1
    by_cases hdd : 200 < d
    · have hgt : (200 : Int) < (d : Int) := by omega
      go_quiet (fail)
      go_wp2_with (go_at_call 14; refine (deep_Dec (depD kd) 15 (fun _ _ => rfl) (fun _ _ h => depD_wid h) depD_is (dep_dec kd) (WA.drewN _) _ l _ d (HSL.out.on (fun _ _ => rfl) (fun _ h => h)) (fun b hb => HFB.out b hb) HDP.out HD9.out).mono ?_; rintro e wB ⟨rfl, hb⟩; have HBB : Hid (Below WA.heap.size WA wB) := hid ((Below.drewN (Below.refl _ WA) _).trans hb); have HLB := hid (HLA.out.bl HBB.out); have HMB := hid (HMA.out.bl HBB.out); have l0 : wB.cell? ⟨w.heap.size, 0, none⟩ = some (.slice a l.length c) := HLB.out.2.2 0 (show 0 < 1 by omega); have lf := HLB.out.2.1; obtain ⟨m0, m1⟩ := bx2 HMB.out.2.2; have mf := HMB.out.2.1; clear hb)
      obtain ⟨FW, hFW⟩ : ∃ FW, ((wB.setCell ⟨w.heap.size, 0, none⟩ (.slice none 0 0)).setCell ⟨w.heap.size + 1, 0, none⟩ (.int .i64 3)).setCell ⟨w.heap.size + 1, 1, none⟩ (.int .i64 0) = FW := ⟨_, rfl⟩; obtain ⟨r0, r1, r2, hbl⟩ := three_set (x := .slice none 0 0) (y0 := 3) (y1 := 0) HLB.out HMB.out (by omega) hFW; have hfin : Below w.heap.size w FW := (HBA.out.trans (HBB.out.mono HBA.out.size)).trans (hbl w.heap.size (Nat.le_refl _) (Nat.le_succ _)); rw [hFW]; clear hFW hbl; refine leaves_cons (f := 10) (args := #[.pointer (some ⟨w.heap.size, 0, none⟩), .pointer (some ⟨w.heap.size + 1, 0, none⟩)]) (by simp) (by simp [go_sem]) ?_; refine (catch_idle ⟨w.heap.size, 0, none⟩ ⟨w.heap.size + 1, 0, none⟩ _).mono ?_; rintro e u' w'' ⟨rfl, rfl, rfl⟩; simp [Leaves, settle, results, Tryz.results6, go_sem, r0, r1, r2]; exact ⟨hfin, by simp only [if_pos hdd]⟩
    · have hgt : ¬ (200 : Int) < (d : Int) := by omega
      go_quiet (fail)
      go_wp2_with (go_at_call 14; refine (deep_Dec (depD kd) 15 (fun _ _ => rfl) (fun _ _ h => depD_wid h) depD_is (dep_dec kd) (WA.drewN _) _ l _ d (HSL.out.on (fun _ _ => rfl) (fun _ h => h)) (fun b hb => HFB.out b hb) HDP.out HD9.out).mono ?_; rintro e wB ⟨rfl, hb⟩; have HBB : Hid (Below WA.heap.size WA wB) := hid ((Below.drewN (Below.refl _ WA) _).trans hb); have HLB := hid (HLA.out.bl HBB.out); have HMB := hid (HMA.out.bl HBB.out); have l0 : wB.cell? ⟨w.heap.size, 0, none⟩ = some (.slice a l.length c) := HLB.out.2.2 0 (show 0 < 1 by omega); have lf := HLB.out.2.1; obtain ⟨m0, m1⟩ := bx2 HMB.out.2.2; have mf := HMB.out.2.1; clear hb)
      have HSB := hid (HSL.out.on (w' := wB) (fun b hb => HBB.out.block b (HFB.out b hb)) (fun _ h => h)); have HFB2 := hid (fun b hb => Nat.lt_of_lt_of_le (HFB.out b hb) HBB.out.size)
      go_region
      all_goals (first | go_wp2_with fail | skip)
      all_goals
        refine same_end HSB.out HFB2.out (hbx := HBA.out.trans (HBB.out.mono HBA.out.size)) ?_ ?_ l0 m0 m1 (fun FW r0 r1 r2 hfin hsl => ?_)
        · repeat (with_reducible first | refine Sm.drew ?_ | refine Sm.drewN ?_ _ | refine Sm.set ?_ m0 | refine Sm.set ?_ m1 | refine Sm.set ?_ l0 | exact Sm.refl _)
        · repeat (with_reducible first | refine bl_set ?_ (Nat.le_refl _) | refine bl_set ?_ (Nat.le_succ _) | refine Below.drew ?_ | refine Below.drewN ?_ _ | exact Below.refl _ _)
        refine leaves_cons (f := 10) (args := #[.pointer (some ⟨w.heap.size, 0, none⟩), .pointer (some ⟨w.heap.size + 1, 0, none⟩)]) (by simp) (by simp [go_sem]) ?_; refine (catch_idle ⟨w.heap.size, 0, none⟩ ⟨w.heap.size + 1, 0, none⟩ _).mono ?_; rintro e u' w'' ⟨rfl, rfl, rfl⟩; simp [Leaves, settle, results, Tryz.results6, go_sem, r0, r1, r2]; exact ⟨hfin, by simp only [if_neg hdd]; exact ⟨_, _, rfl, hsl⟩⟩
def tokB (a b : Tok) : Bool := a.kind == b.kind && a.text == b.text && decide (a.num = b.num) && a.bits == b.bits && a.n == b.n && a.pos == b.pos
theorem tokB_eq {a b : Tok} (h : tokB a b = true) : a = b := by
  unfold tokB at h; simp only [Bool.and_eq_true, beq_iff_eq, decide_eq_true_eq] at h; cases a; cases b
  simp_all
def tokL : List Tok → List Tok → Bool
  | [], [] => true
  | a :: l, b :: r => tokB a b && tokL l r
  | _, _ => false
theorem tokL_eq : ∀ {l r : List Tok}, tokL l r = true → l = r
  | [], [], _ => rfl
  | a :: l, b :: r, h => by
    unfold tokL at h; rw [Bool.and_eq_true] at h; rw [tokB_eq h.1, tokL_eq h.2]
  | [], _ :: _, h => by cases h
  | _ :: _, [], h => by cases h
def F0 (_ : List UInt8) : Nat := 0
section
variable {s : ByteArray} {i : Nat} {R : List UInt8}
def At (s : ByteArray) (i : Nat) (R : List UInt8) : Prop := s.data.toList.drop i = R
theorem At.lt {c : UInt8} (h : At s i (c :: R)) : i < s.size := by
  rw [Lib.size_eq]
  rcases Nat.lt_or_ge i s.data.toList.length with q | q
  · exact q
  · unfold At at h; rw [List.drop_eq_nil_of_le q] at h; cases h
theorem At.byte {c : UInt8} (h : At s i (c :: R)) : bt s i = c.toNat := by
  have hl := h.lt; rw [Lib.size_eq] at hl; unfold At at h; rw [List.drop_eq_getElem_cons hl] at h; unfold bt; rw [List.getElem?_eq_getElem hl, (List.cons.inj h).1]
  rfl
theorem At.nil (h : At s i []) : s.size ≤ i := by
  rw [Lib.size_eq]; unfold At at h; exact List.drop_eq_nil_iff.mp h
theorem At.next {c : UInt8} (h : At s i (c :: R)) : At s (i + 1) R := by
  unfold At at h ⊢; rw [← List.drop_drop, h]
  rfl
theorem At.part {l R : List UInt8} (h : At s i (l ++ R)) : sub s i (i + l.length) = l := by
  rw [sub_drop, List.drop_take, show i + l.length - i = l.length by omega]; unfold At at h; rw [h, List.take_left]
theorem At.app : ∀ {l : List UInt8} {i : Nat} {R : List UInt8}, At s i (l ++ R) → At s (i + l.length) R
  | [], _, _, h => h
  | c :: l, i, R, h => by
    have := At.app (l := l) h.next; rw [show i + (c :: l).length = i + 1 + l.length by simp; omega]; exact this
theorem At.run {p : Nat → Bool} : ∀ {l : List UInt8} {i : Nat} {R : List UInt8}, At s i (l ++ R) → (∀ c ∈ l, p c.toNat = true) → (∀ c r, R = c :: r → p c.toNat = false) → runE p s i = i + l.length
  | [], i, R, h, _, h2 => by
    refine runE_stop ?_; rintro ⟨q, r⟩; cases R with
    | nil => have := At.nil h; omega
    | cons c R =>
      rw [At.byte (R := R) h, h2 c R rfl] at r; cases r
  | c :: l, i, R, h, h1, h2 => by
    have h : At s i (c :: (l ++ R)) := h; rw [runE_step h.lt (by rw [h.byte]; exact h1 c (by simp)), At.run (l := l) h.next (fun d hd => h1 d (by simp [hd])) h2]; simp; omega
def hd0 : List UInt8 → Nat
  | [] => 0
  | c :: _ => c.toNat
theorem At.hd (h : At s i R) : bt s i = hd0 R := by
  cases R with
  | nil => exact bt_out h.nil
  | cons c R => exact h.byte
theorem At.noblank {c : UInt8} (h : At s i (c :: R)) (hc : c.toNat ≠ 32 ∧ c.toNat ≠ 9 ∧ c.toNat ≠ 10 ∧ c.toNat ≠ 13) (hr : c.toNat = 40 → hd0 R ≠ 42) : blankE s 0 i = some i := by
  rw [blankE_unfold (Nat.le_of_lt h.lt)]; rw [h.byte, h.next.hd]; rw [if_neg (fun q => hr q.1 q.2), if_neg (fun q => by omega), if_neg (fun q => by omega), if_neg]; rintro (q | ⟨_, q⟩)
  · omega
  · omega
theorem At.skip {F : List UInt8 → Nat} (h : At s i (32 :: R)) (ts : List Tok) : toksE F s i ts = toksE F s (i + 1) ts := by
  have hl := h.lt; rw [toksE_unfold (Nat.le_of_lt hl), toksE_unfold (show i + 1 ≤ s.size by omega), blankE_unfold (Nat.le_of_lt hl), h.byte]; rw [if_neg (fun q => by have := q.1; revert this; decide), if_neg (fun q => by omega), if_neg (fun q => by omega), if_pos (.inr ⟨hl, .inl (by decide)⟩)]
theorem toksE_nil {F : List UInt8 → Nat} {ts : List Tok} (h : At s i []) (hi : i ≤ s.size) : toksE F s i ts = .ok ts := by
  rw [toksE_unfold hi]
  have hb : blankE s 0 i = some i := by
    have := h.nil; rw [blankE_unfold hi, bt_out this]; rw [if_neg (fun q => by omega), if_neg (fun q => by omega), if_neg (fun q => by omega), if_neg]; rintro (q | ⟨q, _⟩) <;> omega
  rw [hb]; unfold afterB; simp only []; rw [if_pos h.nil]
def Steps (F : List UInt8 → Nat) (s : ByteArray) (i j : Nat) (ws : List (Nat × List UInt8)) : Prop :=
  ∃ us : List Tok, us.map (fun t => (t.kind, t.text)) = ws ∧ (∀ u ∈ us, u.pos ≤ s.size) ∧ ∀ ts, toksE F s i ts = toksE F s j (ts ++ us)
variable {F : List UInt8 → Nat}
theorem Steps.refl : Steps F s i i [] := ⟨[], rfl, fun u h => (by cases h), fun ts => by rw [List.append_nil]⟩
theorem Steps.trans {j k : Nat} {w1 w2 : List (Nat × List UInt8)} (h1 : Steps F s i j w1) (h2 : Steps F s j k w2) : Steps F s i k (w1 ++ w2) := by
  obtain ⟨u1, e1, p1, t1⟩ := h1; obtain ⟨u2, e2, p2, t2⟩ := h2; refine ⟨u1 ++ u2, by rw [List.map_append, e1, e2], fun u hu => ?_, fun ts => by rw [t1, t2, List.append_assoc]⟩
  rcases List.mem_append.mp hu with q | q
  · exact p1 u q
  · exact p2 u q
theorem Steps.one {k n : Nat} {t : Tok} (hi : i ≤ s.size) (hb : blankE s 0 i = some k) (hk : k < s.size) (hw : wordS F s k = .ok (t, n)) (hp : t.pos ≤ s.size) : Steps F s i n [(t.kind, t.text)] := by
  refine ⟨[t], rfl, fun u hu => ?_, fun ts => ?_⟩
  · rw [List.mem_singleton] at hu; subst hu; exact hp
  · rw [toksE_unfold hi, hb]; unfold afterB; simp only []; rw [if_neg (by omega), hw]
theorem At.name {l R : List UInt8} {c : UInt8} (h : At s i (c :: l ++ R)) (hc : isLet c.toNat = true) (hl : ∀ x ∈ c :: l, isNam x.toNat = true) (h2 : ∀ c r, R = c :: r → isNam c.toNat = false) (h46 : hd0 R ≠ 46) (hr : rsv (c :: l) = false) (hn : l.length < 64) :
    wordS F s i = .ok (⟨1, c :: l, 0, 0, 0, i⟩, i + (l.length + 1)) := by
  have hrun := At.run (p := isNam) h hl h2; have hsub := h.part; have hlen : (c :: l).length = l.length + 1 := rfl; rw [hlen] at hrun hsub; have hbt : bt s i = c.toNat := At.byte (R := l ++ R) h; have hat : At s (i + (l.length + 1)) R := h.app; unfold wordS; simp only []; rw [hbt, if_pos hc]; unfold nameS; rw [hrun, hsub, if_neg (by rw [hr]; decide)]; cases hm : s.size - (i + (l.length + 1)) with
  | zero => unfold longS shortS; rw [if_neg (by omega), hsub]
  | succ m =>
    unfold longS; rw [if_neg (fun q => h46 (by rw [← hat.hd]; exact q.1))]; unfold shortS; rw [if_neg (by omega), hsub]
theorem At.rname {l R : List UInt8} {c : UInt8} (h : At s i (c :: l ++ R)) (hc : isLet c.toNat = true) (hl : ∀ x ∈ c :: l, isNam x.toNat = true) (h2 : ∀ c r, R = c :: r → isNam c.toNat = false) (hr : rsv (c :: l) = true) :
    wordS F s i = .ok (⟨8, c :: l, 0, 0, 0, i⟩, i + (l.length + 1)) := by
  have hrun := At.run (p := isNam) h hl h2; have hsub := h.part; have hlen : (c :: l).length = l.length + 1 := rfl; rw [hlen] at hrun hsub; have hbt : bt s i = c.toNat := At.byte (R := l ++ R) h; unfold wordS; simp only []; rw [hbt, if_pos hc]; unfold nameS; rw [hrun, hsub, if_pos hr]
theorem At.one {R : List UInt8} {c : UInt8} (h : At s i (c :: R)) (h1 : isLet c.toNat = false) (h2 : isDig c.toNat = false) (h3 : c.toNat ≠ 126 ∧ c.toNat ≠ 34 ∧ c.toNat ≠ 35 ∧ c.toNat ≠ 39) (h4 : isOne c.toNat = true) :
    wordS F s i = .ok (⟨8, [c], 0, 0, 0, i⟩, i + 1) := by
  have hsub : sub s i (i + 1) = [c] := At.part (l := [c]) h; have hbt := h.byte; unfold wordS; simp only []; rw [hbt, if_neg (by rw [h1]; decide), if_neg (by rw [h2]; rintro (q | q) <;> simp_all), if_neg h3.2.1, if_neg (fun q => h3.2.2.1 q.1), if_neg h3.2.2.2, if_pos h4, hsub]
theorem Steps.skip (h : At s i (32 :: R)) : Steps F s i (i + 1) [] := ⟨[], rfl, fun u h => (by cases h), fun ts => by rw [List.append_nil, h.skip]⟩
theorem Steps.word {c : UInt8} {n : Nat} {kd : Nat} {l : List UInt8} (h : At s i (c :: R)) (hc : c.toNat ≠ 32 ∧ c.toNat ≠ 9 ∧ c.toNat ≠ 10 ∧ c.toNat ≠ 13) (hr : c.toNat = 40 → hd0 R ≠ 42) (hw : wordS F s i = .ok (⟨kd, l, 0, 0, 0, i⟩, n)) : Steps F s i n [(kd, l)] :=
  Steps.one (t := ⟨kd, l, 0, 0, 0, i⟩) (Nat.le_of_lt h.lt) (h.noblank hc hr) h.lt hw (Nat.le_of_lt h.lt)
def rTx : Nat → List UInt8 → List UInt8
  | 0, R => R
  | n + 1, R => 114 :: 97 :: 105 :: 115 :: 101 :: 32 :: rTx n R
theorem rTx_app : ∀ (n : Nat) (R : List UInt8), rTx n [] ++ R = rTx n R
  | 0, R => rfl
  | n + 1, R => by show 114 :: 97 :: 105 :: 115 :: 101 :: 32 :: (rTx n [] ++ R) = _; rw [rTx_app n R]; rfl
theorem rTx_snoc : ∀ (n : Nat), rTx n [] ++ [114, 97, 105, 115, 101, 32] = rTx (n + 1) []
  | 0 => rfl
  | n + 1 => by show 114 :: 97 :: 105 :: 115 :: 101 :: 32 :: (rTx n [] ++ [114, 97, 105, 115, 101, 32]) = _; rw [rTx_snoc n]; rfl
theorem rTx_len : ∀ (n : Nat) (R : List UInt8), (rTx n R).length = 6 * n + R.length
  | 0, R => by simp [rTx]
  | n + 1, R => by have := rTx_len n R; simp only [rTx, List.length_cons]; omega
theorem Steps.raises : ∀ (n : Nat) {i : Nat} {R : List UInt8}, At s i (rTx n R) → Steps F s i (i + 6 * n) (List.replicate n (8, [114, 97, 105, 115, 101])) ∧ At s (i + 6 * n) R
  | 0, i, R, h => ⟨Steps.refl, h⟩
  | n + 1, i, R, h => by
    have h : At s i (([114, 97, 105, 115, 101] : List UInt8) ++ 32 :: rTx n R) := h; have hw := At.rname (F := F) (c := 114) (l := [97, 105, 115, 101]) h (by decide) (by decide) (fun c r e => by cases e; decide) (by decide); have h5 : At s (i + 5) (32 :: rTx n R) := h.app; obtain ⟨s2, a2⟩ := Steps.raises n h5.next; rw [show i + 6 * (n + 1) = i + 5 + 1 + 6 * n by omega]; exact ⟨((Steps.word (R := ([97, 105, 115, 101] : List UInt8) ++ 32 :: rTx n R) h (by decide) (fun q => absurd q (by decide)) hw).trans (Steps.skip h5)).trans s2, a2⟩
theorem Steps.opens : ∀ (k : Nat) {i : Nat} {R : List UInt8}, At s i (List.replicate k 40 ++ R) → hd0 R ≠ 42 → Steps F s i (i + k) (List.replicate k (8, [40])) ∧ At s (i + k) R
  | 0, i, R, h, _ => ⟨Steps.refl, h⟩
  | k + 1, i, R, h, hR => by
    have h : At s i (40 :: (List.replicate k 40 ++ R)) := h; have hw := At.one (F := F) h (by decide) (by decide) (by decide) (by decide); obtain ⟨s2, a2⟩ := Steps.opens k h.next hR; rw [show i + (k + 1) = i + 1 + k by omega]; refine ⟨(Steps.word h (by decide) (fun _ => ?_) hw).trans s2, a2⟩; cases k with
    | zero => exact hR
    | succ k => show (40 : UInt8).toNat ≠ 42; decide
theorem Steps.shuts : ∀ (k : Nat) {i : Nat} {R : List UInt8}, At s i (List.replicate k 41 ++ R) → Steps F s i (i + k) (List.replicate k (8, [41])) ∧ At s (i + k) R
  | 0, i, R, h => ⟨Steps.refl, h⟩
  | k + 1, i, R, h => by
    have h : At s i (41 :: (List.replicate k 41 ++ R)) := h; have hw := At.one (F := F) h (by decide) (by decide) (by decide) (by decide); obtain ⟨s2, a2⟩ := Steps.shuts k h.next; rw [show i + (k + 1) = i + 1 + k by omega]; exact ⟨(Steps.word h (by decide) (fun q => absurd q (by decide)) hw).trans s2, a2⟩
end
def dText (n k : Nat) : List UInt8 := [118, 97, 108, 32, 120, 32, 61, 32] ++ rTx n (List.replicate k 40 ++ (97 :: List.replicate k 41))
theorem dText_len (n k : Nat) : (dText n k).length = 9 + 6 * n + 2 * k := by
  unfold dText; rw [List.length_append, rTx_len]; simp only [List.length_append, List.length_cons, List.length_replicate, List.length_nil]; omega
theorem lex_depth (F : List UInt8 → Nat) (n k : Nat) (hn : n ≤ 400) (hk : k ≤ 400) : ∃ ts, lexS F ⟨(dText n k).toArray⟩ = .ok ts ∧ ts.map (fun t => (t.kind, t.text)) = dWords n k ∧ ∀ u ∈ ts, u.pos ≤ 65536 := by
  have hsz : (⟨(dText n k).toArray⟩ : ByteArray).size = 9 + 6 * n + 2 * k := by rw [← dText_len]; rfl
  have h0 : At ⟨(dText n k).toArray⟩ 0 (([118, 97, 108] : List UInt8) ++ 32 :: 120 :: 32 :: 61 :: 32 :: rTx n (List.replicate k 40 ++ (97 :: List.replicate k 41))) := rfl; have w0 := At.rname (F := F) (c := 118) (l := [97, 108]) h0 (by decide) (by decide) (fun c r e => by cases e; decide) (by decide); have h3 : At ⟨(dText n k).toArray⟩ 3 (32 :: 120 :: 32 :: 61 :: 32 :: rTx n (List.replicate k 40 ++ (97 :: List.replicate k 41))) := h0.app; have h4 : At ⟨(dText n k).toArray⟩ 4 (120 :: ([] : List UInt8) ++ (32 :: 61 :: 32 :: rTx n (List.replicate k 40 ++ (97 :: List.replicate k 41)))) := h3.next; have w4 := At.name (F := F) h4 (by decide) (by decide) (fun c r e => by cases e; decide) (by show (32 : UInt8).toNat ≠ 46; decide) (by decide) (by decide); have h5 : At ⟨(dText n k).toArray⟩ 5 (32 :: 61 :: 32 :: rTx n (List.replicate k 40 ++ (97 :: List.replicate k 41))) := h4.next; have h6 : At ⟨(dText n k).toArray⟩ 6 (61 :: 32 :: rTx n (List.replicate k 40 ++ (97 :: List.replicate k 41))) := h5.next; have r6 : runE isSym ⟨(dText n k).toArray⟩ 6 = 6 + 1 := At.run (l := [61]) h6 (by decide) (fun c r e => by cases e; decide)
  have w6 : wordS F ⟨(dText n k).toArray⟩ 6 = .ok (⟨8, [61], 0, 0, 0, 6⟩, 7) := by
    have hsub : sub ⟨(dText n k).toArray⟩ 6 (6 + 1) = [61] := At.part (l := [61]) h6; have hbt := h6.byte; unfold wordS; simp only []; rw [hbt, r6, hsub]
    rfl
  have h7 : At ⟨(dText n k).toArray⟩ 7 (32 :: rTx n (List.replicate k 40 ++ (97 :: List.replicate k 41))) := h6.next; obtain ⟨sr, hr⟩ := Steps.raises (F := F) n h7.next; obtain ⟨so, ho⟩ := Steps.opens (F := F) k hr (by show (97 : UInt8).toNat ≠ 42; decide); have wa := At.name (F := F) (c := 97) (l := []) (R := List.replicate k 41) ho (by decide) (by decide) (fun c r e => by cases k with | zero => cases e | succ k => cases e; decide) (by cases k with | zero => decide | succ k => show (41 : UInt8).toNat ≠ 46; decide) (by decide) (by decide); obtain ⟨ss, hs⟩ := Steps.shuts (F := F) (R := []) k (by rw [List.append_nil]; exact ho.next); have S := ((Steps.word h0 (by decide) (fun q => absurd q (by decide)) w0).trans ((Steps.skip h3).trans ((Steps.word h4 (by decide) (fun q => absurd q (by decide)) w4).trans ((Steps.skip h5).trans ((Steps.word h6 (by decide) (fun q => absurd q (by decide)) w6).trans ((Steps.skip h7).trans (sr.trans (so.trans ((Steps.word ho (by decide) (fun q => absurd q (by decide)) wa).trans ss))))))))); obtain ⟨us, e, p, t⟩ := S; refine ⟨us, ?_, ?_, fun u hu => by have := p u hu; omega⟩
  · unfold lexS; rw [if_neg (by omega)]; show toksE F _ 0 [] = _; rw [t, toksE_nil hs (by omega), List.nil_append]
  · rw [e]; unfold dWords; simp
end Go.Proofs.YtkblonfmjlopaaaGreatDoor
