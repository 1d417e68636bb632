/-
  LexJoins, walked. Condition: what the row lists.
-/
import Derived.Test.YtajpeeccomgnnaaGreatDoorLxTks
import Derived.Test.YtajpeeccomgnnaaGreatDoorLxPF
namespace Go.Proofs.YtajpeeccomgnnaaGreatDoor
set_option linter.all false
open Go Go.RowKit

theorem toks_er (F : List UInt8 → Nat) (s : ByteArray) : ∀ m i ts c q, toksS F s m i ts = .error (c, q) → c ≠ 0
  | 0, i, ts, c, q, h => by cases h
  | m + 1, i, ts, c, q, h => by
    unfold toksS at h
    rcases hb : blank s i with _ | k
    · rw [hb] at h
      simp only [Except.error.injEq, Prod.mk.injEq] at h; omega
    · rw [hb] at h
      simp only at h
      split at h
      · cases h
      · rcases hw : wordS F s k with ⟨x, y⟩ | ⟨t, n⟩
        · rw [hw] at h
          simp only [Except.error.injEq, Prod.mk.injEq] at h
          have := word_er hw
          omega
        · rw [hw] at h
          exact toks_er F s m _ _ c q h
theorem lex_er {F : List UInt8 → Nat} {s : ByteArray} {c q : Nat} (h : lexS F s = .error (c, q)) : c ≠ 0 := by
  unfold lexS at h
  split at h
  · simp only [Except.error.injEq, Prod.mk.injEq] at h; omega
  · exact toks_er F s _ _ _ _ _ h
theorem words_len {F : List UInt8 → Nat} {s : ByteArray} : ∀ (ts : List Tok) (i : Nat), i ≤ s.size → Words F s ts i → ts.length + i ≤ s.size
  | [], i, hi, h => by simp; exact hi
  | t :: ts, i, hi, h => by
    obtain ⟨k, n, hb, hk, hw, hW⟩ := h
    have h1 := word_ok hw hk
    have h2 := blankE_ok hb hi
    have := words_len ts n h1.2 hW
    simp only [List.length_cons]
    omega
theorem join_cat (a b : ByteArray) : Join a b (a ++ ⟨#[10]⟩ ++ b) := by
  obtain ⟨⟨l⟩⟩ := a
  obtain ⟨⟨r⟩⟩ := b
  have h := join_list l r
  have e : (⟨(l ++ 10 :: r).toArray⟩ : ByteArray) = ⟨l.toArray⟩ ++ ⟨#[10]⟩ ++ ⟨r.toArray⟩ := by
    apply ByteArray.ext
    apply Array.toList_inj.mp
    simp
  rw [e] at h
  exact h
theorem words_pos {F : List UInt8 → Nat} {s : ByteArray} : ∀ (ts : List Tok) (i : Nat), Words F s ts i → ∀ (j : Nat) (t : Tok), ts[j]? = some t → t.pos < s.size
  | [], i, h, j, t, ht => by simp at ht
  | u :: ts, i, h, j, t, ht => by
    obtain ⟨k, n, hb, hk, hw, hW⟩ := h
    rcases j with _ | j
    · simp only [List.getElem?_cons_zero, Option.some.injEq] at ht
      subst ht
      rw [(word_made hw hk).pos]; exact hk
    · rw [List.getElem?_cons_succ] at ht
      exact words_pos ts n hW j t ht
/-- A block's first cells set, one by one. -/
def setN (w : World) (N : Nat) (v : Nat → Value) : Nat → World
  | 0 => w
  | n + 1 => (setN w N v n).setCell ⟨N, n, none⟩ (v n)
theorem setN_other (w : World) (N : Nat) (v : Nat → Value) {q : Addr} (h : q.block ≠ N) : ∀ n, (setN w N v n).cell? q = w.cell? q
  | 0 => rfl
  | n + 1 => by
    show ((setN w N v n).setCell ⟨N, n, none⟩ (v n)).cell? q = _
    rw [World.cell?_setCell_other _ _ _ _ (by intro e; subst e; exact h rfl)]
    exact setN_other w N v h n
theorem setN_beyond (w : World) (N : Nat) (v : Nat → Value) : ∀ n j, n ≤ j → (setN w N v n).cell? ⟨N, j, none⟩ = w.cell? ⟨N, j, none⟩
  | 0, j, h => rfl
  | n + 1, j, h => by
    show ((setN w N v n).setCell ⟨N, n, none⟩ (v n)).cell? _ = _
    rw [World.cell?_setCell_other _ _ _ _ (by intro e; simp only [Addr.mk.injEq] at e; omega)]
    exact setN_beyond w N v n j (by omega)
theorem setN_at (w : World) (N : Nat) (v : Nat → Value) : ∀ n, (∀ j, j < n → ∃ z, w.cell? ⟨N, j, none⟩ = some z) → ∀ j, j < n → (setN w N v n).cell? ⟨N, j, none⟩ = some (v j)
  | 0, hz, j, hj => by omega
  | n + 1, hz, j, hj => by
    show ((setN w N v n).setCell ⟨N, n, none⟩ (v n)).cell? _ = _
    rcases Nat.lt_or_ge j n with c | c
    · rw [World.cell?_setCell_other _ _ _ _ (by intro e; simp only [Addr.mk.injEq] at e; omega)]
      exact setN_at w N v n (fun j hj => hz j (by omega)) j c
    · have e : j = n := by omega
      subst e
      obtain ⟨z, h⟩ := hz j hj
      exact World.cell?_setCell_same _ _ _ ((setN_beyond w N v j j (Nat.le_refl _)).trans h)
theorem setN_below (w : World) {B N : Nat} (v : Nat → Value) (h : B ≤ N) : ∀ n, Below B w (setN w N v n)
  | 0 => Below.refl _ _
  | n + 1 => (setN_below w v h n).setCell h _
/-- What Tokens answers, in one form. -/
structure Res (w' : World) (R : Except (Nat × Nat) (List Tok)) (la : Option Addr) (ln lc c : Nat) : Prop where
  ok : ∀ ts, R = .ok ts → c = 0 ∧ ln = ts.length ∧ Toks w' la ts.length lc ts
  er : ∀ x y, R = .error (x, y) → c = x ∧ c ≠ 0 ∧ ln = 0
  mx : ln ≤ 65536
theorem tokens_res (F : List UInt8 → Nat) (s : ByteArray) (m : Int) (w : World) (hb1 : 1 < w.heap.size) (hm : w.cell? ⟨1, 0, none⟩ = some (.int .i64 m)) (hF : PFs F w.heap.size w s) :
    Calls Tryz.prog 8 #[.string s] w fun e w' => ∃ (la : Option Addr) (ln lc c q : Nat), e = .returned (.tuple #[.slice la ln lc, .agg #[.int .i64 (c : Nat), .int .i64 (q : Nat)]]) ∧ Below w.heap.size w w' ∧ Res w' (lexS F s) la ln lc c := by
  refine (tokens_any F s m w hb1 hm hF).mono fun e w' hO => ?_
  unfold OutT at hO
  rcases hR : lexS F s with ⟨c, q⟩ | ts
  · rw [hR] at hO
    obtain ⟨hb, rfl⟩ := hO
    refine ⟨none, 0, 0, c, q, rfl, hb, ?_, ?_, by omega⟩
    · intro ts h; cases h
    · intro x y h
      cases h
      exact ⟨rfl, lex_er hR, rfl⟩
  · rw [hR] at hO
    obtain ⟨hb, la, lc, rfl, hT, hN⟩ := hO
    have h2 := lex_words hR
    have h3 := words_len ts 0 (Nat.zero_le _) h2.2
    refine ⟨la, ts.length, lc, 0, 0, rfl, hb, ?_, ?_, by omega⟩
    · intro us h
      cases h
      exact ⟨rfl, rfl, hT⟩
    · intro x y h; cases h

set_option maxRecDepth 100000 in
set_option maxHeartbeats 8000000 in
theorem lexJoins_walk (F : List UInt8 → Nat) (a b : ByteArray) (m : Int) (w : World) (hb1 : 1 < w.heap.size) (hm : w.cell? ⟨1, 0, none⟩ = some (.int .i64 m)) (hsz : a.size + b.size ≤ 1125899906842624)
    (hFa : PFs F w.heap.size w a) (hFb : PFs F w.heap.size w b) (hFs : ∀ s, Join a b s → PFs F w.heap.size w s) :
    Calls Tryz.prog 6 #[.string a, .string b] w fun e w' => e = .returned (.bool true) ∧ Below w.heap.size w w' := by
  have HFa := hid hFa
  have HFb := hid hFb
  have HFs : Hid (∀ s, Join a b s → PFs F w.heap.size w s) := hid hFs
  clear hFa hFb hFs
  go_enter Tryz.func6, Tryz.ntmps6
  go_upto_region 3 with (first | (go_at_call 7; refine (awake_any m _ hb1 hm).mono ?_; rintro e w1 ⟨rfl, hb⟩; have hm1 := (hb.cell (p := ⟨1, 0, none⟩) hb1).trans hm; have hs1 := hb.size) | (go_at_call 8; refine (tokens_res F a m _ (by omega) hm1 (fun i hi h1 h2 wx hx => HFa.out i hi h1 h2 wx (hb.trans (hx.mono hs1)))).mono ?_; rintro e w2 ⟨la1, ln1, lc1, c1, q1, rfl, hb2, r1⟩; have D1 := Bx.made w2 (.int .i64 (c1 : Nat)) (.int .i64 (q1 : Nat)) 26; have b2 := (hb.trans (hb2.mono hs1)).trans ((below_alloc w2 (.cells #[.int .i64 (c1 : Nat), .int .i64 (q1 : Nat)] 26)).mono (Nat.le_trans hs1 hb2.size)); have hs2 := b2.size; have hm2 := (b2.cell (p := ⟨1, 0, none⟩) hb1).trans hm; have HR1 := hid r1; clear r1))
  go_upto_region 4 with (go_at_call 8; refine (tokens_res F b m _ (by omega) hm2 (fun i hi h1 h2 wx hx => HFb.out i hi h1 h2 wx (b2.trans (hx.mono hs2)))).mono ?_; rintro e w3 ⟨la2, ln2, lc2, c2, q2, rfl, hb3, r2⟩; have D2 := Bx.made w3 (.int .i64 (c2 : Nat)) (.int .i64 (q2 : Nat)) 26; have b3a := b2.trans (hb3.mono hs2); have b3 := b3a.trans ((below_alloc w3 (.cells #[.int .i64 (c2 : Nat), .int .i64 (q2 : Nat)] 26)).mono b3a.size); have hs3 := b3.size; have hm3 := (b3.cell (p := ⟨1, 0, none⟩) hb1).trans hm; have HR2 := hid r2; clear r2)
  have hln : ¬ 9223372036854775807 < a.size + 1 := by omega
  have hln2 : ¬ 9223372036854775807 < a.size + 1 + b.size := by omega
  go_upto_region 5 with (go_at_call 8; have hJ := join_cat a b; generalize a ++ ⟨#[10]⟩ ++ b = s at hJ ⊢; refine (tokens_res F s m _ (by omega) hm3 (fun i hi h1 h2 wx hx => HFs.out s hJ i hi h1 h2 wx (b3.trans (hx.mono hs3)))).mono ?_; have HJ := hid hJ; clear hJ; rintro e w4 ⟨la3, ln3, lc3, c3, q3, rfl, hb4, r3⟩; have D3 := Bx.made w4 (.int .i64 (c3 : Nat)) (.int .i64 (q3 : Nat)) 26; have b4a := b3.trans (hb4.mono hs3); have b4 := b4a.trans ((below_alloc w4 (.cells #[.int .i64 (c3 : Nat), .int .i64 (q3 : Nat)] 26)).mono b4a.size); have hs4 := b4.size; have HR3 := hid r3; clear r3)
  have x4 : Below w4.heap.size w4 (w4.alloc (.cells #[.int .i64 (c3 : Nat), .int .i64 (q3 : Nat)] 26)) := below_alloc w4 _
  have x3 : Below w3.heap.size w3 (w4.alloc (.cells #[.int .i64 (c3 : Nat), .int .i64 (q3 : Nat)] 26)) := (below_alloc w3 (.cells #[.int .i64 (c2 : Nat), .int .i64 (q2 : Nat)] 26)).trans ((hb4.trans (x4.mono hb4.size)).mono (below_alloc w3 _).size)
  have x2 : Below w2.heap.size w2 (w4.alloc (.cells #[.int .i64 (c3 : Nat), .int .i64 (q3 : Nat)] 26)) := (below_alloc w2 (.cells #[.int .i64 (c1 : Nat), .int .i64 (q1 : Nat)] 26)).trans ((hb3.trans (x3.mono hb3.size)).mono (below_alloc w2 _).size)
  have E1 := D1.keep ((hb3.trans (x3.mono hb3.size)))
  have E2 := D2.keep ((hb4.trans (x4.mono hb4.size)))
  refine gen_world _ (fun W hW => ?_)
  rw [← hW] at E1 E2 D3 x2 x3 x4 b4
  have T1 := hid (fun ts h => ((HR1.out.ok ts h).2.2).below x2)
  have T2 := hid (fun ts h => ((HR2.out.ok ts h).2.2).below x3)
  have T3 := hid (fun ts h => ((HR3.out.ok ts h).2.2).below x4)
  have HB := hid b4
  have p1 := E1.c0
  have p2 := E2.c0
  have p3 := D3.c0
  have L1 := hid E1
  have L2 := hid E2
  have L3 := hid D3
  clear hW x2 x3 x4 E1 E2 D3 b4 b4a b3 b3a b2 hb hb2 hb3 hb4 hm1 hm2 hm3 hs1 hs2 hs3 hs4 D1 D2 HFa HFb HFs hm
  generalize w2.heap.size = B1 at p1 L1 ⊢
  generalize w3.heap.size = B2 at p2 L2 ⊢
  generalize w4.heap.size = B3 at p3 L3 ⊢
  by_cases h1 : c1 = 0
  rotate_left 1
  · have e1 : ((c1 : Int) == 0) = false := beq_eq_false_iff_ne.mpr (by omega)
    have e2 : ((c1 : Int) != 0) = true := by simp; omega
    have H1 := hid h1
    clear h1
    go_wp2_with fail
    go_ret
    exact ⟨rfl, HB.out⟩
  subst h1
  by_cases h2 : c2 = 0
  rotate_left 1
  · have e1 : ((c2 : Int) == 0) = false := beq_eq_false_iff_ne.mpr (by omega)
    have e2 : ((c2 : Int) != 0) = true := by simp; omega
    have H2 := hid h2
    clear h2
    go_wp2_with fail
    go_ret
    exact ⟨rfl, HB.out⟩
  subst h2
  obtain ⟨x, hx⟩ : ∃ x, lexS F a = .ok x := by
    rcases h : lexS F a with ⟨p, q⟩ | x
    · exact absurd rfl (HR1.out.er p q h).2.1
    · exact ⟨x, rfl⟩
  obtain ⟨y, hy⟩ : ∃ y, lexS F b = .ok y := by
    rcases h : lexS F b with ⟨p, q⟩ | y
    · exact absurd rfl (HR2.out.er p q h).2.1
    · exact ⟨y, rfl⟩
  have m1 := (HR1.out.ok x hx).2.1
  have m2 := (HR2.out.ok y hy).2.1
  have T1 := T1.out x hx
  have T2 := T2.out y hy
  have hss := HJ.out.size
  have w1 : IntKind.i64.wrap ((a.size : Int) + (b.size : Int)) = (a.size : Int) + (b.size : Int) := IntWalk.i64_in _ (by omega)
  have w2 : IntKind.i64.wrap ((a.size : Int) + (b.size : Int) + 1) = (a.size : Int) + (b.size : Int) + 1 := IntWalk.i64_in _ (by omega)
  by_cases hlong : (65536 : Int) < (a.size : Int) + (b.size : Int) + 1
  · have h3 : c3 = 2 := (HR3.out.er 2 0 (lex_long (by omega))).1
    subst h3
    have HT := hid (And.intro T1 (And.intro T2 (And.intro m1 (And.intro m2 (And.intro hx (And.intro hy hss))))))
    clear T1 T2 m1 m2 hx hy hss
    go_wp2_with fail
    go_ret
    exact ⟨rfl, HB.out⟩
  have hz := HJ.out.lex hx hy (by omega)
  obtain ⟨h3, m3, -⟩ := HR3.out.ok _ hz
  have T3 := T3.out _ hz
  subst h3
  rw [List.length_append, List.length_map, ← m1, ← m2] at m3
  have k1 := HR1.out.mx
  have k2 := HR2.out.mx
  have HS : Hid (s.size = a.size + 1 + b.size ∧ a.size + b.size + 1 ≤ 65536) := hid ⟨hss, by omega⟩
  have HT1 := hid T1
  have HT2 := hid T2
  have HT3 := hid T3
  have HX := hid (And.intro hx (And.intro hy (And.intro hz (And.intro m1 (And.intro m2 m3)))))
  have w3 : IntKind.i64.wrap ((ln1 : Int) + (ln2 : Int)) = (ln1 : Int) + (ln2 : Int) := IntWalk.i64_in _ (by omega)
  have e9 : ((ln3 : Int) != (ln1 : Int) + (ln2 : Int)) = false := by simp; omega
  have k3 : ln3 ≤ 131072 := by omega
  clear T1 T2 T3 m1 m2 m3 hx hy hz hss k1 k2
  go_wp2_with fail
  clear w1 w2 w3 e9 hlong
  go_loopw [12] (fun iv wr => ∃ i : Nat, iv = .int .i64 (i : Nat) ∧ i ≤ ln3 ∧ Below W.heap.size W wr) (fun iv _ => ln3 - (intOf iv).toNat)
  case atStart => exact ⟨0, rfl, Nat.zero_le _, Below.refl _ _⟩
  case round =>
    obtain ⟨i, rfl, hi, hbr⟩ := hrel
    by_cases hlt : i < ln3
    rotate_left 1
    · have hni : ¬ (i : Int) < (ln3 : Int) := by omega
      go_wp2_with fail
      go_ret
      exact ⟨rfl, HB.out.trans (hbr.mono HB.out.size)⟩
    have hli : (i : Int) < (ln3 : Int) := by omega
    by_cases hin : i < ln1
    · have hini : (i : Int) < (ln1 : Int) := by omega
      obtain ⟨t, ht⟩ : ∃ t, x[i]? = some t := ⟨_, List.getElem?_eq_getElem (by have := HX.out.2.2.2; omega)⟩
      have hz : (x ++ y.map (mv (a.size + 1)))[i]? = some t := by
        have := HX.out.2.2.2.1
        rw [List.getElem?_append_left (by omega)]; exact ht
      obtain ⟨bx, boff, bsg, ba, bnn, bc, rfl, ⟨y0, y1, -, -, -, -, y6⟩, -⟩ := (HT3.out.below hbr).at hz
      obtain ⟨wx, woff, wsg, wa, wnn, wc, rfl, ⟨x0, x1, x2, x3, x4, x5, x6⟩, -⟩ := (HT1.out.below hbr).at ht
      have hbl := World.block_lt_of_cell? wr _ y0
      have hwl := World.block_lt_of_cell? wr _ x0
      have hpos : t.pos ≤ 65536 := by
        have := words_pos _ 0 (lex_words HX.out.1).2 _ t ht
        have := (lex_words HX.out.1).1
        omega
      have HTT := hid (And.intro ht hz)
      have HB' := hid hbl
      clear ht hz
      go_upto_region 17 with fail
      have u := below_alloc wr (.cells #[.int .i64 0, .string ⟨#[]⟩, .bool false, .slice none 0 0, .int .u64 0, .int .i64 0, .int .i64 0] 38)
      have z := fun j => World.cell?_alloc_new wr #[.int .i64 0, .string ⟨#[]⟩, .bool false, .slice none 0 0, .int .u64 0, .int .i64 0, .int .i64 0] 38 j
      have zf : ∀ o, (wr.alloc (.cells #[.int .i64 0, .string ⟨#[]⟩, .bool false, .slice none 0 0, .int .u64 0, .int .i64 0, .int .i64 0] 38)).frozen? ⟨wr.heap.size, o, none⟩ = false := fun o => by simp [World.frozen?_alloc_new]
      have x0 := (u.cell (p := ⟨wx, woff + i * 7, none⟩) hwl).trans x0
      have x1 := (u.cell (p := ⟨wx, woff + i * 7 + 1, none⟩) hwl).trans x1
      have x2 := (u.cell (p := ⟨wx, woff + i * 7 + 2, none⟩) hwl).trans x2
      have x3 := (u.cell (p := ⟨wx, woff + i * 7 + 3, none⟩) hwl).trans x3
      have x4 := (u.cell (p := ⟨wx, woff + i * 7 + 4, none⟩) hwl).trans x4
      have x5 := (u.cell (p := ⟨wx, woff + i * 7 + 5, none⟩) hwl).trans x5
      have x6 := (u.cell (p := ⟨wx, woff + i * 7 + 6, none⟩) hwl).trans x6
      have y0 := (u.cell (p := ⟨bx, boff + i * 7, none⟩) hbl).trans y0
      have y1 := (u.cell (p := ⟨bx, boff + i * 7 + 1, none⟩) hbl).trans y1
      have y6 := (u.cell (p := ⟨bx, boff + i * 7 + 6, none⟩) hbl).trans y6
      have q0 := z 0
      have q1 := z 1
      have q2 := z 2
      have q3 := z 3
      have q4 := z 4
      have q5 := z 5
      have q6 := z 6
      have hbw := hbr.trans (u.mono hbr.size)
      refine gen_world _ (fun W2 hW2 => ?_)
      rw [← hW2] at x0 x1 x2 x3 x4 x5 x6 y0 y1 y6 q0 q1 q2 q3 q4 q5 q6 zf hbw
      clear hW2 u z
      have nb : bx ≠ wr.heap.size := Nat.ne_of_lt hbl
      have HZ : Hid (∀ j, j < 7 → ∃ z, W2.cell? ⟨wr.heap.size, j, none⟩ = some z) := hid (fun j hj => by
        have : j = 0 ∨ j = 1 ∨ j = 2 ∨ j = 3 ∨ j = 4 ∨ j = 5 ∨ j = 6 := by omega
        rcases this with rfl | rfl | rfl | rfl | rfl | rfl | rfl
        · exact ⟨_, q0⟩
        · exact ⟨_, q1⟩
        · exact ⟨_, q2⟩
        · exact ⟨_, q3⟩
        · exact ⟨_, q4⟩
        · exact ⟨_, q5⟩
        · exact ⟨_, q6⟩)
      have HBW := hid hbw
      have HN := hid nb
      clear hbw hbl hwl nb
      generalize hN : wr.heap.size = N at *
      go_upto_region 20 with fail
      clear q0 q1 q2 q3 q4 q5 q6 x0 x1 x2 x3 x4 x5 x6
      have v := setN_at W2 N (fun j => ([.int .i64 (t.kind : Nat), .string ⟨t.text.toArray⟩, .bool wsg, .slice wa wnn wc, .int .u64 (t.bits : Nat), .int .i64 (t.n : Nat), .int .i64 (t.pos : Nat)] : List Value).getD j (.bool false)) 7 HZ.out
      have o := fun {q : Addr} (h : q.block ≠ N) => setN_other W2 N (fun j => ([.int .i64 (t.kind : Nat), .string ⟨t.text.toArray⟩, .bool wsg, .slice wa wnn wc, .int .u64 (t.bits : Nat), .int .i64 (t.n : Nat), .int .i64 (t.pos : Nat)] : List Value).getD j (.bool false)) h 7
      have u := setN_below W2 (B := N) (fun j => ([.int .i64 (t.kind : Nat), .string ⟨t.text.toArray⟩, .bool wsg, .slice wa wnn wc, .int .u64 (t.bits : Nat), .int .i64 (t.n : Nat), .int .i64 (t.pos : Nat)] : List Value).getD j (.bool false)) (Nat.le_refl N) 7
      refine gen_world _ (fun W3 hW3 => ?_)
      rw [show setN W2 N (fun j => ([.int .i64 (t.kind : Nat), .string ⟨t.text.toArray⟩, .bool wsg, .slice wa wnn wc, .int .u64 (t.bits : Nat), .int .i64 (t.n : Nat), .int .i64 (t.pos : Nat)] : List Value).getD j (.bool false)) 7 = W3 from hW3.symm] at v o u
      clear hW3
      have y0 := (o (q := ⟨bx, boff + i * 7, none⟩) HN.out).trans y0
      have y1 := (o (q := ⟨bx, boff + i * 7 + 1, none⟩) HN.out).trans y1
      have y6 := (o (q := ⟨bx, boff + i * 7 + 6, none⟩) HN.out).trans y6
      have v0 : W3.cell? ⟨N, 0, none⟩ = some (.int .i64 (t.kind : Nat)) := v 0 (by omega)
      have v1 : W3.cell? ⟨N, 1, none⟩ = some (.string ⟨t.text.toArray⟩) := v 1 (by omega)
      have v6 : W3.cell? ⟨N, 6, none⟩ = some (.int .i64 (t.pos : Nat)) := v 6 (by omega)
      clear v o
      have HU := hid (HBW.out.trans (u.mono (by rw [← hN]; exact hbr.size)))
      clear u zf
      generalize t.kind = tk at *
      generalize (⟨t.text.toArray⟩ : ByteArray) = tt at *
      generalize t.pos = tp at *
      go_quiet (fail)
      go_wp2_with fail
      exact ⟨⟨i + 1, rfl, by omega, HU.out.trans (dN _ _ _)⟩, by simp [intOf]; omega⟩
    · have hini : ¬ (i : Int) < (ln1 : Int) := by omega
      obtain ⟨j, hj⟩ : ∃ j, i = ln1 + j := ⟨i - ln1, by omega⟩
      have hsub : (i : Int) - (ln1 : Int) = (j : Int) := by omega
      have hj2 : (j : Int) < (ln2 : Int) := by have := HX.out.2.2.2; omega
      have hja : a.size ≤ 65536 := by have := HS.out.2; omega
      obtain ⟨t, ht⟩ : ∃ t, y[j]? = some t := ⟨_, List.getElem?_eq_getElem (by have := HX.out.2.2.2; omega)⟩
      have hz : (x ++ y.map (mv (a.size + 1)))[i]? = some (mv (a.size + 1) t) := by
        have := HX.out.2.2.2.1
        rw [List.getElem?_append_right (by omega), List.getElem?_map, ← this, show i - ln1 = j by omega, ht]
        rfl
      obtain ⟨bx, boff, bsg, ba, bnn, bc, rfl, ⟨y0, y1, -, -, -, -, y6⟩, -⟩ := (HT3.out.below hbr).at hz
      obtain ⟨wx, woff, wsg, wa, wnn, wc, rfl, ⟨x0, x1, x2, x3, x4, x5, x6⟩, -⟩ := (HT2.out.below hbr).at ht
      obtain ⟨P, hP⟩ : ∃ P, (mv (a.size + 1) t).pos = P := ⟨_, rfl⟩
      rw [hP] at y6
      have hP2 : (t.pos : Int) + ((a.size : Int) + 1) = (P : Int) := by have : t.pos + (a.size + 1) = P := hP; omega
      have hP3 : P ≤ 1000000 := by have := HS.out.2; have hp : t.pos + (a.size + 1) = P := hP; have := words_pos _ 0 (lex_words HX.out.2.1).2 _ t ht; omega
      have HPP := hid hP
      clear hP
      have y0 : wr.cell? ⟨bx, boff + i * 7, none⟩ = some (.int .i64 (t.kind : Nat)) := y0
      have y1 : wr.cell? ⟨bx, boff + i * 7 + 1, none⟩ = some (.string ⟨t.text.toArray⟩) := y1
      have hbl := World.block_lt_of_cell? wr _ y0
      have hwl := World.block_lt_of_cell? wr _ x0
      have hpos : t.pos ≤ 65536 := by
        have := words_pos _ 0 (lex_words HX.out.2.1).2 _ t ht
        have := (lex_words HX.out.2.1).1
        omega
      have HTT := hid (And.intro ht (And.intro hz hj))
      have HB' := hid hbl
      clear ht hz hj
      go_upto_region 18 with fail
      have u := below_alloc wr (.cells #[.int .i64 0, .string ⟨#[]⟩, .bool false, .slice none 0 0, .int .u64 0, .int .i64 0, .int .i64 0] 38)
      have z := fun j => World.cell?_alloc_new wr #[.int .i64 0, .string ⟨#[]⟩, .bool false, .slice none 0 0, .int .u64 0, .int .i64 0, .int .i64 0] 38 j
      have zf : ∀ o, (wr.alloc (.cells #[.int .i64 0, .string ⟨#[]⟩, .bool false, .slice none 0 0, .int .u64 0, .int .i64 0, .int .i64 0] 38)).frozen? ⟨wr.heap.size, o, none⟩ = false := fun o => by simp [World.frozen?_alloc_new]
      have x0 := (u.cell (p := ⟨wx, woff + j * 7, none⟩) hwl).trans x0
      have x1 := (u.cell (p := ⟨wx, woff + j * 7 + 1, none⟩) hwl).trans x1
      have x2 := (u.cell (p := ⟨wx, woff + j * 7 + 2, none⟩) hwl).trans x2
      have x3 := (u.cell (p := ⟨wx, woff + j * 7 + 3, none⟩) hwl).trans x3
      have x4 := (u.cell (p := ⟨wx, woff + j * 7 + 4, none⟩) hwl).trans x4
      have x5 := (u.cell (p := ⟨wx, woff + j * 7 + 5, none⟩) hwl).trans x5
      have x6 := (u.cell (p := ⟨wx, woff + j * 7 + 6, none⟩) hwl).trans x6
      have y0 := (u.cell (p := ⟨bx, boff + i * 7, none⟩) hbl).trans y0
      have y1 := (u.cell (p := ⟨bx, boff + i * 7 + 1, none⟩) hbl).trans y1
      have y6 := (u.cell (p := ⟨bx, boff + i * 7 + 6, none⟩) hbl).trans y6
      have q0 := z 0
      have q1 := z 1
      have q2 := z 2
      have q3 := z 3
      have q4 := z 4
      have q5 := z 5
      have q6 := z 6
      have hbw := hbr.trans (u.mono hbr.size)
      refine gen_world _ (fun W2 hW2 => ?_)
      rw [← hW2] at x0 x1 x2 x3 x4 x5 x6 y0 y1 y6 q0 q1 q2 q3 q4 q5 q6 zf hbw
      clear hW2 u z
      have nb : bx ≠ wr.heap.size := Nat.ne_of_lt hbl
      have HZ : Hid (∀ j, j < 7 → ∃ z, W2.cell? ⟨wr.heap.size, j, none⟩ = some z) := hid (fun j hj => by
        have : j = 0 ∨ j = 1 ∨ j = 2 ∨ j = 3 ∨ j = 4 ∨ j = 5 ∨ j = 6 := by omega
        rcases this with rfl | rfl | rfl | rfl | rfl | rfl | rfl
        · exact ⟨_, q0⟩
        · exact ⟨_, q1⟩
        · exact ⟨_, q2⟩
        · exact ⟨_, q3⟩
        · exact ⟨_, q4⟩
        · exact ⟨_, q5⟩
        · exact ⟨_, q6⟩)
      have HBW := hid hbw
      have HN := hid nb
      clear hbw hbl hwl nb
      generalize hN : wr.heap.size = N at *
      go_upto_region 20 with fail
      clear q0 q1 q2 q3 q4 q5 q6 x0 x1 x2 x3 x4 x5 x6
      have v := setN_at W2 N (fun j => ([.int .i64 (t.kind : Nat), .string ⟨t.text.toArray⟩, .bool wsg, .slice wa wnn wc, .int .u64 (t.bits : Nat), .int .i64 (t.n : Nat), .int .i64 (t.pos : Nat)] : List Value).getD j (.bool false)) 7 HZ.out
      have o := fun {q : Addr} (h : q.block ≠ N) => setN_other W2 N (fun j => ([.int .i64 (t.kind : Nat), .string ⟨t.text.toArray⟩, .bool wsg, .slice wa wnn wc, .int .u64 (t.bits : Nat), .int .i64 (t.n : Nat), .int .i64 (t.pos : Nat)] : List Value).getD j (.bool false)) h 7
      have u := setN_below W2 (B := N) (fun j => ([.int .i64 (t.kind : Nat), .string ⟨t.text.toArray⟩, .bool wsg, .slice wa wnn wc, .int .u64 (t.bits : Nat), .int .i64 (t.n : Nat), .int .i64 (t.pos : Nat)] : List Value).getD j (.bool false)) (Nat.le_refl N) 7
      refine gen_world _ (fun W3 hW3 => ?_)
      rw [show setN W2 N (fun j => ([.int .i64 (t.kind : Nat), .string ⟨t.text.toArray⟩, .bool wsg, .slice wa wnn wc, .int .u64 (t.bits : Nat), .int .i64 (t.n : Nat), .int .i64 (t.pos : Nat)] : List Value).getD j (.bool false)) 7 = W3 from hW3.symm] at v o u
      clear hW3
      have y0 := (o (q := ⟨bx, boff + i * 7, none⟩) HN.out).trans y0
      have y1 := (o (q := ⟨bx, boff + i * 7 + 1, none⟩) HN.out).trans y1
      have y6 := (o (q := ⟨bx, boff + i * 7 + 6, none⟩) HN.out).trans y6
      have v0 : W3.cell? ⟨N, 0, none⟩ = some (.int .i64 (t.kind : Nat)) := v 0 (by omega)
      have v1 : W3.cell? ⟨N, 1, none⟩ = some (.string ⟨t.text.toArray⟩) := v 1 (by omega)
      have v6 : W3.cell? ⟨N, 6, none⟩ = some (.int .i64 (t.pos : Nat)) := v 6 (by omega)
      clear v o
      have HU := hid (HBW.out.trans (u.mono (by rw [← hN]; exact hbr.size)))
      clear u zf
      generalize t.kind = tk at *
      generalize (⟨t.text.toArray⟩ : ByteArray) = tt at *
      generalize t.pos = tp at *
      go_quiet (fail)
      go_wp2_with fail
      exact ⟨⟨i + 1, rfl, by omega, HU.out.trans (dN _ _ _)⟩, by simp [intOf]; omega⟩
theorem lexJoins_full (l r : List UInt8) (m : Int) (w : World) (hb1 : 1 < w.heap.size) (hm : w.cell? ⟨1, 0, none⟩ = some (.int .i64 m)) (hL : laidMetH Tryz.prog Rows.lexTokensUptoRow.laid w) (h1 : l.length ≤ 281474976710656) (h2 : r.length ≤ 281474976710656) :
    Calls Tryz.prog 6 #[.string ⟨l.toArray⟩, .string ⟨r.toArray⟩] w fun e w' => e = .returned (.bool true) ∧ Below w.heap.size w w' := by
  obtain ⟨x, off, y, off2, z, off3, ht⟩ := TL_of_laid hL
  exact lexJoins_walk _ ⟨l.toArray⟩ ⟨r.toArray⟩ m w hb1 hm (by rw [size_list, size_list]; omega) (pfs_laid (Nat.le_refl _) ht _) (pfs_laid (Nat.le_refl _) ht _) (fun s _ => pfs_laid (Nat.le_refl _) ht s)
end Go.Proofs.YtajpeeccomgnnaaGreatDoor
