/-
  LexSpread, walked. Condition: what the row lists.
-/
import Derived.Test.YtajpeeccomgnnaaGreatDoorLxJn
namespace Go.Proofs.YtajpeeccomgnnaaGreatDoor
set_option linter.all false
open Go Go.RowKit

theorem words_short {F : List UInt8 → Nat} {s : ByteArray} : ∀ (ts : List Tok) (i : Nat), Words F s ts i → ∀ (j : Nat) (t : Tok), ts[j]? = some t → t.kind ≠ 6 → t.kind ≠ 7 → t.text.length ≤ s.size
  | [], i, h, j, t, ht, _, _ => by simp at ht
  | u :: ts, i, h, j, t, ht, h6, h7 => by
    obtain ⟨k, n, hb, hk, hw, hW⟩ := h
    rcases j with _ | j
    · simp only [List.getElem?_cons_zero, Option.some.injEq] at ht
      subst ht
      have hm := word_made hw hk
      have hn := word_ok hw hk
      rcases hm.text with c | c | c
      · exact absurd c h6
      · exact absurd c h7
      · rw [c, sub_ln hn.2]; omega
    · rw [List.getElem?_cons_succ] at ht
      exact words_short ts n hW j t ht h6 h7
/-- The words so far, with a blank between each two. -/
def Sp (ts : List Tok) (i : Nat) (z : ByteArray) : Prop := z = ⟨(spr (ts.take i)).toArray⟩ ∧ ∀ j t, j < i → ts[j]? = some t → t.kind ≠ 6 ∧ t.kind ≠ 7
theorem Sp.nil (ts : List Tok) : Sp ts 0 ⟨#[]⟩ := ⟨rfl, fun j t hj => by omega⟩
theorem take_snoc {ts : List Tok} {i : Nat} {t : Tok} (ht : ts[i]? = some t) : ts.take (i + 1) = ts.take i ++ [t] := by
  rw [List.take_add_one, ht]; rfl
theorem cat_list (a b : List UInt8) : (⟨a.toArray⟩ : ByteArray) ++ ⟨b.toArray⟩ = ⟨(a ++ b).toArray⟩ := by
  apply ByteArray.ext
  apply Array.toList_inj.mp
  simp
theorem Sp.first {ts : List Tok} {z : ByteArray} {t : Tok} (h : Sp ts 0 z) (ht : ts[0]? = some t) (h6 : t.kind ≠ 6) (h7 : t.kind ≠ 7) : Sp ts 1 (z ++ ⟨t.text.toArray⟩) := by
  refine ⟨?_, fun j u hj hu => ?_⟩
  · rw [h.1, take_snoc ht, spr_snoc, cat_list]
    simp [spr]
  · have : j = 0 := by omega
    subst this
    obtain rfl := Option.some.inj (ht.symm.trans hu)
    exact ⟨h6, h7⟩
theorem Sp.next {ts : List Tok} {i : Nat} {z : ByteArray} {t : Tok} (h : Sp ts i z) (hi : 0 < i) (ht : ts[i]? = some t) (h6 : t.kind ≠ 6) (h7 : t.kind ≠ 7) : Sp ts (i + 1) (z ++ ⟨#[32]⟩ ++ ⟨t.text.toArray⟩) := by
  refine ⟨?_, fun j u hj hu => ?_⟩
  · have hlt := (List.getElem?_eq_some_iff.1 ht).1
    have hne : ts.take i ≠ [] := by
      intro e
      have := congrArg List.length e
      rw [List.length_take, List.length_nil] at this
      omega
    rw [h.1, take_snoc ht, spr_snoc, if_neg hne, show (⟨#[32]⟩ : ByteArray) = ⟨([32] : List UInt8).toArray⟩ from rfl, cat_list, cat_list]
    simp
  · rcases Nat.lt_or_ge j i with c | c
    · exact h.2 j u c hu
    · have : j = i := by omega
      subst this
      obtain rfl := Option.some.inj (ht.symm.trans hu)
      exact ⟨h6, h7⟩
theorem Sp.done {ts : List Tok} {z : ByteArray} (h : Sp ts ts.length z) : z = ⟨(spr ts).toArray⟩ ∧ ∀ t ∈ ts, t.kind ≠ 6 ∧ t.kind ≠ 7 := by
  refine ⟨by rw [h.1, List.take_length], fun t ht => ?_⟩
  obtain ⟨j, hj, rfl⟩ := List.mem_iff_getElem.mp ht
  exact h.2 j _ hj (List.getElem?_eq_getElem hj)
theorem cmp_same (z : Int) : cmpI z z = 0 := by unfold cmpI; rw [if_neg (by omega), if_neg (by omega)]
theorem size_cat (a b : ByteArray) : (a ++ b).size = a.size + b.size := ByteArray.size_append

set_option maxRecDepth 100000 in
set_option maxHeartbeats 8000000 in
theorem lexSpread_walk (F : List UInt8 → Nat) (a : ByteArray) (m : Int) (w : World) (hb1 : 1 < w.heap.size) (hm : w.cell? ⟨1, 0, none⟩ = some (.int .i64 m))
    (hFs : ∀ s, PFs F w.heap.size w s) :
    Calls Tryz.prog 5 #[.string a] w fun e w' => e = .returned (.bool true) ∧ Below w.heap.size w w' := by
  have HFs := hid hFs
  clear hFs
  go_enter Tryz.func5, Tryz.ntmps5
  go_upto_region 3 with (first | (go_at_call 7; refine (awake_any m _ hb1 hm).mono ?_; rintro e w1 ⟨rfl, hb⟩; have hm1 := (hb.cell (p := ⟨1, 0, none⟩) hb1).trans hm; have hs1 := hb.size) | (go_at_call 8; refine (tokens_res F a m _ (by omega) hm1 (fun i hi h1 h2 wx hx => HFs.out a i hi h1 h2 wx (hb.trans (hx.mono hs1)))).mono ?_; rintro e w2 ⟨la1, ln1, lc1, c1, q1, rfl, hb2, r1⟩; have D1 := Bx.made w2 (.int .i64 (c1 : Nat)) (.int .i64 (q1 : Nat)) 26; have b2 := (hb.trans (hb2.mono hs1)).trans ((below_alloc w2 (.cells #[.int .i64 (c1 : Nat), .int .i64 (q1 : Nat)] 26)).mono (Nat.le_trans hs1 hb2.size)); have hs2 := b2.size; have hm2 := (b2.cell (p := ⟨1, 0, none⟩) hb1).trans hm; have HR1 := hid r1; clear r1))
  have x2 : Below w2.heap.size w2 (w2.alloc (.cells #[.int .i64 (c1 : Nat), .int .i64 (q1 : Nat)] 26)) := below_alloc w2 _
  refine gen_world _ (fun W hW => ?_)
  rw [← hW] at D1 x2 b2 hm2 hs2
  have T1 := hid (fun ts h => ((HR1.out.ok ts h).2.2).below x2)
  have HB := hid b2
  have Hm := hid hm2
  have Hs := hid hs2
  have p1 := D1.c0
  clear hW x2 D1 b2 hb hb2 hm1 hm2 hs1 hs2 hm
  generalize w2.heap.size = B1 at p1 ⊢
  by_cases h1 : c1 = 0
  rotate_left 1
  · have e1 : ((c1 : Int) == 0) = false := beq_eq_false_iff_ne.mpr (by omega)
    have e2 : ((c1 : Int) != 0) = true := by simp; omega
    have hl0 : ln1 = 0 := by
      rcases h : lexS F a with ⟨p, q⟩ | x
      · exact (HR1.out.er p q h).2.2
      · exact absurd (HR1.out.ok x h).1 h1
    have H1 := hid h1
    clear h1
    subst hl0
    go_wp2_with fail
    go_ret
    exact ⟨rfl, HB.out⟩
  subst h1
  obtain ⟨ts, hx⟩ : ∃ x, lexS F a = .ok x := by
    rcases h : lexS F a with ⟨p, q⟩ | x
    · exact absurd rfl (HR1.out.er p q h).2.1
    · exact ⟨x, rfl⟩
  have m1 := (HR1.out.ok ts hx).2.1
  have HT1 := hid (T1.out ts hx)
  have k1 := HR1.out.mx
  have HX := hid (And.intro hx m1)
  clear T1 hx m1
  go_wp2_with fail
  clear p1
  go_loopw [6, 7] (fun sv iv wr => ∃ (i : Nat) (z : ByteArray), sv = .string z ∧ iv = .int .i64 (i : Nat) ∧ i ≤ ln1 ∧ z.size ≤ i * 65537 ∧ Hid (Sp ts i z) ∧ Below W.heap.size W wr) (fun _ iv _ => ln1 - (intOf iv).toNat)
  case atStart => exact ⟨0, ⟨#[]⟩, rfl, rfl, Nat.zero_le _, by decide, hid (Sp.nil ts), Below.refl _ _⟩
  case round =>
    obtain ⟨i, z, rfl, rfl, hi, hzs, HSP, hbr⟩ := hrel
    by_cases hlt : i < ln1
    rotate_left 1
    · have hni : ¬ (i : Int) < (ln1 : Int) := by omega
      have HZ := hid (show Sp ts ts.length z by have := HSP.out; rwa [show i = ts.length by have := HX.out.2; omega] at this)
      have hz9 : z.size ≤ 65536 * 65537 := Nat.le_trans hzs (Nat.mul_le_mul_right _ (by omega))
      clear hzs
      go_upto_region 15 with (go_at_call 8; refine (tokens_res F z m _ (by have := Hs.out; have := hbr.size; omega) ((hbr.cell (p := ⟨1, 0, none⟩) (by have := Hs.out; show 1 < _; omega)).trans Hm.out) (fun i hi h1 h2 wx hx => HFs.out z i hi h1 h2 wx ((HB.out.trans (hbr.mono HB.out.size)).trans (hx.mono (Nat.le_trans HB.out.size hbr.size))))).mono ?_; rintro e w3 ⟨la2, ln2, lc2, c2, q2, rfl, hb3, r2⟩; have D2 := Bx.made w3 (.int .i64 (c2 : Nat)) (.int .i64 (q2 : Nat)) 26; have hbw3 := hbr.trans (hb3.mono hbr.size); have HR2 := hid r2; clear r2)
      have x4 : Below w3.heap.size w3 (w3.alloc (.cells #[.int .i64 (c2 : Nat), .int .i64 (q2 : Nat)] 26)) := below_alloc w3 _
      refine gen_world _ (fun W4 hW4 => ?_)
      rw [← hW4] at D2 x4
      have hbw4 := hbw3.trans (x4.mono hbw3.size)
      have T1 := HT1.out.below hbw4
      have T2 := fun us h => ((HR2.out.ok us h).2.2).below x4
      have HB4 := hid (HB.out.trans (hbw4.mono HB.out.size))
      have p2 := D2.c0
      clear hW4 hbw4 hbw3 x4 D2 hb3 hbr
      generalize w3.heap.size = B2 at p2 ⊢
      by_cases hlong : (65536 : Int) < (z.size : Int)
      · have h3 : c2 = 2 := (HR2.out.er 2 0 (lex_long (by omega))).1
        subst h3
        have HTT := hid (And.intro T1 T2)
        clear T1 T2
        go_wp2_with fail
        go_ret
        exact ⟨rfl, HB4.out⟩
      have hspr : (spr ts).length ≤ 65536 := by
        have h2 : z.size = (spr ts).length := by rw [HZ.out.done.1, size_list]
        omega
      obtain ⟨us, hA, hlex⟩ := spread HX.out.1 HZ.out.done.2 hspr
      clear hspr
      rw [← HZ.out.done.1] at hlex
      obtain ⟨h3, m2, -⟩ := HR2.out.ok us hlex
      have T2 := T2 us hlex
      subst h3
      have hln : ln2 = ln1 := by have := HX.out.2; have := hA.1; omega
      subst hln
      have HA := hid (And.intro hA m2)
      have HT1' := hid T1
      have HT2' := hid T2
      have hk2 : ln2 ≤ 65536 := HR2.out.mx
      clear T1 T2 hA hlex m2
      have HSZ := hid (And.intro hz9 hi)
      clear hz9 hi hni
      go_wp2_with fail
      clear hlong
      go_loopw [10] (fun iv wr => ∃ i : Nat, iv = .int .i64 (i : Nat) ∧ i ≤ ln2 ∧ Below W4.heap.size W4 wr) (fun iv _ => ln2 - (intOf iv).toNat)
      case atStart => exact ⟨0, rfl, Nat.zero_le _, Below.refl _ _⟩
      case round =>
        obtain ⟨i, rfl, hi, hbr⟩ := hrel
        by_cases hlt : i < ln2
        rotate_left 1
        · have hni : ¬ (i : Int) < (ln2 : Int) := by omega
          go_wp2_with fail
          go_ret
          exact ⟨rfl, HB4.out.trans (hbr.mono HB4.out.size)⟩
        have hli : (i : Int) < (ln2 : Int) := by omega
        obtain ⟨t, ht⟩ : ∃ t, ts[i]? = some t := ⟨_, List.getElem?_eq_getElem (by have := HX.out.2; omega)⟩
        obtain ⟨pp, hu⟩ := HA.out.1.2 i t ht
        obtain ⟨x, off, sg, aa, nn, c, rfl, ⟨x0, x1, x2, x3, x4, -, -⟩, mg⟩ := (HT1'.out.below hbr).at ht
        obtain ⟨x', off', sg', aa', nn', c', rfl, ⟨y0, y1, y2, y3, y4, -, -⟩, mg'⟩ := (HT2'.out.below hbr).at hu
        replace y0 : wr.cell? ⟨x', off' + i * 7, none⟩ = some (.int .i64 (t.kind : Nat)) := y0
        replace y1 : wr.cell? ⟨x', off' + i * 7 + 1, none⟩ = some (.string ⟨t.text.toArray⟩) := y1
        replace y4 : wr.cell? ⟨x', off' + i * 7 + 4, none⟩ = some (.int .u64 (t.bits : Nat)) := y4
        obtain ⟨f, hUs, hn1, -, -, hv1⟩ := mg
        obtain ⟨g, hUs', hn2, -, -, hv2⟩ := mg'
        have hcmp : cmpI (ival sg (val f nn)) (ival sg' (val g nn')) = 0 := by rw [hv1, show ival sg' (val g nn') = t.num from hv2]; exact cmp_same _
        have HC := hid (And.intro hUs (And.intro hUs' (And.intro hn1 (And.intro hn2 hcmp))))
        have HTT := hid (And.intro ht hu)
        clear hUs hUs' hn1 hn2 hcmp hv1 hv2 ht hu
        obtain ⟨tt, htt⟩ : ∃ tt : ByteArray, (⟨t.text.toArray⟩ : ByteArray) = tt := ⟨_, rfl⟩
        rw [htt] at x1 y1
        have HTX := hid htt
        clear htt
        generalize t.kind = tk at *
        generalize t.bits = tb at *
        have hS0 := And.intro x2 (And.intro x3 (And.intro y2 y3))
        go_wp2_with fail
        refine region_T (S := fun wx => wx.cell? ⟨x, off + i * 7 + 2, none⟩ = some (.bool sg) ∧ wx.cell? ⟨x, off + i * 7 + 3, none⟩ = some (.slice aa nn c) ∧ wx.cell? ⟨x', off' + i * 7 + 2, none⟩ = some (.bool sg') ∧ wx.cell? ⟨x', off' + i * 7 + 3, none⟩ = some (.slice aa' nn' c')) (T := fun j => j == 11) (by kernel_rfl) ?_
        refine anyT_take (i := 0) (v := ?_) rfl (by kernel_rfl) (by kernel_rfl) (by kernel_rfl) (by kernel_rfl) (by kernel_rfl) (fun _ _ _ h => h) (Or.inl ⟨by rfl, ?_⟩) (by simpa using hS0) ?_
        rotate_left 1
        · intro wz hz; obtain ⟨_, _, _, _⟩ := hz; go_simp; try with_reducible rfl
        try simp only [Act.put, List.setIfInBounds_toArray, List.set_cons_zero, List.set_cons_succ]
        refine anyT_take (i := 1) (v := ?_) rfl (by kernel_rfl) (by kernel_rfl) (by kernel_rfl) (by kernel_rfl) (by kernel_rfl) (fun _ _ _ h => h) (Or.inl ⟨by rfl, ?_⟩) (by simpa using hS0) ?_
        rotate_left 1
        · intro wz hz; obtain ⟨_, _, _, _⟩ := hz; go_simp; try with_reducible rfl
        try simp only [Act.put, List.setIfInBounds_toArray, List.set_cons_zero, List.set_cons_succ]
        refine anyT_take (i := 2) (v := ?_) rfl (by kernel_rfl) (by kernel_rfl) (by kernel_rfl) (by kernel_rfl) (by kernel_rfl) (fun _ _ _ h => h) (Or.inl ⟨by rfl, ?_⟩) (by simpa using hS0) ?_
        rotate_left 1
        · intro wz hz; obtain ⟨_, _, _, _⟩ := hz; go_simp; try with_reducible rfl
        try simp only [Act.put, List.setIfInBounds_toArray, List.set_cons_zero, List.set_cons_succ]
        refine anyT_take (i := 3) (v := ?_) rfl (by kernel_rfl) (by kernel_rfl) (by kernel_rfl) (by kernel_rfl) (by kernel_rfl) (fun _ _ _ h => h) (Or.inl ⟨by rfl, ?_⟩) (by simpa using hS0) ?_
        rotate_left 1
        · intro wz hz; obtain ⟨_, _, _, _⟩ := hz; go_simp; try with_reducible rfl
        try simp only [Act.put, List.setIfInBounds_toArray, List.set_cons_zero, List.set_cons_succ]
        refine anyT_take (i := 4) (v := ?_) rfl (by kernel_rfl) (by kernel_rfl) (by kernel_rfl) (by kernel_rfl) (by kernel_rfl) (fun _ _ _ h => h) (Or.inl ⟨by rfl, ?_⟩) (by simpa using hS0) ?_
        rotate_left 1
        · intro wz hz; obtain ⟨_, _, _, _⟩ := hz; go_simp; try with_reducible rfl
        try simp only [Act.put, List.setIfInBounds_toArray, List.set_cons_zero, List.set_cons_succ]
        refine anyT_take (i := 5) (v := ?_) rfl (by kernel_rfl) (by kernel_rfl) (by kernel_rfl) (by kernel_rfl) (by kernel_rfl) (fun _ _ _ h => h) (Or.inl ⟨by rfl, ?_⟩) (by simpa using hS0) ?_
        rotate_left 1
        · intro wz hz; obtain ⟨_, _, _, _⟩ := hz; go_simp; try with_reducible rfl
        try simp only [Act.put, List.setIfInBounds_toArray, List.set_cons_zero, List.set_cons_succ]
        refine anyT_take (i := 6) (v := ?_) rfl (by kernel_rfl) (by kernel_rfl) (by kernel_rfl) (by kernel_rfl) (by kernel_rfl) (fun _ _ _ h => h) (Or.inl ⟨by rfl, ?_⟩) (by simpa using hS0) ?_
        rotate_left 1
        · intro wz hz; obtain ⟨_, _, _, _⟩ := hz; go_simp; try with_reducible rfl
        try simp only [Act.put, List.setIfInBounds_toArray, List.set_cons_zero, List.set_cons_succ]
        refine anyT_take (i := 7) (v := ?_) rfl (by kernel_rfl) (by kernel_rfl) (by kernel_rfl) (by kernel_rfl) (by kernel_rfl) (fun _ _ _ h => h) (Or.inl ⟨by rfl, ?_⟩) (by simpa using hS0) ?_
        rotate_left 1
        · intro wz hz; obtain ⟨_, _, _, _⟩ := hz; go_simp; try with_reducible rfl
        try simp only [Act.put, List.setIfInBounds_toArray, List.set_cons_zero, List.set_cons_succ]
        refine anyT_take (i := 8) (v := ?_) rfl (by kernel_rfl) (by kernel_rfl) (by kernel_rfl) (by kernel_rfl) (by kernel_rfl) (fun _ _ _ h => h) (Or.inl ⟨by rfl, ?_⟩) (by simpa using hS0) ?_
        rotate_left 1
        · intro wz hz; obtain ⟨_, _, _, _⟩ := hz; go_simp; try with_reducible rfl
        try simp only [Act.put, List.setIfInBounds_toArray, List.set_cons_zero, List.set_cons_succ]
        refine anyT_take (i := 9) (v := ?_) rfl (by kernel_rfl) (by kernel_rfl) (by kernel_rfl) (by kernel_rfl) (by kernel_rfl) (fun _ _ _ h => h) (Or.inl ⟨by rfl, ?_⟩) (by simpa using hS0) ?_
        rotate_left 1
        · intro wz hz; obtain ⟨_, _, _, _⟩ := hz; go_simp; try with_reducible rfl
        try simp only [Act.put, List.setIfInBounds_toArray, List.set_cons_zero, List.set_cons_succ]
        refine anyT_one (i := 10) (by kernel_rfl) rfl (fun K hK => ?_)
        rw [if_pos (by rfl)]
        go_simp
        have hd := (Below.refl wr.heap.size wr).drew
        have u1 := HC.out.1.below hd (Nat.le_refl _)
        have u2 := HC.out.2.1.below hd (Nat.le_refl _)
        refine (rcmp_any _ _ _ _ _ _ _ _ _ _ _ (by have := HC.out.2.2.1; omega) (by have := HC.out.2.2.2.1; omega) u1 u2).mono ?_
        rintro e w6 ⟨rfl, hb6⟩
        rw [HC.out.2.2.2.2]
        have hb7 := hd.trans (hb6.mono hd.size)
        have hxl := World.block_lt_of_cell? wr _ x0
        have hyl := World.block_lt_of_cell? wr _ y0
        have hS6 := And.intro ((hb7.cell (p := ⟨x, off + i * 7 + 2, none⟩) hxl).trans x2) (And.intro ((hb7.cell (p := ⟨x, off + i * 7 + 3, none⟩) hxl).trans x3) (And.intro ((hb7.cell (p := ⟨x', off' + i * 7 + 2, none⟩) hyl).trans y2) ((hb7.cell (p := ⟨x', off' + i * 7 + 3, none⟩) hyl).trans y3)))
        have x0 := (hb7.cell (p := ⟨x, off + i * 7, none⟩) hxl).trans x0
        have x1 := (hb7.cell (p := ⟨x, off + i * 7 + 1, none⟩) hxl).trans x1
        have x4 := (hb7.cell (p := ⟨x, off + i * 7 + 4, none⟩) hxl).trans x4
        have y0 := (hb7.cell (p := ⟨x', off' + i * 7, none⟩) hyl).trans y0
        have y1 := (hb7.cell (p := ⟨x', off' + i * 7 + 1, none⟩) hyl).trans y1
        have y4 := (hb7.cell (p := ⟨x', off' + i * 7 + 4, none⟩) hyl).trans y4
        have HB7 := hid (hbr.trans (hb7.mono hbr.size))
        refine hK.out _ _ (fun _ => hS6) ?_
        clear hK K hS6 u1 u2 hb6 hb7 hd hxl hyl
        try simp only [Act.put, List.setIfInBounds_toArray, List.set_cons_zero, List.set_cons_succ]
        refine anyT_one (i := 11) (by kernel_rfl) rfl (fun K hK => ?_)
        go_simp
        refine hK.out _ _ (fun h => by cases h) ?_
        clear hK K
        try simp only [Act.put, List.setIfInBounds_toArray, List.set_cons_zero, List.set_cons_succ]
        refine anyT_done (by kernel_rfl) ?_ _
        go_wp2_with fail
        go_quiet (fail)
        go_wp2_with fail
        exact ⟨⟨i + 1, rfl, by omega, HB7.out.trans (dN _ _ _)⟩, by simp [intOf]; omega⟩
    have hli : (i : Int) < (ln1 : Int) := by omega
    obtain ⟨t, ht⟩ : ∃ t, ts[i]? = some t := ⟨_, List.getElem?_eq_getElem (by have := HX.out.2; omega)⟩
    obtain ⟨wx, woff, wsg, wa, wnn, wc, rfl, ⟨x0, x1, -, -, -, -, -⟩, -⟩ := (HT1.out.below hbr).at ht
    have HTT := hid ht
    by_cases h7 : t.kind = 7
    · rw [h7] at x0
      clear ht h7
      go_wp2_with fail
      go_ret
      exact ⟨rfl, HB.out.trans (hbr.mono HB.out.size)⟩
    by_cases h6 : t.kind = 6
    · rw [h6] at x0
      clear ht h7 h6
      go_wp2_with fail
      go_ret
      exact ⟨rfl, HB.out.trans (hbr.mono HB.out.size)⟩
    have hsh := words_short ts 0 (lex_words HX.out.1).2 i t ht h6 h7
    have hsa := (lex_words HX.out.1).1
    obtain ⟨tt, htt⟩ : ∃ tt : ByteArray, (⟨t.text.toArray⟩ : ByteArray) = tt := ⟨_, rfl⟩
    have hts : tt.size ≤ 65536 := by rw [← htt, size_list]; omega
    rw [htt] at x1
    have e7 : ((t.kind : Int) == 7) = false := beq_eq_false_iff_ne.mpr (by omega)
    have e6 : ((t.kind : Int) == 6) = false := beq_eq_false_iff_ne.mpr (by omega)
    obtain ⟨K, hK⟩ : ∃ K, t.kind = K := ⟨_, rfl⟩
    rw [hK] at x0 e7 e6
    have HK := hid (And.intro h6 (And.intro h7 (And.intro hK htt)))
    clear h6 h7 hK htt hsh hsa ht
    by_cases h0 : i = 0
    · have hi0 : ¬ (0 : Int) < (i : Int) := by omega
      have hS : Hid (Sp ts (i + 1) (z ++ ⟨t.text.toArray⟩)) := hid (by subst h0; exact HSP.out.first HTT.out HK.out.1 HK.out.2.1)
      have hcat : ¬ 9223372036854775807 < z.size + tt.size := by omega
      have H0 := hid h0
      clear h0
      go_wp2_with fail
      refine ⟨⟨i + 1, z ++ tt, rfl, rfl, by omega, by rw [size_cat]; omega, ?_, hbr⟩, by simp [intOf]; omega⟩
      have := hS.out
      rw [HK.out.2.2.2] at this
      exact hid this
    · have hi0 : (0 : Int) < (i : Int) := by omega
      have hS := hid (HSP.out.next (by omega) HTT.out HK.out.1 HK.out.2.1)
      have hcat : ¬ 9223372036854775807 < z.size + 1 := by have : i * 65537 ≤ 65536 * 65537 := Nat.mul_le_mul_right _ (by omega); omega
      have hcat2 : ¬ 9223372036854775807 < z.size + 1 + tt.size := by have : i * 65537 ≤ 65536 * 65537 := Nat.mul_le_mul_right _ (by omega); omega
      clear h0
      go_wp2_with fail
      refine ⟨⟨i + 1, z ++ ⟨#[32]⟩ ++ tt, rfl, rfl, by omega, by rw [size_cat, size_cat]; show z.size + 1 + tt.size ≤ _; omega, ?_, hbr⟩, by simp [intOf]; omega⟩
      have := hS.out
      rw [HK.out.2.2.2] at this
      exact hid this
theorem lexSpread_full (l : List UInt8) (m : Int) (w : World) (hb1 : 1 < w.heap.size) (hm : w.cell? ⟨1, 0, none⟩ = some (.int .i64 m)) (hL : laidMetH Tryz.prog Rows.lexTokensUptoRow.laid w) (_ : l.length ≤ 281474976710656) :
    Calls Tryz.prog 5 #[.string ⟨l.toArray⟩] w fun e w' => e = .returned (.bool true) ∧ Below w.heap.size w w' := by
  obtain ⟨x, off, y, off2, z, off3, ht⟩ := TL_of_laid hL
  exact lexSpread_walk _ ⟨l.toArray⟩ m w hb1 hm (fun s => pfs_laid (Nat.le_refl _) ht s)
end Go.Proofs.YtajpeeccomgnnaaGreatDoor
