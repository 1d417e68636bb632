/-
  The trees of SyntaxDepth's texts: their depth, their shape. Plain.
-/
import Derived.Test.YtkblonfmjlopaaaGreatDoorSyDeep
import Derived.Test.YtkblonfmjlopaaaGreatDoorSxT
import Derived.Test.YtkblonfmjlopaaaGreatDoorSyDp
import Derived.Test.YtkblonfmjlopaaaGreatDoorSyLex
import Derived.BigQuiet
import Derived.Test.YtkblonfmjlopaaaGreatDoorSyOpen
import Derived.MakeChecks
import Derived.LaidLaws
set_option linter.all false
set_option maxRecDepth 1000000
set_option maxHeartbeats 16000000
namespace Go.Proofs.YtkblonfmjlopaaaGreatDoor
open Go Go.RowKit
theorem eVar_dep (t : List UInt8) (m : Nat) : depE (m + 1) (eVar t) = some 1 := rfl
theorem raises_dep (t : List UInt8) : ∀ n m, depE (m + 1 + n) (raises n (eVar t)) = some (n + 1)
  | 0, m => eVar_dep t m
  | n + 1, m => by
    show depE (m + 1 + n + 1) (eKids 15 [raises n (eVar t)]) = _; have ih := raises_dep t n m; show (deL (depE (m + 1 + n)) [raises n (eVar t)] 0).map (1 + ·) = _; unfold deL; rw [ih]; show some (1 + max 0 (n + 1)) = some (n + 1 + 1); exact congrArg some (by omega)
theorem dDec_dep (n : Nat) : deL (depD (n + 1)) [dDec n] 0 = some (n + 2) := by
  have h1 := raises_dep [97] n 0
  have hE : deL (depE (n + 1)) [raises n (eVar [97])] 0 = some (n + 1) := by
    unfold deL; rw [show n + 1 = 0 + 1 + n by omega, h1]; show some (max 0 (n + 1)) = _; exact congrArg some (by omega)
  have hP : deL (depP (n + 1)) [mkPat 2 [120] 0 0 [] [] [] []] 0 = some 1 := rfl
  have hD : depD (n + 1) (dDec n) = some (n + 2) := by
    show (match deL (depP (n + 1)) [mkPat 2 [120] 0 0 [] [] [] []] 0, deL (depE (n + 1)) [raises n (eVar [97])] 0, deL (depF (n + 1)) [] 0 with
      | some a, some b, some c => some (1 + max (max a b) c)
      | _, _, _ => none) = _
    rw [hE, hP]; show some (1 + max (max 1 (n + 1)) 0) = _; exact congrArg some (by omega)
  unfold deL; rw [hD]; show some (max 0 (n + 2)) = _; exact congrArg some (by omega)
theorem raises_wid (t : List UInt8) : ∀ n, widN (raises n (eVar t)) = 12
  | 0 => rfl
  | n + 1 => rfl
theorem raises_gd (t : List UInt8) : ∀ n, gdR (raises n (eVar t)) = true
  | 0 => rfl
  | n + 1 => by
    have ih := raises_gd t n; show gdR (eKids 15 [raises n (eVar t)]) = true; have hw := raises_wid t n
    have : gdL [raises n (eVar t)] = true := by
      unfold gdL; rw [hw, ih]
      rfl
    show (true && (true && (true && (true && (true && (true && (gdL [] && (gdL [raises n (eVar t)] && (gdL [] && (gdL [] && (gdL [] && true))))))))))) = true; rw [this]
    rfl
theorem dDec_gd (n : Nat) : GdL [dDec n] := by
  have h : gdL [raises n (eVar [97])] = true := by
    unfold gdL; rw [raises_wid, raises_gd]
    rfl
  refine gdL_spec ?_; show (decide (2 ≤ widN (dDec n)) || strNd (dDec n)) && gdR (dDec n) && gdL [] = true
  have hr : gdR (dDec n) = true := by
    show (true && (true && (gdL [] && (true && (true && (true && (gdL [mkPat 2 [120] 0 0 [] [] [] []] && (gdL [raises n (eVar [97])] && (gdL [] && (gdL [] && (gdL [] && (gdL [] && (gdL [] && (gdL [] && true)))))))))))))) = true; rw [h]
    rfl
  rw [hr]
  rfl
def aw1 : ByteArray := ⟨#[102, 117, 110, 32, 102, 32, 40, 120, 32, 58, 58, 32, 108, 41, 32, 61, 32, 102, 32, 108, 32, 43, 32, 49, 32, 124, 32, 102, 32, 91, 93, 32, 61, 32, 48, 32, 118, 97, 108, 32, 121, 32, 61, 32, 49, 32, 43, 32, 50, 32, 42, 32, 51]⟩
def aw2 : ByteArray := ⟨#[105, 110, 102, 105, 120, 32, 54, 32, 35, 32, 118, 97, 108, 32, 120, 32, 61, 32, 49]⟩
def wds1 : List Tok := [⟨8,[102,117,110],0,0,0,0⟩,⟨1,[102],0,0,0,4⟩,⟨8,[40],0,0,0,6⟩,⟨1,[120],0,0,0,7⟩,⟨2,[58,58],0,0,0,9⟩,⟨1,[108],0,0,0,12⟩,⟨8,[41],0,0,0,13⟩,⟨8,[61],0,0,0,15⟩,⟨1,[102],0,0,0,17⟩,⟨1,[108],0,0,0,19⟩,⟨2,[43],0,0,0,21⟩,⟨4,[49],1,0,0,23⟩,⟨8,[124],0,0,0,25⟩,⟨1,[102],0,0,0,27⟩,⟨8,[91],0,0,0,29⟩,⟨8,[93],0,0,0,30⟩,⟨8,[61],0,0,0,32⟩,⟨4,[48],0,0,0,34⟩,⟨8,[118,97,108],0,0,0,36⟩,⟨1,[121],0,0,0,40⟩,⟨8,[61],0,0,0,42⟩,⟨4,[49],1,0,0,44⟩,⟨2,[43],0,0,0,46⟩,⟨4,[50],2,0,0,48⟩,⟨2,[42],0,0,0,50⟩,⟨4,[51],3,0,0,52⟩]
def wds2 : List Tok := [⟨8,[105,110,102,105,120],0,0,0,0⟩,⟨4,[54],6,0,0,6⟩,⟨8,[35],0,0,0,8⟩,⟨8,[118,97,108],0,0,0,10⟩,⟨1,[120],0,0,0,14⟩,⟨8,[61],0,0,0,16⟩,⟨4,[49],1,0,0,18⟩]
def okW (r : Except (Nat × Nat) (List Tok)) (l : List Tok) : Bool := match r with
  | .ok x => tokL x l
  | .error _ => false
theorem okW_eq {r : Except (Nat × Nat) (List Tok)} {l : List Tok} (h : okW r l = true) : r = .ok l := by
  unfold okW at h
  split at h
  · rw [tokL_eq h]
  · cases h
theorem lex1 : lexS F0 aw1 = .ok wds1 := okW_eq (by decide +kernel)
theorem lex2 : lexS F0 aw2 = .ok wds2 := okW_eq (by decide +kernel)
def shp1 : List Nd → Bool
  | [[.v (.int .i64 2), .v (.string _), .sl _, .v (.int .i64 _), .v (.bool _), .v (.bool _), .sl _, .sl _, .sl [[.v (.string _), .v (.int .i64 _), .sl [_, _]]], .sl _, .sl _, .sl _, .sl _, .sl _], _] => true
  | _ => false
theorem shp1_eq {l : List Nd} (h : shp1 l = true) : ∃ p1 p2 p3 p4 p5 p6 p7 q0 q1 q2 q3 p9 p10 p11 p12 p13 r, l = [[.v (.int .i64 2), .v (.string p1), .sl p2, .v (.int .i64 p3), .v (.bool p4), .v (.bool p5), .sl p6, .sl p7, .sl [[.v (.string q0), .v (.int .i64 q1), .sl [q2, q3]]], .sl p9, .sl p10, .sl p11, .sl p12, .sl p13], r] := by
  unfold shp1 at h
  split at h
  · exact ⟨_, _, _, _, _, _, _, _, _, _, _, _, _, _, _, _, _, rfl⟩
  · cases h
def chk1 : Option (Except (Nat × Nat) (List Nd)) → Bool
  | some (.ok l) => gdL l && shp1 l && (match deL (depD 40) l 0 with | some d => decide (d ≤ 200) | none => false)
  | _ => false
theorem chk1_eq {r : Option (Except (Nat × Nat) (List Nd))} (h : chk1 r = true) : ∃ l d, r = some (.ok l) ∧ gdL l = true ∧ shp1 l = true ∧ deL (depD 40) l 0 = some d ∧ d ≤ 200 := by
  unfold chk1 at h
  split at h
  · rename_i l; rw [Bool.and_eq_true, Bool.and_eq_true] at h; obtain ⟨⟨h1, h2⟩, h3⟩ := h
    split at h3
    · rename_i d hd; exact ⟨l, d, rfl, h1, h2, hd, of_decide_eq_true h3⟩
    · cases h3
  · cases h
def chkE (c q : Nat) : Option (Except (Nat × Nat) (List Nd × PSt)) → Bool
  | some (.error (a, b)) => a == c && b == q
  | _ => false
theorem chkE_eq {c q : Nat} {r : Option (Except (Nat × Nat) (List Nd × PSt))} (h : chkE c q r = true) : r = some (.error (c, q)) := by
  unfold chkE at h
  split at h
  · rw [Bool.and_eq_true, beq_iff_eq, beq_iff_eq] at h; rw [h.1, h.2]
  · cases h
theorem par1 : ∃ l d, parseP ⟨wds1, aw1.size⟩ (fsR ⟨wds1, aw1.size⟩ 24) = some (.ok l) ∧ gdL l = true ∧ shp1 l = true ∧ deL (depD 40) l 0 = some d ∧ d ≤ 200 := chk1_eq (by decide +kernel)
theorem par2 : (fsR ⟨wds2, aw2.size⟩ 20).decs true ⟨0, begin0⟩ = some (.error (40, 8)) := chkE_eq (by decide +kernel)
def okT (t : Tok) : Bool := decide (t.text.length ≤ 65536) && decide (t.pos ≤ 65536) && (decide (t.kind ≠ 4) || decide (t.text ≠ [])) && decide (t.kind ≤ 8)
theorem wd_of {tx : ByteArray} {ts : List Tok} (h1 : ts.length ≤ 65536) (h2 : tx.size ≤ 65536) (h : ts.all okT = true) : WdOk tx ts := by
  refine ⟨h1, h2, fun i t ht => ?_⟩; have hm := List.all_eq_true.mp h t (List.mem_of_getElem? ht); unfold okT at hm; simp only [Bool.and_eq_true, Bool.or_eq_true, decide_eq_true_eq] at hm; refine ⟨hm.1.1.1, hm.1.1.2, fun q => ?_, hm.2⟩
  rcases hm.1.2 with k | k
  · exact absurd q k
  · exact k
theorem wdok1 : WdOk aw1 wds1 := wd_of (by decide) (by decide) (by decide)
theorem wdok2 : WdOk aw2 wds2 := wd_of (by decide) (by decide) (by decide)
theorem hq_of {X : Tx} {f : Fs} {r : List Nd} (h : parseP X f = some (.ok r)) : ∀ l s1, f.decs true ⟨0, begin0⟩ = some (.ok (l, s1)) → ¬ s1.i < X.ts.length := fun l s1 h1 => by
  rcases parseP_cases h with ⟨c, q, h2, h3⟩ | ⟨l', s', h2, h3⟩
  · cases h3
  · rw [h2] at h1; cases h1
    rcases h3 with ⟨_, h3⟩ | ⟨h3, _⟩
    · cases h3
    · exact h3
theorem hq_er {X : Tx} {f : Fs} {c q : Nat} (h : f.decs true ⟨0, begin0⟩ = some (.error (c, q))) : ∀ l s1, f.decs true ⟨0, begin0⟩ = some (.ok (l, s1)) → ¬ s1.i < X.ts.length := fun l s1 h1 => by
  rw [h] at h1; cases h1
theorem par_er {X : Tx} {f : Fs} {c q : Nat} (h : f.decs true ⟨0, begin0⟩ = some (.error (c, q))) : parseP X f = some (.error (c, q)) := by
  unfold parseP topP
  rw [show ((f.decs true >>= fun l => _ : PM (List Nd)) : PM (List Nd)) ⟨0, begin0⟩ = some (.error (c, q)) by
    show PM.bind _ _ _ = _; unfold PM.bind
    rw [h]]
theorem pfs_of {F : List UInt8 → Nat} {s : ByteArray} (h : ∀ i, i < s.size → (isDig (bt s i) = true ∨ bt s i = 126 ∧ isDig (bt s (i + 1)) = true) → numE s (numF s (numW s i)) = numW s i) (base : Nat) (w : World) : PFs F base w s := fun i h1 h2 _ => by
  have hi : i < s.size := by
    rcases Nat.lt_or_ge i s.size with q | q
    · exact q
    · exfalso; rw [bt_out q] at h1
      rcases h1 with h1 | h1
      · revert h1; decide
      · exact absurd h1.1 (by decide)
  exact absurd (h i hi h1) h2
theorem pfs1 (base : Nat) (w : World) : PFs F0 base w aw1 := pfs_of (by decide +kernel) base w
theorem pfs2 (base : Nat) (w : World) : PFs F0 base w aw2 := pfs_of (by decide +kernel) base w
theorem WOk.mono {w w' : World} (h : WOk w) (hb : Below w.heap.size w w') : WOk w' := by
  obtain ⟨m, hm⟩ := h.mx; exact ⟨Nat.lt_of_lt_of_le h.big hb.size, ⟨m, (hb.cell (p := ⟨3, 0, none⟩) h.big).trans hm⟩, fun w2 h2 => h.sp w2 (hb.trans (h2.mono hb.size)), fun w2 h2 => h.p10 w2 (hb.trans (h2.mono hb.size))⟩
theorem tok_ok {s : ByteArray} {ts : List Tok} {w : World} (hW : WOk w) (hp : ∀ base w, PFs F0 base w s) (hl : lexS F0 s = .ok ts) : ∀ w', Below w.heap.size w w' → Calls Tryz.prog 9 #[.string s] w' fun e w2 => Below w'.heap.size w' w2 ∧ ∃ la lc, e = .returned (.tuple #[.slice la ts.length lc, .agg #[.int .i64 0, .int .i64 0]]) ∧ Toks w2 la ts.length lc ts ∧ New w2 w'.heap.size la (lc * 7) := fun w' hb => by
  have h := hW.mono hb; obtain ⟨m, hm⟩ := h.mx; refine (tokens_any F0 s m w' h.big hm (hp _ _)).mono fun e w2 ho => ?_; rw [hl] at ho; exact ho
theorem IsSl.first {w : World} {F : Nat → Prop} {r : Nd} {l : List Nd} {a : Option Addr} {n c : Nat} (h : IsSl w F (r :: l) (.slice a n c)) : n = l.length + 1 ∧ n ≤ c ∧ c ≤ maxLen ∧ ∃ b off cs, a = some ⟨b, off, none⟩ ∧ F b ∧ RepR w F r cs ∧ ∀ j, j < cs.length → w.cell? ⟨b, off + j, none⟩ = cs[j]? := by
  obtain ⟨a', c', e, h⟩ := h; cases e; unfold RepT at h; obtain ⟨a2, c2, e, hl, hm, h⟩ := h; cases e; refine ⟨rfl, hl, hm, ?_⟩
  rcases h with h | ⟨b, off, rfl, hF, h⟩
  · cases h
  · unfold RepL at h; obtain ⟨⟨cs, h1, h2⟩, _⟩ := h; exact ⟨b, off, cs, rfl, hF, h2, h1⟩
theorem shp1_cells {w : World} {F : Nat → Prop} {l : List Nd} {v : Value} (hs : shp1 l = true) (h : IsSl w F l v) (hF : ∀ b, F b → b < w.heap.size) : ∃ b off c b8 o8 c8 a2 c2, v = .slice (some ⟨b, off, none⟩) 2 c ∧ 2 ≤ c ∧ b < w.heap.size ∧ w.cell? ⟨b, off, none⟩ = some (.int .i64 2) ∧ w.cell? ⟨b, off + 8, none⟩ = some (.slice (some ⟨b8, o8, none⟩) 1 c8) ∧ 1 ≤ c8 ∧ b8 < w.heap.size ∧ w.cell? ⟨b8, o8 + 2, none⟩ = some (.slice a2 2 c2) := by
  obtain ⟨p1, p2, p3, p4, p5, p6, p7, q0, q1, q2, q3, p9, p10, p11, p12, p13, r, rfl⟩ := shp1_eq hs; obtain ⟨a, c, rfl, h⟩ := h; have h : IsSl w F _ (.slice a _ c) := ⟨a, c, rfl, h⟩; obtain ⟨_, hlc, _, b, off, cs, rfl, hb, hr, hc⟩ := h.first; obtain ⟨a2, c2, a6, c6, a7, c7, a8, c8, a9, c9, a10, c10, a11, c11, a12, c12, a13, c13, rfl, l2, l6, l7, l8, l9, l10, l11, l12, l13⟩ := sh_Dec hr; obtain ⟨_, hlc8, _, b8, o8, cs8, rfl, hb8, hr8, hc8⟩ := l8.first; obtain ⟨a2', c2', rfl, _⟩ := sh_Fun hr8; exact ⟨b, off, c, b8, o8, c8, a2', c2', rfl, hlc, hF b hb, hc 0 (by show 0 < 14; omega), hc 8 (by show 8 < 14; omega), hlc8, hF b8 hb8, hc8 2 (by show 2 < 3; omega)⟩
theorem par1_any (w : World) (hW : WOk w) : Calls Tryz.prog 6 #[.string aw1] w fun e w' => Below w.heap.size w w' ∧ ∃ b off c b8 o8 c8 a2 c2, e = .returned (.tuple #[.slice (some ⟨b, off, none⟩) 2 c, .agg #[.int .i64 0, .int .i64 0]]) ∧ 2 ≤ c ∧ b < w'.heap.size ∧ w'.cell? ⟨b, off, none⟩ = some (.int .i64 2) ∧ w'.cell? ⟨b, off + 8, none⟩ = some (.slice (some ⟨b8, o8, none⟩) 1 c8) ∧ 1 ≤ c8 ∧ b8 < w'.heap.size ∧ w'.cell? ⟨b8, o8 + 2, none⟩ = some (.slice a2 2 c2) := by
  obtain ⟨l, d, hp, hg, hs, hd, hd2⟩ := par1; refine (parse_any aw1 wds1 w hW wdok1 24 d (by decide) (.ok l) hp (fun l' e => by cases e; exact ⟨gdL_spec hg, 40, hd⟩) (by omega) (hq_of hp) (tok_ok hW pfs1 lex1)).mono ?_; rintro e w' ⟨hb, hr⟩; refine ⟨hb, ?_⟩; simp only [if_neg (show ¬ 200 < d by omega)] at hr; obtain ⟨v, F, rfl, hsl, hF⟩ := hr; obtain ⟨b, off, c, b8, o8, c8, a2, c2, rfl, h⟩ := shp1_cells hs hsl hF; exact ⟨b, off, c, b8, o8, c8, a2, c2, rfl, h⟩
theorem par2_any (w : World) (hW : WOk w) : Calls Tryz.prog 6 #[.string aw2] w fun e w' => Below w.heap.size w w' ∧ e = .returned (.tuple #[.slice none 0 0, .agg #[.int .i64 40, .int .i64 8]]) :=
  parse_any aw2 wds2 w hW wdok2 20 0 (by decide) (.error (40, 8)) (par_er par2) (fun l' e => by cases e) (by decide) (hq_er (X := ⟨wds2, aw2.size⟩) par2) (tok_ok hW pfs2 lex2)
theorem awake_any (w : World) (hW : WOk w) : Calls Tryz.prog 5 #[] w fun e w' => e = .returned (.bool true) ∧ Below w.heap.size w w' := by
  have HW := hid hW; clear hW; go_enter Tryz.func5, Tryz.ntmps5
  go_upto_region 2 with (go_at_call 6; refine (par1_any w HW.out).mono ?_; rintro e w1 ⟨hb, b, off, c, b8, o8, c8, a2, c2, rfl, hc, hbl, k0, k8, hc8, hbl8, k2⟩; have HB1 := hid hb; clear hb)
  have HB2 := hid (HB1.out.trans ((below_alloc w1 (.cells #[.int .i64 0, .int .i64 0] 26)).mono HB1.out.size)); have HM2 := hid (BxC.new w1 #[.int .i64 0, .int .i64 0] 26)
  go_upto_region 3 with (go_at_call 6; refine (par2_any _ (HW.out.mono HB2.out)).mono ?_; rintro e w3 ⟨hb3, rfl⟩; have HB3 : Hid (Below (w1.alloc (.cells #[.int .i64 0, .int .i64 0] 26)).heap.size (w1.alloc (.cells #[.int .i64 0, .int .i64 0] 26)) w3) := hid hb3; clear hb3)
  have b13 := (below_alloc w1 (.cells #[.int .i64 0, .int .i64 0] 26)).trans (HB3.out.mono (below_alloc w1 _).size); have b34 := below_alloc w3 (.cells #[.int .i64 40, .int .i64 8] 26); have b14 := b13.trans (b34.mono b13.size); have HF := hid (HB1.out.trans (b14.mono HB1.out.size)); have HM4 := hid ((HM2.out.bl HB3.out).bl b34); have HN4 := hid (BxC.new w3 #[.int .i64 40, .int .i64 8] 26); have k0 := (b14.cell (p := ⟨b, off, none⟩) hbl).trans k0; have k8 := (b14.cell (p := ⟨b, off + 8, none⟩) hbl).trans k8; have k2 := (b14.cell (p := ⟨b8, o8 + 2, none⟩) hbl8).trans k2; obtain ⟨m0, m1⟩ := bx2 HM4.out.2.2; obtain ⟨n0, n1⟩ := bx2 HN4.out.2.2; generalize hW4 : w3.alloc (.cells #[.int .i64 40, .int .i64 8] 26) = W4 at HF k0 k8 k2 m0 m1 n0 n1 ⊢; clear b13 b34 b14 HM4 HN4 hbl hbl8
  go_wp2_with fail
  go_ret; exact ⟨rfl, HF.out⟩
theorem dparse_any (n k : Nat) (hn : n ≤ 400) (hk : k ≤ 400) (w : World) (hW : WOk w) : Calls Tryz.prog 6 #[.string ⟨(dText n k).toArray⟩] w fun e w' => Below w.heap.size w w' ∧ (if 200 < n + 2 then e = .returned (.tuple #[.slice none 0 0, .agg #[.int .i64 3, .int .i64 0]]) else ∃ a c, e = .returned (.tuple #[.slice a 1 c, .agg #[.int .i64 0, .int .i64 0]])) := by
  obtain ⟨ts, hl, hm, hp⟩ := lex_depth F0 n k hn hk; have hsz : (⟨(dText n k).toArray⟩ : ByteArray).size = 9 + 6 * n + 2 * k := by rw [← dText_len]; rfl
  have hlen : ts.length = 4 + n + 2 * k := by
    have := congrArg List.length hm; rw [List.length_map] at this; rw [this]; unfold dWords; simp only [List.length_append, List.length_cons, List.length_replicate, List.length_nil]; omega
  have hwd : WdOk ⟨(dText n k).toArray⟩ ts := by
    refine ⟨by omega, by omega, fun i t ht => ?_⟩
    have h1 : (t.kind, t.text) ∈ dWords n k := by
      rw [← hm]; exact List.mem_map.mpr ⟨t, List.mem_of_getElem? ht, rfl⟩
    have h2 : ∀ x ∈ dWords n k, x.2.length ≤ 65536 ∧ x.1 ≠ 4 ∧ x.1 ≤ 8 := by
      intro x hx; unfold dWords at hx; simp only [List.mem_append, List.mem_cons, List.mem_replicate, List.not_mem_nil, or_false] at hx
      rcases hx with (rfl | rfl | rfl) | ⟨_, rfl⟩ | ⟨_, rfl⟩ | rfl | ⟨_, rfl⟩ <;> decide
    obtain ⟨q1, q2, q3⟩ := h2 _ h1; exact ⟨q1, hp t (List.mem_of_getElem? ht), fun e => absurd e q2, q3⟩
  have hpf : ∀ base w, PFs F0 base w ⟨(dText n k).toArray⟩ := fun base w => pfs_of (fun i hi h => by
    exfalso
    have h3 : ∀ x ∈ dText n k, isDig x.toNat = false ∧ x.toNat ≠ 126 := by
      intro x hx; unfold dText at hx; rw [List.mem_append] at hx
      have h4 : ∀ (m : Nat) (R : List UInt8), (∀ x ∈ R, isDig x.toNat = false ∧ x.toNat ≠ 126) → ∀ x ∈ rTx m R, isDig x.toNat = false ∧ x.toNat ≠ 126 := by
        intro m
        induction m with
        | zero => intro R h x hx; exact h x hx
        | succ m ih =>
          intro R h x hx; simp only [rTx, List.mem_cons] at hx
          rcases hx with rfl | rfl | rfl | rfl | rfl | rfl | hx
          · decide
          · decide
          · decide
          · decide
          · decide
          · decide
          · exact ih R h x hx
      rcases hx with hx | hx
      · revert x; decide
      · refine h4 n _ (fun y hy => ?_) x hx; simp only [List.mem_append, List.mem_cons, List.mem_replicate] at hy
        rcases hy with ⟨_, rfl⟩ | rfl | ⟨_, rfl⟩ <;> decide
    have h5 : ∃ x ∈ dText n k, bt ⟨(dText n k).toArray⟩ i = x.toNat := by
      rw [Lib.size_eq] at hi; refine ⟨(dText n k)[i]'hi, List.getElem_mem _, ?_⟩; unfold bt; rw [List.getElem?_eq_getElem hi]
      rfl
    obtain ⟨x, hx, e⟩ := h5; obtain ⟨q1, q2⟩ := h3 x hx; rw [e] at h
    rcases h with h | h
    · rw [q1] at h; cases h
    · exact q2 h.1) base w
  have hpp := depth_parse (X := ⟨ts, (⟨(dText n k).toArray⟩ : ByteArray).size⟩) (m := 0) hm; refine (parse_any _ ts w hW hwd (4 * k + 5 + 0 + n + 1) (n + 2) (by omega) (.ok [dDec n]) hpp (fun l' e => by cases e; exact ⟨dDec_gd n, n + 1, dDec_dep n⟩) (by omega) (hq_of hpp) (tok_ok hW hpf hl)).mono ?_; rintro e w' ⟨hb, hr⟩; refine ⟨hb, ?_⟩
  by_cases hd : 200 < n + 2
  · simp only [if_pos hd] at hr; rw [if_pos hd]; exact hr
  · simp only [if_neg hd] at hr; rw [if_neg hd]; obtain ⟨v, F, rfl, ⟨a, c, rfl, _⟩, _⟩ := hr; exact ⟨a, c, rfl⟩
def txA (i : Nat) : List UInt8 := ([118, 97, 108, 32, 120, 32, 61, 32] : List UInt8) ++ rTx i []
def txB (i j : Nat) : List UInt8 := txA i ++ List.replicate j 40
def txC (i j q : Nat) : List UInt8 := txB i j ++ 97 :: List.replicate q 41
theorem txA_len (i : Nat) : (txA i).length = 8 + 6 * i := by unfold txA; rw [List.length_append, rTx_len]; simp
theorem txB_len (i j : Nat) : (txB i j).length = 8 + 6 * i + j := by unfold txB; rw [List.length_append, txA_len]; simp
theorem txC_len (i j q : Nat) : (txC i j q).length = 9 + 6 * i + j + q := by unfold txC; rw [List.length_append, txB_len]; simp; omega
theorem txA_next (i : Nat) : txA i ++ [114, 97, 105, 115, 101, 32] = txA (i + 1) := by unfold txA; rw [List.append_assoc, rTx_snoc]
theorem txB_0 (i : Nat) : txB i 0 = txA i := by unfold txB; simp
theorem txB_next (i j : Nat) : txB i j ++ [40] = txB i (j + 1) := by unfold txB; rw [List.append_assoc, List.replicate_succ']
theorem txC_0 (i j : Nat) : txB i j ++ [97] = txC i j 0 := rfl
theorem txC_next (i j q : Nat) : txC i j q ++ [41] = txC i j (q + 1) := by unfold txC; rw [List.append_assoc, List.replicate_succ']; rfl
theorem txC_all (i q : Nat) : txC i q q = dText i q := by
  unfold txC txB txA dText; rw [List.append_assoc, List.append_assoc, rTx_app]
theorem depth_any (n k : Int) (w : World) (hW : WOk w) : Calls Tryz.prog 4 #[.int .i64 n, .int .i64 k] w fun e w' => e = .returned (.bool true) ∧ Below w.heap.size w w' := by
  have HW := hid hW; clear hW
  by_cases hin : (0 ≤ n ∧ n ≤ 400) ∧ (0 ≤ k ∧ k ≤ 400)
  · obtain ⟨⟨n0, n4⟩, ⟨k0, k4⟩⟩ := hin; obtain ⟨n, rfl⟩ := Int.eq_ofNat_of_zero_le n0; obtain ⟨k, rfl⟩ := Int.eq_ofNat_of_zero_le k0; have t1 : ¬ (n : Int) < 0 := by omega
    have t2 : ¬ 400 < (n : Int) := by omega
    have t3 : ¬ (k : Int) < 0 := by omega
    have t4 : ¬ 400 < (k : Int) := by omega
    go_enter Tryz.func4, Tryz.ntmps4
    go_wp2_with (go_at_call 5; refine (awake_any w HW.out).mono ?_; rintro e w1 ⟨rfl, hb⟩; have HB := hid hb; clear hb)
    go_loopg [6, 7] n (fun g sv iv wr => ∃ (i : Nat) (sb : ByteArray), sv = .string sb ∧ iv = .int .i64 (i : Nat) ∧ g + i = n ∧ Hid (sb = ⟨(txA i).toArray⟩) ∧ wr = w1)
    case atStart => exact ⟨0, _, rfl, rfl, by omega, hid rfl, rfl⟩
    case round =>
    obtain ⟨i, sb, rfl, rfl, hgi, HT, rfl⟩ := hrel
    by_cases hi : i < n
    · have hlt : (i : Int) < (n : Int) := by omega
      have hsz : sb.size ≤ 4000 := by rw [HT.out]; have := txA_len i; show (txA i).length ≤ 4000; omega
      have hcat : ¬ (9223372036854775807 < sb.size + 6) := by omega
      go_wp2_with fail
      go_roundg (gk - 1)
      case measure => omega
      case rel => exact ⟨i + 1, _, rfl, by first | rfl | (congr 1; omega), by omega, hid (by rw [HT.out]; exact (ByteArray.mk_append_mk (txA i) [114, 97, 105, 115, 101, 32]).trans (by rw [txA_next])), rfl⟩
    · have hlt : ¬ (i : Int) < (n : Int) := by omega
      obtain rfl : i = n := by omega
      have HTA := hid HT.out; clear HT hgi hi hlt
      go_wp2_with fail
      go_loopg [6, 8] k (fun g sv iv wx => ∃ (j : Nat) (sb : ByteArray), sv = .string sb ∧ iv = .int .i64 (j : Nat) ∧ g + j = k ∧ Hid (sb = ⟨(txB i j).toArray⟩) ∧ wx = wr)
      case atStart => exact ⟨0, _, rfl, rfl, by omega, hid (by rw [HTA.out, txB_0]), rfl⟩
      case round =>
      obtain ⟨j, sb, rfl, rfl, hgi, HT, rfl⟩ := hrel
      by_cases hj : j < k
      · have hlt : (j : Int) < (k : Int) := by omega
        have hsz : sb.size ≤ 4000 := by rw [HT.out]; have := txB_len i j; show (txB i j).length ≤ 4000; omega
        have hcat : ¬ (9223372036854775807 < sb.size + 1) := by omega
        go_wp2_with fail
        go_roundg (gk - 1)
        case measure => omega
        case rel => exact ⟨j + 1, _, rfl, by first | rfl | (congr 1; omega), by omega, hid (by rw [HT.out]; exact (ByteArray.mk_append_mk (txB i j) [40]).trans (by rw [txB_next])), rfl⟩
      · have hlt : ¬ (j : Int) < (k : Int) := by omega
        obtain rfl : j = k := by omega
        have HTB := hid HT.out; have hsz : sb.size ≤ 4000 := by rw [HT.out]; have := txB_len i j; show (txB i j).length ≤ 4000; omega
        have hcat : ¬ (9223372036854775807 < sb.size + 1) := by omega
        clear HT hgi hj hlt
        go_wp2_with fail
        go_loopg [6, 9] j (fun g sv iv wx => ∃ (q : Nat) (sc : ByteArray), sv = .string sc ∧ iv = .int .i64 (q : Nat) ∧ g + q = j ∧ Hid (sc = ⟨(txC i j q).toArray⟩) ∧ wx = wr)
        case atStart => exact ⟨0, _, rfl, rfl, by omega, hid (by rw [HTB.out]; exact (ByteArray.mk_append_mk (txB i j) [97]).trans (by rw [txC_0])), rfl⟩
        case round =>
        obtain ⟨q, sc, rfl, rfl, hgi, HT, rfl⟩ := hrel
        by_cases hq : q < j
        · have hlt : (q : Int) < (j : Int) := by omega
          have hsz : sc.size ≤ 4000 := by rw [HT.out]; have := txC_len i j q; show (txC i j q).length ≤ 4000; omega
          have hcat : ¬ (9223372036854775807 < sc.size + 1) := by omega
          go_wp2_with fail
          go_roundg (gk - 1)
          case measure => omega
          case rel => exact ⟨q + 1, _, rfl, by first | rfl | (congr 1; omega), by omega, hid (by rw [HT.out]; exact (ByteArray.mk_append_mk (txC i j q) [41]).trans (by rw [txC_next])), rfl⟩
        · have hlt : ¬ (q : Int) < (j : Int) := by omega
          obtain rfl : q = j := by omega
          have HTC : Hid (sc = ⟨(dText i q).toArray⟩) := hid (by rw [HT.out, txC_all]); clear HT hgi hq hlt; obtain rfl := HTC.out; have hi4 : i ≤ 400 := by omega
          have hq4 : q ≤ 400 := by omega
          by_cases hd : 200 < i + 2
          · have hd2 : (200 : Int) < (i : Int) + 2 := by omega
            go_wp2_with (go_at_call 6; refine (dparse_any i q hi4 hq4 wr (HW.out.mono HB.out)).mono ?_; rintro e w3 ⟨hb, hr⟩; rw [if_pos hd] at hr; subst hr; have HB3 := hid hb; clear hb; have b34 := below_alloc w3 (.cells #[.int .i64 3, .int .i64 0] 26); have HM := hid (BxC.new w3 #[.int .i64 3, .int .i64 0] 26); obtain ⟨m0, m1⟩ := bx2 HM.out.2.2)
            go_ret; exact ⟨rfl, HB.out.trans ((HB3.out.trans (b34.mono HB3.out.size)).mono HB.out.size)⟩
          · have hd2 : ¬ (200 : Int) < (i : Int) + 2 := by omega
            go_wp2_with (go_at_call 6; refine (dparse_any i q hi4 hq4 wr (HW.out.mono HB.out)).mono ?_; rintro e w3 ⟨hb, hr⟩; rw [if_neg hd] at hr; obtain ⟨a, c, rfl⟩ := hr; have HB3 := hid hb; clear hb; have b34 := below_alloc w3 (.cells #[.int .i64 0, .int .i64 0] 26); have HM := hid (BxC.new w3 #[.int .i64 0, .int .i64 0] 26); obtain ⟨m0, m1⟩ := bx2 HM.out.2.2)
            go_ret; exact ⟨rfl, HB.out.trans ((HB3.out.trans (b34.mono HB3.out.size)).mono HB.out.size)⟩
  · by_cases t1 : n < 0
    · go_enter Tryz.func4, Tryz.ntmps4
      go_wp2_with (go_at_call 5; refine (awake_any w HW.out).mono ?_; rintro e w1 ⟨rfl, hb⟩; have HB := hid hb; clear hb)
      go_ret; exact ⟨rfl, HB.out⟩
    · by_cases t2 : 400 < n
      · go_enter Tryz.func4, Tryz.ntmps4
        go_wp2_with (go_at_call 5; refine (awake_any w HW.out).mono ?_; rintro e w1 ⟨rfl, hb⟩; have HB := hid hb; clear hb)
        go_ret; exact ⟨rfl, HB.out⟩
      · by_cases t3 : k < 0
        · go_enter Tryz.func4, Tryz.ntmps4
          go_wp2_with (go_at_call 5; refine (awake_any w HW.out).mono ?_; rintro e w1 ⟨rfl, hb⟩; have HB := hid hb; clear hb)
          go_ret; exact ⟨rfl, HB.out⟩
        · have t4 : 400 < k := by omega
          go_enter Tryz.func4, Tryz.ntmps4
          go_wp2_with (go_at_call 5; refine (awake_any w HW.out).mono ?_; rintro e w1 ⟨rfl, hb⟩; have HB := hid hb; clear hb)
          go_ret; exact ⟨rfl, HB.out⟩
section
set_option maxRecDepth 1000000
noncomputable abbrev rdT (w : World) (fuel : Nat) (t : TypeId) (cs : List Value) : Option (DataW Unit × List MemPlace) := DataW.trod (fun _ => ()) Tryz.prog w 0 (fun _ => true) false fuel t cs
theorem laid_get {W : World} : ∀ {l : List (String × DataW Unit)} {ps : List MemPlace}, DataW.LaidVars Tryz.prog W l ps → ∀ (i : Nat) (n : String) (d : DataW Unit), l[i]? = some (n, d) →
    ∃ g t cs fuel p, Tryz.prog.globalNamed n = some g ∧ (Tryz.prog.globals[g]?).map (·.type) = some t ∧ W.var? Tryz.prog n = some cs ∧ rdT W fuel t cs.toList = some (d, p)
  | [], ps, h, i, n, d, hi => by simp at hi
  | (n0, d0) :: l, ps, h, i, n, d, hi => by
    obtain ⟨g, t, cs, fuel, p, q, h1, h2, h3, h4, h5, h6⟩ := h
    rcases i with _ | i
    · simp only [List.getElem?_cons_zero, Option.some.injEq, Prod.mk.injEq] at hi; obtain ⟨rfl, rfl⟩ := hi; exact ⟨g, t, cs, fuel, p, h1, h2, h3, h4⟩
    · rw [List.getElem?_cons_succ] at hi; exact laid_get h5 i n d hi
theorem laid_tab {W : World} {l : List (String × DataW Unit)} (h : laidMet Tryz.prog l W) (i : Nat) {name : String} {k : IntKind} {zs : List Int} {g : Nat} {t e : TypeId} {n : Nat}
    (hi : l[i]? = some (name, Lib.tabData k zs)) (hg : Tryz.prog.globalNamed name = some g) (hty : (Tryz.prog.globals[g]?).map (·.type) = some t) (ht : Tryz.prog.underlying t = some (.array n e)) (he : Tryz.prog.underlying e = some (.int k)) (hce : Tryz.prog.cellsOf e = 1) (hct : Tryz.prog.cellsOf t = n) : Lib.TabIs Tryz.prog W name k zs := by
  obtain ⟨ps, hl, _⟩ := h; obtain ⟨g', t', cs, fuel, p, hg', ht', hvar, hd⟩ := laid_get hl i _ _ hi; obtain rfl := Option.some.inj (hg.symm.trans hg'); obtain rfl := Option.some.inj (hty.symm.trans ht'); unfold Lib.TabIs; rw [hvar, ← Lib.cells_of_tab ht he hce hct hd]
theorem wok_of {W : World} (hL : laidMetH Tryz.prog Rows.syntaxDepthRow.laid W) (hsh : W.ShapedOpen Tryz.prog) : WOk W := by
  rw [MakeChecks.laidMetH_plain _ _ _ (by kernel_rfl)] at hL; obtain ⟨m, hm⟩ : ∃ m, W.cell? ⟨3, 0, none⟩ = some (.int .i64 m) := Tryz.laysM219.s1_3 W hsh; have hsp : Lib.TabIs Tryz.prog W "strings.asciiSpace" .u8 Lib.asciiSpaceTab := laid_tab hL 13 (g := 0) (t := 123) (n := 256) (by kernel_rfl) (by kernel_rfl) (by kernel_rfl) Tryz.underlying123 (by kernel_rfl) (by kernel_rfl) (by kernel_rfl); have hp10 : Lib.TabIs Tryz.prog W "internal/strconv.uint64pow10" .u64 Lib.pow10Tab := laid_tab hL 8 (g := 14) (t := 322) (n := 20) (by kernel_rfl) (by kernel_rfl) (by kernel_rfl) Tryz.underlying322 (by kernel_rfl) (by kernel_rfl) (by kernel_rfl); exact ⟨World.block_lt_of_cell? W _ hm, ⟨m, hm⟩, fun w' hb => Go.Joins.tab_stays (g := 0) (by kernel_rfl) hsp hb (Nat.le_refl _), fun w' hb => Go.Joins.tab_stays (g := 14) (by kernel_rfl) hp10 hb (Nat.le_refl _)⟩
end
end Go.Proofs.YtkblonfmjlopaaaGreatDoor
