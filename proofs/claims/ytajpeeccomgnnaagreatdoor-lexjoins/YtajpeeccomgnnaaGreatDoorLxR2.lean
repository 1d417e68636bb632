/-
  The reference's blank, short, name, walked.
-/
import Derived.Test.YtajpeeccomgnnaaGreatDoorLxR1
import Derived.Test.YtajpeeccomgnnaaGreatDoorLxRrs
namespace Go.Proofs.YtajpeeccomgnnaaGreatDoor
set_option linter.all false
open Go Go.RowKit

/-- What the reference's blank answers. -/
def OutRB (w w' : World) (s : ByteArray) (e : Ending) (r : Option Nat) : Prop :=
  Below w.heap.size w w' ∧
  match r with
  | some k => e = .returned (.tuple #[.int .i64 (k : Nat), .agg #[.int .i64 0, .int .i64 0]])
  | none => e = .returned (.tuple #[.int .i64 (s.size : Nat), .agg #[.int .i64 31, .int .i64 (s.size : Nat)]])
set_option maxRecDepth 100000 in
set_option maxHeartbeats 8000000 in
theorem rblank_any (s : ByteArray) (p : Nat) (w : World) (hs : s.size ≤ 65536) (hp : p ≤ s.size) :
    Calls Tryz.prog 17 #[.string s, .int .i64 (p : Nat)] w fun e w' => OutRB w w' s e (blankE s 0 p) := by
  obtain ⟨R, HE⟩ : ∃ R, Hid (blankE s 0 p = R) := ⟨_, hid rfl⟩
  rw [HE.out]
  have B0 := Bx.made w (.int .i64 0) (.int .i64 0) 26
  have hal := below_alloc w (.cells #[.int .i64 0, .int .i64 0] 26)
  go_enter Tryz.func17, Tryz.ntmps17
  go_wp2_with fail
  generalize w.alloc (.cells #[.int .i64 0, .int .i64 0] 26) = W1 at B0 hal ⊢
  have e0 := B0.c0
  have e1 := B0.c1
  have ef := B0.fr
  go_loopw [1, 6] (fun iv dv wr => wr = W1 ∧ ∃ d q : Nat, iv = .int .i64 (q : Nat) ∧ dv = .int .i64 (d : Nat) ∧ d ≤ q ∧ q ≤ s.size ∧ Hid (blankE s d q = R)) (fun iv _ _ => s.size - (intOf iv).toNat)
  case atStart => exact ⟨rfl, 0, p, rfl, rfl, by omega, hp, HE⟩
  case round =>
    obtain ⟨hw, d, q, rfl, rfl, hdq, hq, HN⟩ := hrel
    obtain rfl := hw.symm
    have HU := blankE_unfold (s := s) (d := d) hq
    by_cases hlt : q < s.size
    rotate_left 1
    · have hqe : q = s.size := by omega
      subst hqe
      have hz := bt_out (s := s) (i := s.size) (by omega)
      have hni : ¬ (s.size : Int) < (s.size : Int) := by omega
      rw [if_neg (by omega), if_neg (by omega), HN.out] at HU
      clear hz
      by_cases hd : 0 < d
      · rw [if_pos ⟨hd, by omega⟩] at HU
        have hdi : (0 : Int) < (d : Int) := by omega
        subst HU
        go_wp2_with (go_at_call 16; refine (bad_any 31 s.size _).mono ?_; rintro e w2 ⟨rfl, hb⟩; have E := B0.keep hb; have f0 := E.c0; have f1 := E.c1; have ff := E.fr)
        refine bodyPost_ret (v := .tuple #[.int .i64 (s.size : Nat), .agg #[.int .i64 31, .int .i64 (s.size : Nat)]]) (by simp [results, Tryz.results17, go_sem, f0, f1]) rfl ?_
        exact ⟨((hal.trans (hb.mono hal.size)).setCell (Nat.le_refl _) _).setCell (Nat.le_refl _) _, rfl⟩
      · rw [if_neg (by omega), if_neg (by omega)] at HU
        have hdi : ¬ (0 : Int) < (d : Int) := by omega
        subst HU
        go_wp2_with fail
        refine bodyPost_ret (v := .tuple #[.int .i64 (s.size : Nat), .agg #[.int .i64 0, .int .i64 0]]) (by simp [results, Tryz.results17, go_sem, e0, e1]) rfl ?_
        exact ⟨(hal.setCell (Nat.le_refl _) _).setCell (Nat.le_refl _) _, rfl⟩
    have hlti : (q : Int) < (s.size : Int) := by omega
    have hix : ∀ w, (Instr.index 9 (.string s) (.int .i64 (q : Int))).run Tryz.prog w = .ok (.int .u8 (bt s q : Nat)) w := fun w => run_bt Tryz.underlying9 hlt rfl
    obtain ⟨c, hc⟩ : ∃ c, bt s q = c := ⟨_, rfl⟩
    obtain ⟨c1, hc1⟩ : ∃ c1, bt s (q + 1) = c1 := ⟨_, rfl⟩
    have hc6 : c < 256 := hc ▸ bt_lt s _
    have hc16 : c1 < 256 := hc1 ▸ bt_lt s _
    have hin1 : c1 ≠ 0 → q + 1 < s.size := fun x => bt_in2 hc1 x
    rw [hc, hc1] at HU
    rw [hc] at hix
    have HC1 := hid hc1
    clear hc hc1
    by_cases hA : c = 40 ∧ c1 = 42
    · obtain ⟨rfl, rfl⟩ := hA
      have h1 := hin1 (by omega)
      rw [if_pos ⟨rfl, rfl⟩, HN.out] at HU
      have HN2 := hid HU.symm
      clear HU hin1
      go_wp2_with (go_at_call 36; refine (rat_any s (q + 1) _ (by omega) (by omega)).mono ?_; rintro e w2 ⟨rfl, rfl⟩; rw [HC1.out])
      exact ⟨⟨trivial, d + 1, q + 2, rfl, rfl, by omega, by omega, HN2⟩, by simp [intOf]; omega⟩
    rw [if_neg hA] at HU
    by_cases hB : 0 < d ∧ c = 42 ∧ c1 = 41
    · obtain ⟨hd, rfl, rfl⟩ := hB
      have h1 := hin1 (by omega)
      rw [if_pos ⟨hd, rfl, rfl⟩, HN.out] at HU
      have HN2 := hid HU.symm
      have hdi : (0 : Int) < (d : Int) := by omega
      clear HU hin1
      go_wp2_with (go_at_call 36; refine (rat_any s (q + 1) _ (by omega) (by omega)).mono ?_; rintro e w2 ⟨rfl, rfl⟩; rw [HC1.out])
      exact ⟨⟨trivial, d - 1, q + 2, rfl, congrArg (Value.int .i64) (by omega), by omega, by omega, HN2⟩, by simp [intOf]; omega⟩
    rw [if_neg hB, if_neg (by omega)] at HU
    clear hin1
    by_cases hd : 0 < d
    · rw [if_pos (Or.inl hd), HN.out] at HU
      have HN2 := hid HU.symm
      have hdi : (0 : Int) < (d : Int) := by omega
      clear HU
      by_cases e40 : c = 40
      · subst e40
        have c1n42 : ¬ (c1 : Int) = 42 := by omega
        have c1b42 : ((c1 : Int) == 42) = false := by simp; omega
        go_wp2_with (go_at_call 36; refine (rat_any s (q + 1) _ (by omega) (by omega)).mono ?_; rintro e w2 ⟨rfl, rfl⟩; rw [HC1.out])
        exact ⟨⟨trivial, d, q + 1, rfl, rfl, by omega, by omega, HN2⟩, by simp [intOf]; omega⟩
      by_cases e42 : c = 42
      · subst e42
        have c1n41 : ¬ (c1 : Int) = 41 := by omega
        have c1b41 : ((c1 : Int) == 41) = false := by simp; omega
        go_wp2_with (go_at_call 36; refine (rat_any s (q + 1) _ (by omega) (by omega)).mono ?_; rintro e w2 ⟨rfl, rfl⟩; rw [HC1.out])
        exact ⟨⟨trivial, d, q + 1, rfl, rfl, by omega, by omega, HN2⟩, by simp [intOf]; omega⟩
      have cn40 : ¬ (c : Int) = 40 := by omega
      have cb40 : ((c : Int) == 40) = false := by simp; omega
      have cn42 : ¬ (c : Int) = 42 := by omega
      have cb42 : ((c : Int) == 42) = false := by simp; omega
      go_wp2_with fail
      exact ⟨⟨trivial, d, q + 1, rfl, rfl, by omega, by omega, HN2⟩, by simp [intOf]; omega⟩
    have hd0 : d = 0 := by omega
    subst hd0
    by_cases hbk : c = 32 ∨ c = 9 ∨ c = 10 ∨ c = 13
    · rw [if_pos (Or.inr ⟨hlt, hbk⟩), HN.out] at HU
      have HN2 := hid HU.symm
      clear HU
      rcases hbk with rfl | rfl | rfl | rfl
      all_goals
        go_wp2_with fail
        exact ⟨⟨trivial, 0, q + 1, rfl, rfl, by omega, by omega, HN2⟩, by simp [intOf]; omega⟩
    rw [if_neg (by omega), HN.out] at HU
    subst HU
    have hfin : OutRB w ((W1.setCell ⟨w.heap.size, 0, none⟩ (.int .i64 0)).setCell ⟨w.heap.size, 1, none⟩ (.int .i64 0)) s (.returned (.tuple #[.int .i64 (q : Nat), .agg #[.int .i64 0, .int .i64 0]])) (some q) := ⟨(hal.setCell (Nat.le_refl _) _).setCell (Nat.le_refl _) _, rfl⟩
    have HFIN := hid hfin
    clear hfin
    have cn32 : ¬ (c : Int) = 32 := by omega
    have cb32 : ((c : Int) == 32) = false := by simp; omega
    have cn9 : ¬ (c : Int) = 9 := by omega
    have cb9 : ((c : Int) == 9) = false := by simp; omega
    have cn10 : ¬ (c : Int) = 10 := by omega
    have cb10 : ((c : Int) == 10) = false := by simp; omega
    have cn13 : ¬ (c : Int) = 13 := by omega
    have cb13 : ((c : Int) == 13) = false := by simp; omega
    by_cases e40 : c = 40
    · subst e40
      have c1n42 : ¬ (c1 : Int) = 42 := by omega
      have c1b42 : ((c1 : Int) == 42) = false := by simp; omega
      go_wp2_with (go_at_call 36; refine (rat_any s (q + 1) _ (by omega) (by omega)).mono ?_; rintro e w2 ⟨rfl, rfl⟩; rw [HC1.out])
      exact bodyPost_ret (v := .tuple #[.int .i64 (q : Nat), .agg #[.int .i64 0, .int .i64 0]]) (by simp [results, Tryz.results17, go_sem, e0, e1]) rfl HFIN.out
    have cn40 : ¬ (c : Int) = 40 := by omega
    have cb40 : ((c : Int) == 40) = false := by simp; omega
    go_wp2_with fail
    exact bodyPost_ret (v := .tuple #[.int .i64 (q : Nat), .agg #[.int .i64 0, .int .i64 0]]) (by simp [results, Tryz.results17, go_sem, e0, e1]) rfl HFIN.out

/-- A word that the reference tells, or its refusal. -/
def ResW (w w' : World) (e : Ending) (r : Ans) : Prop :=
  Below w.heap.size w w' ∧
  match r with
  | .ok (t, n) => ∃ sg a nn c, e = .returned (.tuple #[.agg #[.int .i64 (t.kind : Nat), .string ⟨t.text.toArray⟩, .bool sg, .slice a nn c, .int .u64 (t.bits : Nat), .int .i64 (t.n : Nat), .int .i64 0], .int .i64 (n : Nat), .agg #[.int .i64 0, .int .i64 0]]) ∧ Mg w' sg a nn c t.num
  | .error (c, q) => ∃ k0 n : Int, e = .returned (.tuple #[.agg #[.int .i64 k0, .string ⟨#[]⟩, .bool false, .slice none 0 0, .int .u64 0, .int .i64 0, .int .i64 0], .int .i64 n, .agg #[.int .i64 (c : Nat), .int .i64 (q : Nat)]])
/-- The two blocks of the answers, still nought. -/
structure Rb (w wx : World) : Prop where
  lt : w.heap.size + 1 < wx.heap.size
  t0 : wx.cell? ⟨w.heap.size, 0, none⟩ = some (.int .i64 0)
  t1 : wx.cell? ⟨w.heap.size, 1, none⟩ = some (.string ⟨#[]⟩)
  t2 : wx.cell? ⟨w.heap.size, 2, none⟩ = some (.bool false)
  t3 : wx.cell? ⟨w.heap.size, 3, none⟩ = some (.slice none 0 0)
  t4 : wx.cell? ⟨w.heap.size, 4, none⟩ = some (.int .u64 0)
  t5 : wx.cell? ⟨w.heap.size, 5, none⟩ = some (.int .i64 0)
  t6 : wx.cell? ⟨w.heap.size, 6, none⟩ = some (.int .i64 0)
  m0 : wx.cell? ⟨w.heap.size + 1, 0, none⟩ = some (.int .i64 0)
  m1 : wx.cell? ⟨w.heap.size + 1, 1, none⟩ = some (.int .i64 0)
  ft : ∀ o, wx.frozen? ⟨w.heap.size, o, none⟩ = false
  fm : ∀ o, wx.frozen? ⟨w.heap.size + 1, o, none⟩ = false
  bl : Below w.heap.size w wx
theorem Rb.keep {w wx wy : World} (k : Rb w wx) (hb : Below wx.heap.size wx wy) : Rb w wy := by
  have hl := k.lt
  have hs := hb.size
  refine ⟨by omega, ?_, ?_, ?_, ?_, ?_, ?_, ?_, ?_, ?_, fun o => (hb.frozen (p := ⟨w.heap.size, o, none⟩) (by simp only; omega)).trans (k.ft o), fun o => (hb.frozen (p := ⟨w.heap.size + 1, o, none⟩) (by simp only; omega)).trans (k.fm o), k.bl.trans (hb.mono k.bl.size)⟩
  · exact (hb.cell (p := ⟨w.heap.size, 0, none⟩) (by simp only; omega)).trans k.t0
  · exact (hb.cell (p := ⟨w.heap.size, 1, none⟩) (by simp only; omega)).trans k.t1
  · exact (hb.cell (p := ⟨w.heap.size, 2, none⟩) (by simp only; omega)).trans k.t2
  · exact (hb.cell (p := ⟨w.heap.size, 3, none⟩) (by simp only; omega)).trans k.t3
  · exact (hb.cell (p := ⟨w.heap.size, 4, none⟩) (by simp only; omega)).trans k.t4
  · exact (hb.cell (p := ⟨w.heap.size, 5, none⟩) (by simp only; omega)).trans k.t5
  · exact (hb.cell (p := ⟨w.heap.size, 6, none⟩) (by simp only; omega)).trans k.t6
  · exact (hb.cell (p := ⟨w.heap.size + 1, 0, none⟩) (by simp only; omega)).trans k.m0
  · exact (hb.cell (p := ⟨w.heap.size + 1, 1, none⟩) (by simp only; omega)).trans k.m1
theorem Rb.made (w : World) : Rb w ((w.alloc (.cells #[.int .i64 0, .string ⟨#[]⟩, .bool false, .slice none 0 0, .int .u64 0, .int .i64 0, .int .i64 0] 39)).alloc (.cells #[.int .i64 0, .int .i64 0] 26)) := by
  have hb := below_alloc (w.alloc (.cells #[.int .i64 0, .string ⟨#[]⟩, .bool false, .slice none 0 0, .int .u64 0, .int .i64 0, .int .i64 0] 39)) (.cells #[.int .i64 0, .int .i64 0] 26)
  have hs : (w.alloc (.cells #[.int .i64 0, .string ⟨#[]⟩, .bool false, .slice none 0 0, .int .u64 0, .int .i64 0, .int .i64 0] 39)).heap.size = w.heap.size + 1 := by simp
  have c := fun (j : Nat) (v : Value) (e : (#[.int .i64 0, .string ⟨#[]⟩, .bool false, .slice none 0 0, .int .u64 0, .int .i64 0, .int .i64 0] : Array Value)[j]? = some v) => (hb.cell (p := ⟨w.heap.size, j, none⟩) (by simp)).trans ((World.cell?_alloc_new w _ 39 j).trans e)
  have B := Bx.made (w.alloc (.cells #[.int .i64 0, .string ⟨#[]⟩, .bool false, .slice none 0 0, .int .u64 0, .int .i64 0, .int .i64 0] 39)) (.int .i64 0) (.int .i64 0) 26
  rw [hs] at B
  refine ⟨by simp, c 0 _ rfl, c 1 _ rfl, c 2 _ rfl, c 3 _ rfl, c 4 _ rfl, c 5 _ rfl, c 6 _ rfl, B.c0, B.c1, fun o => (hb.frozen (p := ⟨w.heap.size, o, none⟩) (by simp)).trans (World.frozen?_alloc_new w _ _ o), B.fr, (below_alloc w _).trans (hb.mono (by simp))⟩
/-- The token's block and the error's, filled. -/
def put9 (w wx : World) (v0 v1 v2 v3 v4 v5 v6 u0 u1 : Value) : World :=
  ((((((((wx.setCell ⟨w.heap.size, 0, none⟩ v0).setCell ⟨w.heap.size, 1, none⟩ v1).setCell ⟨w.heap.size, 2, none⟩ v2).setCell ⟨w.heap.size, 3, none⟩ v3).setCell ⟨w.heap.size, 4, none⟩ v4).setCell ⟨w.heap.size, 5, none⟩ v5).setCell ⟨w.heap.size, 6, none⟩ v6).setCell ⟨w.heap.size + 1, 0, none⟩ u0).setCell ⟨w.heap.size + 1, 1, none⟩ u1
theorem Rb.put {w wx : World} (k : Rb w wx) (v0 v1 v2 v3 v4 v5 v6 u0 u1 : Value) : Below w.heap.size w (put9 w wx v0 v1 v2 v3 v4 v5 v6 u0 u1) := by
  unfold put9
  exact ((((((((k.bl.setCell (Nat.le_refl _) _).setCell (Nat.le_refl _) _).setCell (Nat.le_refl _) _).setCell (Nat.le_refl _) _).setCell (Nat.le_refl _) _).setCell (Nat.le_refl _) _).setCell (Nat.le_refl _) _).setCell (Nat.le_succ _) _).setCell (Nat.le_succ _) _

theorem cell_two_a (w : World) (A B : Array Value) (t u : TypeId) (j : Nat) : ((w.alloc (.cells A t)).alloc (.cells B u)).cell? ⟨w.heap.size, j, none⟩ = A[j]? :=
  ((below_alloc (w.alloc (.cells A t)) (.cells B u)).cell (p := ⟨w.heap.size, j, none⟩) (by simp)).trans (World.cell?_alloc_new w A t j)
theorem cell_two_b (w : World) (A B : Array Value) (t u : TypeId) (j : Nat) : ((w.alloc (.cells A t)).alloc (.cells B u)).cell? ⟨w.heap.size + 1, j, none⟩ = B[j]? := by
  have h := World.cell?_alloc_new (w.alloc (.cells A t)) B u j
  have hs : (w.alloc (.cells A t)).heap.size = w.heap.size + 1 := by simp
  rw [hs] at h
  exact h
theorem Rb.usk {w wx : World} (k : Rb w wx) (v0 v1 v2 v3 v4 v5 v6 u0 u1 : Value) : UsK wx (put9 w wx v0 v1 v2 v3 v4 v5 v6 u0 u1) := by
  have ne : ∀ (W : World) (b i j : Nat) (v : Value), i ≠ j → (W.setCell ⟨b, i, none⟩ v).cell? ⟨b, j, none⟩ = W.cell? ⟨b, j, none⟩ := fun W b i j v h => World.cell?_setCell_other _ _ _ _ (by intro e; simp only [Addr.mk.injEq, and_true, true_and] at e; omega)
  have nb : ∀ (W : World) (i j : Nat) (v : Value), (W.setCell ⟨w.heap.size, i, none⟩ v).cell? ⟨w.heap.size + 1, j, none⟩ = W.cell? ⟨w.heap.size + 1, j, none⟩ := fun W i j v => World.cell?_setCell_other _ _ _ _ (by intro e; simp only [Addr.mk.injEq] at e; omega)
  unfold put9
  have s0 := (UsK.refl wx).set k.t0 (fun _ h => by cases h) v0
  have s1 := s0.set (p := ⟨w.heap.size, 1, none⟩) (v := .string ⟨#[]⟩) (by simpa [ne] using k.t1) (fun _ h => by cases h) v1
  have s2 := s1.set (p := ⟨w.heap.size, 2, none⟩) (v := .bool false) (by simpa [ne] using k.t2) (fun _ h => by cases h) v2
  have s3 := s2.set (p := ⟨w.heap.size, 3, none⟩) (v := .slice none 0 0) (by simpa [ne] using k.t3) (fun _ h => by cases h) v3
  have s4 := s3.set (p := ⟨w.heap.size, 4, none⟩) (v := .int .u64 0) (by simpa [ne] using k.t4) (fun _ h => by cases h) v4
  have s5 := s4.set (p := ⟨w.heap.size, 5, none⟩) (v := .int .i64 0) (by simpa [ne] using k.t5) (fun _ h => by cases h) v5
  have s6 := s5.set (p := ⟨w.heap.size, 6, none⟩) (v := .int .i64 0) (by simpa [ne] using k.t6) (fun _ h => by cases h) v6
  have s7 := s6.set (p := ⟨w.heap.size + 1, 0, none⟩) (v := .int .i64 0) (by simpa [nb] using k.m0) (fun _ h => by cases h) u0
  exact s7.set (p := ⟨w.heap.size + 1, 1, none⟩) (v := .int .i64 0) (by simpa [nb, ne] using k.m1) (fun _ h => by cases h) u1
theorem ResW.open {w1 w2 : World} {e : Ending} {R : Ans} (h : ResW w1 w2 e R) : ∃ (x0 : Int) (x1 : ByteArray) (x2 : Bool) (x3 : Option Addr) (x4 x5 : Nat) (x6 x7 x8 n u0 u1 : Int),
    e = .returned (.tuple #[.agg #[.int .i64 x0, .string x1, .bool x2, .slice x3 x4 x5, .int .u64 x6, .int .i64 x7, .int .i64 x8], .int .i64 n, .agg #[.int .i64 u0, .int .i64 u1]]) ∧ Below w1.heap.size w1 w2 ∧ ∀ w w3, Below w.heap.size w w3 → UsK w2 w3 → ResW w w3 e R := by
  obtain ⟨hb, h⟩ := h
  rcases R with ⟨c, q⟩ | ⟨t, n⟩
  · obtain ⟨k0, n, rfl⟩ := h
    exact ⟨_, _, _, _, _, _, _, _, _, _, _, _, rfl, hb, fun w w3 h3 _ => ⟨h3, k0, n, rfl⟩⟩
  · obtain ⟨sg, a, nn, c, rfl, m⟩ := h
    exact ⟨_, _, _, _, _, _, _, _, _, _, _, _, rfl, hb, fun w w3 h3 hu => ⟨h3, sg, a, nn, c, rfl, m.keep hu⟩⟩
set_option maxRecDepth 100000 in
set_option maxHeartbeats 4000000 in
theorem rshort_any (s : ByteArray) (i k kind : Nat) (w : World) (hs : s.size ≤ 65536) (hik : i ≤ k) (hk : k ≤ s.size) :
    Calls Tryz.prog 42 #[.string s, .int .i64 (i : Nat), .int .i64 (k : Nat), .int .i64 (kind : Nat)] w fun e w' => ResW w w' e (shortS s i k kind) := by
  have B0 := Rb.made w
  obtain ⟨R, HE⟩ : ∃ R, Hid (shortS s i k kind = R) := ⟨_, hid rfl⟩
  rw [HE.out]
  have h := HE.out
  unfold shortS at h
  by_cases hl : 64 < k - i
  · rw [if_pos hl] at h
    subst h
    have hli : (64 : Int) < (k : Int) - (i : Int) := by omega
    go_enter Tryz.func42, Tryz.ntmps42
    go_wp2_with (go_at_call 16; refine (bad_any 32 i _).mono ?_; rintro e w2 ⟨rfl, hb⟩; have E := B0.keep hb; have f0 := E.t0; have f1 := E.t1; have f2 := E.t2; have f3 := E.t3; have f4 := E.t4; have f5 := E.t5; have f6 := E.t6; have g0 := E.m0; have g1 := E.m1; have hft := E.ft; have hfm := E.fm)
    refine bodyPost_ret (v := .tuple #[.agg #[.int .i64 0, .string ⟨#[]⟩, .bool false, .slice none 0 0, .int .u64 0, .int .i64 0, .int .i64 0], .int .i64 0, .agg #[.int .i64 32, .int .i64 (i : Nat)]]) (by simp [results, Tryz.results42, go_sem, f0, f1, f2, f3, f4, f5, f6, g0, g1]) rfl ?_
    exact ⟨E.put _ _ _ _ _ _ _ _ _, 0, 0, rfl⟩
  · rw [if_neg hl] at h
    subst h
    have hli : ¬ (64 : Int) < (k : Int) - (i : Int) := by omega
    have E := B0
    have f0 := E.t0
    have f1 := E.t1
    have f2 := E.t2
    have f3 := E.t3
    have f4 := E.t4
    have f5 := E.t5
    have f6 := E.t6
    have g0 := E.m0
    have g1 := E.m1
    have hft := E.ft
    have hfm := E.fm
    go_enter Tryz.func42, Tryz.ntmps42
    go_wp2_with fail
    refine bodyPost_ret (v := .tuple #[.agg #[.int .i64 (kind : Nat), .string (s.extract i k), .bool false, .slice none 0 0, .int .u64 0, .int .i64 0, .int .i64 0], .int .i64 (k : Nat), .agg #[.int .i64 0, .int .i64 0]]) (by simp [results, Tryz.results42, go_sem, cell_two_a, cell_two_b]) rfl ?_
    refine ⟨(below_alloc w _).trans ((below_alloc _ _).mono (by simp)), false, none, 0, 0, ?_, Mg.zero _⟩
    rw [ext_sub]
    rfl
set_option maxRecDepth 100000 in
set_option maxHeartbeats 8000000 in
theorem rname_any (s : ByteArray) (p : Nat) (w : World) (hs : s.size ≤ 65536) (hl : isLet (bt s p) = true) :
    Calls Tryz.prog 38 #[.string s, .int .i64 (p : Nat)] w fun e w' => ResW w w' e (nameS s p) := by
  have B0 := Rb.made w
  have hp := let_in hl
  have hk := runE_lt hp (let_nam hl)
  have hks := runE_size (p := isNam) (i := p) (s := s) (by omega)
  unfold nameS
  obtain ⟨k, hkk⟩ : ∃ k, runE isNam s p = k := ⟨_, rfl⟩
  rw [hkk] at hk hks ⊢
  have HK := hid hkk
  clear hl hkk
  rcases hr : rsv (sub s p k) with _ | _
  rotate_left 1
  · rw [if_pos rfl]
    have HR := hid hr
    clear hr
    go_enter Tryz.func38, Tryz.ntmps38
    go_wp2_with (first | (go_at_call 43; refine (rnames_any s p _ (by omega) (by omega)).mono ?_; rintro e w1 ⟨rfl, rfl⟩; rw [HK.out]) | (go_at_call 12; rw [ext_sub s p k]; refine (rreserved_any (sub s p k) _).mono ?_; rintro e w1 ⟨rfl, rfl⟩; rw [HR.out]))
    refine bodyPost_ret (v := .tuple #[.agg #[.int .i64 8, .string (s.extract p k), .bool false, .slice none 0 0, .int .u64 0, .int .i64 0, .int .i64 0], .int .i64 (k : Nat), .agg #[.int .i64 0, .int .i64 0]]) (by simp [results, Tryz.results38, go_sem, cell_two_a, cell_two_b, World.cell?_setCell_same, World.cell?_setCell_other]) rfl ?_
    refine ⟨(below_alloc w _).trans ((below_alloc _ _).mono (by simp)), false, none, 0, 0, ?_, Mg.zero _⟩
    rw [ext_sub]
    rfl
  · rw [if_neg (by simp)]
    rw [show longS s (s.size - k) p k = long s p k from rfl]
    have HR := hid hr
    clear hr
    obtain ⟨R, HE⟩ : ∃ R, Hid (long s p k = R) := ⟨_, hid rfl⟩
    rw [HE.out]
    go_enter Tryz.func38, Tryz.ntmps38
    go_wp2_with (first | (go_at_call 43; refine (rnames_any s p _ (by omega) (by omega)).mono ?_; rintro e w1 ⟨rfl, rfl⟩; rw [HK.out]) | (go_at_call 12; rw [ext_sub s p k]; refine (rreserved_any (sub s p k) _).mono ?_; rintro e w1 ⟨rfl, rfl⟩; rw [HR.out]))
    generalize (w.alloc (.cells #[.int .i64 0, .string ⟨#[]⟩, .bool false, .slice none 0 0, .int .u64 0, .int .i64 0, .int .i64 0] 39)).alloc (.cells #[.int .i64 0, .int .i64 0] 26) = W1 at B0 ⊢
    have E := B0
    have f0 := E.t0
    have f1 := E.t1
    have f2 := E.t2
    have f3 := E.t3
    have f4 := E.t4
    have f5 := E.t5
    have f6 := E.t6
    have g0 := E.m0
    have g1 := E.m1
    have hft := E.ft
    have hfm := E.fm
    clear E
    go_loopw [7, 8] (fun kv _ wr => wr = W1 ∧ ∃ n : Nat, kv = .int .i64 (n : Nat) ∧ p < n ∧ n ≤ s.size ∧ Hid (long s p n = R)) (fun kv _ _ => s.size - (intOf kv).toNat)
    case atStart => exact ⟨rfl, k, rfl, hk, hks, HE⟩
    case round =>
      obtain ⟨hw, n, rfl, hn, hpn, HN⟩ := hrel
      obtain rfl := hw.symm
      have tk1 : True := trivial
      obtain ⟨c, hc⟩ : ∃ c, bt s n = c := ⟨_, rfl⟩
      have hc6 : c < 256 := hc ▸ bt_lt s _
      have HC := hid hc
      by_cases hcp : c = 46
      · subst hcp
        rcases hd : isLet (bt s (n + 1)) with _ | _
        · have HD := hid hd
          have HS := hid (long_stop (s := s) (i := p) (k := n) (fun x => by rw [hd] at x; exact absurd x.2 (by simp)))
          clear hd hc
          go_wp2_with (first | (have _t := tk1; go_at_call 36; refine (rat_any s n _ (by omega) (by omega)).mono ?_; rintro e w1 ⟨rfl, rfl⟩; rw [HC.out]; clear tk1) | (go_at_call 36; refine (rat_any s (n + 1) _ (by omega) (by omega)).mono ?_; rintro e w1 ⟨rfl, rfl⟩) | (go_at_call 37; refine (rletter_any _ _ (bt_lt _ _)).mono ?_; rintro e w1 ⟨rfl, rfl⟩; rw [HD.out]) | (go_at_call 42; refine (rshort_any s p n 1 _ hs (by omega) hpn).mono ?_; intro e w2 hO; obtain ⟨x0, x1, x2, x3, x4, x5, x6, x7, x8, xn, u0, u1, rfl, hb, CC⟩ := hO.open; have CC := hid CC; clear hO; have E := B0.keep hb; have f0 := E.t0; have f1 := E.t1; have f2 := E.t2; have f3 := E.t3; have f4 := E.t4; have f5 := E.t5; have f6 := E.t6; have g0 := E.m0; have g1 := E.m1; have hft := E.ft; have hfm := E.fm))
          refine bodyPost_ret (v := .tuple #[.agg #[.int .i64 x0, .string x1, .bool x2, .slice x3 x4 x5, .int .u64 x6, .int .i64 x7, .int .i64 x8], .int .i64 xn, .agg #[.int .i64 u0, .int .i64 u1]]) (by simp [results, Tryz.results38, go_sem, f0, f1, f2, f3, f4, f5, f6, g0, g1]) rfl ?_
          rw [← HN.out, HS.out]
          exact CC.out w _ (E.put _ _ _ _ _ _ _ _ _) (E.usk _ _ _ _ _ _ _ _ _)
        · have HD := hid hd
          have hlt := let_in hd
          have hcond : bt s n = 46 ∧ isLet (bt s (n + 1)) = true := ⟨HC.out, hd⟩
          have HS := hid (long_step (s := s) (i := p) (k := n) hcond)
          obtain ⟨k2, hk2⟩ : ∃ k2, runE isNam s (n + 1) = k2 := ⟨_, rfl⟩
          have hk3 : n + 1 < k2 := hk2 ▸ runE_lt hlt (let_nam hcond.2)
          have hk4 : k2 ≤ s.size := hk2 ▸ runE_size (by omega)
          rw [hk2] at HS
          have HK2 := hid hk2
          rcases hr2 : rsv (sub s (n + 1) k2) with _ | _
          · have HR2 := hid hr2
            clear hd hc hcond hk2 hr2
            go_wp2_with (first | (have _t := tk1; go_at_call 36; refine (rat_any s n _ (by omega) (by omega)).mono ?_; rintro e w1 ⟨rfl, rfl⟩; rw [HC.out]; clear tk1) | (go_at_call 36; refine (rat_any s (n + 1) _ (by omega) (by omega)).mono ?_; rintro e w1 ⟨rfl, rfl⟩) | (go_at_call 37; refine (rletter_any _ _ (bt_lt _ _)).mono ?_; rintro e w1 ⟨rfl, rfl⟩; rw [HD.out]) | (go_at_call 43; refine (rnames_any s (n + 1) _ (by omega) (by omega)).mono ?_; rintro e w1 ⟨rfl, rfl⟩; rw [HK2.out]) | (go_at_call 12; rw [ext_sub s (n + 1) k2]; refine (rreserved_any (sub s (n + 1) k2) _).mono ?_; rintro e w1 ⟨rfl, rfl⟩; rw [HR2.out]))
            exact ⟨⟨trivial, k2, rfl, by omega, hk4, hid (by rw [← HN.out, HS.out, HR2.out]; rfl)⟩, by simp [intOf]; omega⟩
          · have HR2 := hid hr2
            clear hd hc hcond hk2 hr2
            go_wp2_with (first | (have _t := tk1; go_at_call 36; refine (rat_any s n _ (by omega) (by omega)).mono ?_; rintro e w1 ⟨rfl, rfl⟩; rw [HC.out]; clear tk1) | (go_at_call 36; refine (rat_any s (n + 1) _ (by omega) (by omega)).mono ?_; rintro e w1 ⟨rfl, rfl⟩) | (go_at_call 37; refine (rletter_any _ _ (bt_lt _ _)).mono ?_; rintro e w1 ⟨rfl, rfl⟩; rw [HD.out]) | (go_at_call 43; refine (rnames_any s (n + 1) _ (by omega) (by omega)).mono ?_; rintro e w1 ⟨rfl, rfl⟩; rw [HK2.out]) | (go_at_call 12; rw [ext_sub s (n + 1) k2]; refine (rreserved_any (sub s (n + 1) k2) _).mono ?_; rintro e w1 ⟨rfl, rfl⟩; rw [HR2.out]) | (go_at_call 16; refine (bad_any 32 (n + 1) _).mono ?_; rintro e w2 ⟨rfl, hb⟩; have E := B0.keep hb; have f0 := E.t0; have f1 := E.t1; have f2 := E.t2; have f3 := E.t3; have f4 := E.t4; have f5 := E.t5; have f6 := E.t6; have g0 := E.m0; have g1 := E.m1; have hft := E.ft; have hfm := E.fm))
            refine bodyPost_ret (v := .tuple #[.agg #[.int .i64 0, .string ⟨#[]⟩, .bool false, .slice none 0 0, .int .u64 0, .int .i64 0, .int .i64 0], .int .i64 0, .agg #[.int .i64 32, .int .i64 ((n + 1 : Nat) : Int)]]) (by simp [results, Tryz.results38, go_sem, f0, f1, f2, f3, f4, f5, f6, g0, g1]) rfl ?_
            rw [← HN.out, HS.out, HR2.out, if_pos rfl]
            exact ⟨E.put _ _ _ _ _ _ _ _ _, 0, 0, rfl⟩
      · have cn46 : ¬ (c : Int) = 46 := by omega
        have cb46 : ((c : Int) == 46) = false := by simp; omega
        have HS := hid (long_stop (s := s) (i := p) (k := n) (fun x => hcp (hc ▸ x.1)))
        clear hc
        go_wp2_with (first | (have _t := tk1; go_at_call 36; refine (rat_any s n _ (by omega) (by omega)).mono ?_; rintro e w1 ⟨rfl, rfl⟩; rw [HC.out]; clear tk1) | (go_at_call 42; refine (rshort_any s p n 1 _ hs (by omega) hpn).mono ?_; intro e w2 hO; obtain ⟨x0, x1, x2, x3, x4, x5, x6, x7, x8, xn, u0, u1, rfl, hb, CC⟩ := hO.open; have CC := hid CC; clear hO; have E := B0.keep hb; have f0 := E.t0; have f1 := E.t1; have f2 := E.t2; have f3 := E.t3; have f4 := E.t4; have f5 := E.t5; have f6 := E.t6; have g0 := E.m0; have g1 := E.m1; have hft := E.ft; have hfm := E.fm))
        refine bodyPost_ret (v := .tuple #[.agg #[.int .i64 x0, .string x1, .bool x2, .slice x3 x4 x5, .int .u64 x6, .int .i64 x7, .int .i64 x8], .int .i64 xn, .agg #[.int .i64 u0, .int .i64 u1]]) (by simp [results, Tryz.results38, go_sem, f0, f1, f2, f3, f4, f5, f6, g0, g1]) rfl ?_
        rw [← HN.out, HS.out]
        exact CC.out w _ (E.put _ _ _ _ _ _ _ _ _) (E.usk _ _ _ _ _ _ _ _ _)
end Go.Proofs.YtajpeeccomgnnaaGreatDoor
