/-
  A clause's frame: the result, the parser's box, the function's variable. Plain.
-/
import Derived.Test.YtkblonfmjlopaaaGreatDoorSyLn
import Derived.Test.YtkblonfmjlopaaaGreatDoorRegTIn
import Derived.Test.YtkblonfmjlopaaaGreatDoorSyE
import Derived.Test.YtkblonfmjlopaaaGreatDoorSyDp
import Derived.Test.YtkblonfmjlopaaaGreatDoorSyLs
import Derived.Test.YtkblonfmjlopaaaGreatDoorSyLi5
import Derived.Test.YtkblonfmjlopaaaGreatDoorSyOpd
import Derived.Test.YtkblonfmjlopaaaGreatDoorSxT
import Derived.Test.YtkblonfmjlopaaaGreatDoorSyMk
import Derived.Deep.Cut
set_option linter.all false
set_option maxRecDepth 1000000
set_option maxHeartbeats 16000000
namespace Go.Proofs.YtkblonfmjlopaaaGreatDoor
open Go Go.RowKit
def MX (M : Nat → Prop) (pb fk : Nat) : Nat → Prop := fun k => M k ∨ k = fk ∨ k = pb
structure CF (G : Gh) (M : Nat → Prop) (na : Option Addr) (nc : Nat) (fa : Option Addr) (fc : Nat) (pb fk : Nat) (Z FV : Array Value) (w : World) (s : PSt) (w3 : World) (s1 : PSt) : Prop where
  kn : Kn G.B (MX M pb fk) w w3
  ps : PS G M na nc fa fc w3 s1
  sc : s1.sc = s.sc
  mono : s.i ≤ s1.i
  res : BxC w3 w.heap.size Z
  bp : BxC w3 pb #[.pointer (some ⟨G.bp, 0, none⟩)]
  bf : BxC w3 fk FV
  hB : G.B ≤ w.heap.size
  mw : ∀ k, M k → k < w.heap.size
  pl : pb < w.heap.size
  fl : fk < w.heap.size
  pB : G.B ≤ pb
  fB : G.B ≤ fk
  np : ¬ M pb
  nf : ¬ M fk
  ne : pb ≠ fk
section
variable {G : Gh} {M : Nat → Prop} {na : Option Addr} {nc : Nat} {fa : Option Addr} {fc : Nat} {pb fk : Nat} {Z FV : Array Value} {w w3 w4 : World} {s s1 s4 : PSt}
theorem CF.nm (h : CF G M na nc fa fc pb fk Z FV w s w3 s1) : ¬ M w.heap.size := fun q => Nat.lt_irrefl _ (h.mw _ q)
theorem CF.sz (h : CF G M na nc fa fc pb fk Z FV w s w3 s1) : w.heap.size < w3.heap.size := h.res.1
theorem CF.go (h : CF G M na nc fa fc pb fk Z FV w s w3 s1) (hk : Kn G.B M w3 w4) (hP : PS G M na nc fa fc w4 s4) (hsc : s4.sc = s1.sc) (hi : s1.i ≤ s4.i) : CF G M na nc fa fc pb fk Z FV w s w4 s4 :=
  ⟨h.kn.go (hk.more fun _ q => .inl q), hP, hsc.trans h.sc, Nat.le_trans h.mono hi, h.res.kn hk h.nm, h.bp.kn hk h.np, h.bf.kn hk h.nf, h.hB, h.mw, h.pl, h.fl, h.pB, h.fB, h.np, h.nf, h.ne⟩
theorem CF.below (h : CF G M na nc fa fc pb fk Z FV w s w3 s1) (hb : Below w3.heap.size w3 w4) : CF G M na nc fa fc pb fk Z FV w s w4 s1 := h.go (Kn.of hb h.ps.bB) (h.ps.new hb) rfl (Nat.le_refl _)
theorem CF.low (h : CF G M na nc fa fc pb fk Z FV w s w3 s1) (hb : Below (w.heap.size + 1) w3 w4) : CF G M na nc fa fc pb fk Z FV w s w4 s1 := by
  have hB := h.hB; have hs := h.sz
  exact ⟨h.kn.low (hb.mono (Nat.le_succ _)) (by omega) (Nat.le_refl _), h.ps.keep (hb.mono (by omega)) (fun k hk => hb.block k (by have := h.mw k hk; omega)), h.sc, h.mono, h.res.keep (hb.block _ (Nat.lt_succ_self _)) hb.size,
    h.bp.keep (hb.block _ (by have := h.pl; omega)) hb.size, h.bf.keep (hb.block _ (by have := h.fl; omega)) hb.size, h.hB, h.mw, h.pl, h.fl, h.pB, h.fB, h.np, h.nf, h.ne⟩
theorem CF.setf (h : CF G M na nc fa fc pb fk Z FV w s w3 s1) (j : Nat) (hj : j < FV.size) (v : Value) : CF G M na nc fa fc pb fk Z (FV.setIfInBounds j v) w s (w3.setCell ⟨fk, j, none⟩ v) s1 := by
  have hot : ∀ b, b ≠ fk → (w3.setCell ⟨fk, j, none⟩ v).heap[b]? = w3.heap[b]? := fun b hb => Below.heap_setCell _ _ _ _ hb; have hsz : (w3.setCell ⟨fk, j, none⟩ v).heap.size = w3.heap.size := by simp [World.setCell]
  exact ⟨h.kn.set (p := ⟨fk, j, none⟩) h.fB (.inr (.inl rfl)) v, h.ps.set (p := ⟨fk, j, none⟩) h.fB h.nf v, h.sc, h.mono, h.res.keep (hot _ (fun e => by have := h.fl; omega)) (by omega), h.bp.keep (hot _ h.ne) (by omega), h.bf.set1 j hj v, h.hB, h.mw, h.pl, h.fl, h.pB, h.fB, h.np, h.nf, h.ne⟩
theorem CF.set1 (h : CF G M na nc fa fc pb fk Z FV w s w3 s1) (j : Nat) (hj : j < Z.size) (v : Value) : CF G M na nc fa fc pb fk (Z.setIfInBounds j v) FV w s (w3.setCell ⟨w.heap.size, j, none⟩ v) s1 := by
  have hot : ∀ b, b ≠ w.heap.size → (w3.setCell ⟨w.heap.size, j, none⟩ v).heap[b]? = w3.heap[b]? := fun b hb => Below.heap_setCell _ _ _ _ hb; have hsz : (w3.setCell ⟨w.heap.size, j, none⟩ v).heap.size = w3.heap.size := by simp [World.setCell]
  have hb : Below w.heap.size w3 (w3.setCell ⟨w.heap.size, j, none⟩ v) := Below.setCell (Below.refl _ _) (p := ⟨w.heap.size, j, none⟩) (Nat.le_refl _) v; exact ⟨h.kn.low hb h.hB (Nat.le_refl _), h.ps.set (p := ⟨w.heap.size, j, none⟩) h.hB h.nm v, h.sc, h.mono, h.res.set1 j hj v, h.bp.keep (hot _ (fun e => by have := h.pl; omega)) (by omega), h.bf.keep (hot _ (fun e => by have := h.fl; omega)) (by omega), h.hB, h.mw, h.pl, h.fl, h.pB, h.fB, h.np, h.nf, h.ne⟩
theorem CF.store (h : CF G M na nc fa fc pb fk Z FV w s w3 s1) (ds : List Value) (hl : ds.length = Z.size) : CF G M na nc fa fc pb fk ds.toArray FV w s (w3.setCells w.heap.size 0 ds) s1 ∧ (∀ b, b ≠ w.heap.size → (w3.setCells w.heap.size 0 ds).heap[b]? = w3.heap[b]?) ∧ (w3.setCells w.heap.size 0 ds).heap.size = w3.heap.size := by
  obtain ⟨g1, g2, g3, g4⟩ := h.res.store ds hl; exact ⟨⟨h.kn.low g4 h.hB (Nat.le_refl _), h.ps.keep (g4.mono h.hB) (fun k hk => g2 k (fun e => by have := h.mw k hk; omega)), h.sc, h.mono, g1, h.bp.keep (g2 _ (fun e => by have := h.pl; omega)) (by omega), h.bf.keep (g2 _ (fun e => by have := h.fl; omega)) (by omega), h.hB, h.mw, h.pl, h.fl, h.pB, h.fB, h.np, h.nf, h.ne⟩, g2, g3⟩
theorem takes_any (hG : GOk G) (h : PS G M na nc fa fc w s) (word : List UInt8) (b : Bool) (s1 : PSt) (ht : takes G.X word s = some (.ok (b, s1))) :
    Calls Tryz.prog 21 #[.pointer (some ⟨G.bp, 0, none⟩), .string ⟨word.toArray⟩] w fun e w' => e = .returned (.bool b) ∧ PS G M na nc fa fc w' s1 ∧ Kn G.B M w w' ∧ s1.sc = s.sc ∧ s.i ≤ s1.i := by
  by_cases hs : seesS G.X [word] s = true
  · rw [takes_y hs] at ht; cases ht; refine (takes_yes hG h word hs).mono ?_; rintro e w' ⟨h1, h2, h3⟩; exact ⟨h1, h2, h3.jp h.mp, rfl, Nat.le_succ _⟩
  · rw [takes_n hs] at ht; cases ht; refine (takes_no hG h word hs).mono ?_; rintro e w' ⟨h1, h2⟩; exact ⟨h1, h.new h2, Kn.of h2 h.bB, rfl, Nat.le_refl _⟩
end
theorem LN.turn {G : Gh} {M : Nat → Prop} {na : Option Addr} {nc : Nat} {fa : Option Addr} {fc lo sz : Nat} {s s1 : PSt} {wr w4 : World} {acc : List Nd} {a : Option Addr} {c : Nat} (h : LN G M na nc fa fc lo sz s wr s1 acc a c) (hP : PS G M na nc fa fc w4 s1) (hz : w4.heap.size = wr.heap.size) (hk : ∀ b, b < G.B ∨ lo ≤ b → w4.heap[b]? = wr.heap[b]?) (_hB : True) : LN G M na nc fa fc lo sz s w4 s1 acc a c := by
  refine ⟨h.sc, h.mono, hP, h.lB, h.mlo, by have := h.lw; omega, ?_⟩
  rcases h.row with q | ⟨A, e, hL⟩
  · exact .inl q
  · have hA1 : lo ≤ A := by obtain ⟨_, q, _⟩ := hL; exact q
    exact .inr ⟨A, e, hL.keep (fun b hb => hk b (hb.imp id fun q => q.1)) (hk A (.inr hA1)) (by omega) (fun b hb => hb.imp id fun q => ⟨q.1, by omega, q.2.2⟩) (fun q => q.elim (fun q => by have := h.lB; omega) (fun q => q.2.2 rfl))⟩
theorem bind_takes {α : Type} {X : Tx} {wd : List UInt8} {f : Bool → PM α} {s : PSt} {r : Except (Nat × Nat) (α × PSt)} (h : (takes X wd >>= f) s = some r) : ∃ b s1, takes X wd s = some (.ok (b, s1)) ∧ f b s1 = some r := by
  by_cases hs : seesS X [wd] s = true
  · rw [takes_bind hs] at h; exact ⟨true, _, takes_y hs, h⟩
  · rw [takes_bind_no hs] at h; exact ⟨false, _, takes_n hs, h⟩
theorem bind_some {α β : Type} {x : PM α} {f : α → PM β} {s : PSt} {r : Except (Nat × Nat) (β × PSt)} (h : (x >>= f) s = some r) :
    ∃ rr, x s = some rr ∧ match rr with
      | .error e => r = .error e
      | .ok (a, s') => f a s' = some r := by
  have h : PM.bind x f s = some r := h; unfold PM.bind at h
  rcases hx : x s with _ | e | ⟨a, s'⟩
  · rw [hx] at h; cases h
  · rw [hx] at h; exact ⟨_, rfl, (Option.some.inj h).symm⟩
  · rw [hx] at h; exact ⟨_, rfl, h⟩
def StC (G : Gh) (pb fk : Nat) (w : World) (g : Byt × Int) : Prop := BxC w pb #[.pointer (some ⟨G.bp, 0, none⟩)] ∧ BxC w fk #[.string ⟨(g.1).toArray⟩, .int .i64 g.2, .slice none 0 0]
section
variable {G : Gh} {f : Fs} {n : Nat}
theorem clause_clo (hG : GOk G) (hn : n ≤ 1000000) (hty : f.ty = PM.none) (hat : FN G 108 #[.pointer (some ⟨G.bp, 0, none⟩)] IsPat (atpat G.X f n)) (hexp : FN G 67 #[.pointer (some ⟨G.bp, 0, none⟩)] IsExp f.exp) (M : Nat → Prop) (na : Option Addr) (nc : Nat) (fa : Option Addr) (fc : Nat) (pb fk : Nat)
    (hmp : M G.bp) (hmn : ∀ b off, na = some ⟨b, off, none⟩ → M b) (hmf : ∀ b off, fa = some ⟨b, off, none⟩ → M b) (hnp : ¬ M pb) (hnf : ¬ M fk) (hne : pb ≠ fk) :
    CloOK G na nc fa fc IsClause 106 #[] #[.pointer (some ⟨pb, 0, none⟩), .pointer (some ⟨fk, 0, none⟩)] (clauseS G.X f n) (fun g : Byt × Int => g) (fun _ => MX M pb fk) (StC G pb fk) := by
  intro w s g r hP hS hx; have hB := hP.bB; have PM0 : PS G M na nc fa fc w s := hP.less (fun _ q => .inl q) hmp hmn hmf; have HN6 := hid hn; have HC0 : Hid (CF G M na nc fa fc pb fk #[.slice none 0 0, .int .i64 0, .string ⟨#[]⟩, .bool false, .slice none 0 0, .int .i64 0, .int .u64 0, .string ⟨#[]⟩, .slice none 0 0, .slice none 0 0, .slice none 0 0, .slice none 0 0, .slice none 0 0] #[.string ⟨(g.1).toArray⟩, .int .i64 g.2, .slice none 0 0] w s (w.alloc (.cells #[.slice none 0 0, .int .i64 0, .string ⟨#[]⟩, .bool false, .slice none 0 0, .int .i64 0, .int .u64 0, .string ⟨#[]⟩, .slice none 0 0, .slice none 0 0, .slice none 0 0, .slice none 0 0, .slice none 0 0] 105)) s) := hid ⟨Kn.of (below_alloc w _) hB, PM0.alloc _, rfl, Nat.le_refl _, BxC.new w _ 105, hS.1.bl (below_alloc w _), hS.2.bl (below_alloc w _), hB, fun k hk => (PM0.mB k hk).2, (hP.mB pb (.inr (.inr rfl))).2, (hP.mB fk (.inr (.inl rfl))).2, (hP.mB pb (.inr (.inr rfl))).1, (hP.mB fk (.inr (.inl rfl))).1, hnp, hnf, hne⟩; clear PM0 hmp hmn hmf hn; unfold clauseS at hx; have hx2 : ∃ b s1, takes G.X [111, 112] s = some (.ok (b, s1)) ∧ _ := bind_takes hx; obtain ⟨b0, s1, ht, hx1⟩ := hx2; rw [get_bind] at hx1; have HT := hid ht; have HX := hid hx1; clear hx hx1 ht hP hS; show Calls Tryz.prog 106 #[.pointer (some ⟨pb, 0, none⟩), .pointer (some ⟨fk, 0, none⟩)] w _; go_enter Tryz.func106, Tryz.ntmps106; have p0 : (w.alloc (.cells #[.slice none 0 0, .int .i64 0, .string ⟨#[]⟩, .bool false, .slice none 0 0, .int .i64 0, .int .u64 0, .string ⟨#[]⟩, .slice none 0 0, .slice none 0 0, .slice none 0 0, .slice none 0 0, .slice none 0 0] 105)).cell? ⟨pb, 0, none⟩ = some (.pointer (some ⟨G.bp, 0, none⟩)) := HC0.out.bp.2.2 0 (show 0 < 1 by omega)
  go_upto_region 2 with (go_at_call 21; refine (takes_any hG HC0.out.ps [111, 112] b0 s1 HT.out).mono ?_; rintro e W2 ⟨rfl, hp, hk, hsc, hi⟩; have HC2 := hid (HC0.out.go hk hp hsc hi); clear hp hk hsc hi)
  have q0 : W2.cell? ⟨fk, 0, none⟩ = some (.string ⟨g.1.toArray⟩) := HC2.out.bf.2.2 0 (show 0 < 3 by omega)
  go_upto_region 3 with fail
  clear p0 q0; generalize hfst : List.isEmpty g.1 = fst; have HFST := hid hfst; clear hfst
  go_cut [23] from 5 (fun bv wx => bv = .bool (!fst && (shortP G.X true s1 && !((nextS G.X s1).text == g.1))) ∧ Hid (CF G M na nc fa fc pb fk #[.slice none 0 0, .int .i64 0, .string ⟨#[]⟩, .bool false, .slice none 0 0, .int .i64 0, .int .u64 0, .string ⟨#[]⟩, .slice none 0 0, .slice none 0 0, .slice none 0 0, .slice none 0 0, .slice none 0 0] #[.string ⟨(g.1).toArray⟩, .int .i64 g.2, .slice none 0 0] w s wx s1))
  case first =>
    clear HX; have hft := field_text; have HC3 := hid (HC2.out.below (Below.refl _ _).drew); have f0 : W2.cell? ⟨pb, 0, none⟩ = some (.pointer (some ⟨G.bp, 0, none⟩)) := HC2.out.bp.2.2 0 (show 0 < 1 by omega); have f1 : W2.cell? ⟨fk, 0, none⟩ = some (.string ⟨g.1.toArray⟩) := HC2.out.bf.2.2 0 (show 0 < 3 by omega); cases fst with
    | true =>
      refine region_T (S := fun wx => wx.cell? ⟨pb, 0, none⟩ = some (.pointer (some ⟨G.bp, 0, none⟩)) ∧ wx.cell? ⟨fk, 0, none⟩ = some (.string ⟨g.1.toArray⟩)) (T := fun _j => false) (by kernel_rfl) ?_; have hS0 := And.intro f0 f1; refine tq 0 hS0 ?_; refine tq 1 hS0 ?_; refine tq 2 hS0 ?_; refine tqu 3 hS0 ?_; refine tqu 4 hS0 ?_; refine tq 5 hS0 ?_; refine tq 6 hS0 ?_; refine tqu 7 hS0 ?_; refine tqu 10 hS0 ?_; refine tqu 11 hS0 ?_; refine tqu 8 hS0 ?_; refine tqu 9 hS0 ?_; refine tqu 12 hS0 ?_; refine tq 13 hS0 ?_; refine anyT_done (by kernel_rfl) ?_ _
      go_wp2_with fail
      go_meet
      case rel => exact ⟨rfl, HC3⟩
    | false =>
      cases hsh : shortP G.X true s1 with
      | false =>
        have HSH := hid hsh; clear hsh; refine region_T (S := fun wx => wx.cell? ⟨pb, 0, none⟩ = some (.pointer (some ⟨G.bp, 0, none⟩)) ∧ wx.cell? ⟨fk, 0, none⟩ = some (.string ⟨g.1.toArray⟩)) (T := fun _j => false) (by kernel_rfl) ?_; have hS0 := And.intro f0 f1; refine tq 0 hS0 ?_; refine tq 1 hS0 ?_; refine tq 2 hS0 ?_; refine tq 3 hS0 ?_; refine on1 4 fun K hK => ?_; go_simp; refine (short_any hG HC3.out.ps true).mono ?_; rintro e v1 ⟨rfl, hb⟩; rw [HSH.out]; have hS1 := And.intro ((hb.cell (p := ⟨pb, 0, none⟩) HC3.out.bp.1).trans (hS0).1) ((hb.cell (p := ⟨fk, 0, none⟩) HC3.out.bf.1).trans (hS0).2); have HC31 := hid (HC3.out.below hb); clear hb; refine nx hK hS1 ?_; clear hK K; refine tq 5 hS1 ?_; refine tq 6 hS1 ?_; refine tqu 7 hS1 ?_; refine tqu 10 hS1 ?_; refine tqu 11 hS1 ?_; refine tqu 8 hS1 ?_; refine tqu 9 hS1 ?_; refine tqu 12 hS1 ?_; refine tq 13 hS1 ?_; refine anyT_done (by kernel_rfl) ?_ _
        go_wp2_with fail
        go_meet
        case rel => exact ⟨by rw [HSH.out]; rfl, HC31⟩
      | true =>
        have HSH := hid hsh; clear hsh; refine region_T (S := fun wx => wx.cell? ⟨pb, 0, none⟩ = some (.pointer (some ⟨G.bp, 0, none⟩)) ∧ wx.cell? ⟨fk, 0, none⟩ = some (.string ⟨g.1.toArray⟩)) (T := fun _j => false) (by kernel_rfl) ?_; have hS0 := And.intro f0 f1; refine tq 0 hS0 ?_; refine tq 1 hS0 ?_; refine tq 2 hS0 ?_; refine tq 3 hS0 ?_; refine on1 4 fun K hK => ?_; go_simp; refine (short_any hG HC3.out.ps true).mono ?_; rintro e v1 ⟨rfl, hb⟩; rw [HSH.out]; have hS1 := And.intro ((hb.cell (p := ⟨pb, 0, none⟩) HC3.out.bp.1).trans (hS0).1) ((hb.cell (p := ⟨fk, 0, none⟩) HC3.out.bf.1).trans (hS0).2); have HC31 := hid (HC3.out.below hb); clear hb; refine nx hK hS1 ?_; clear hK K; refine tq 5 hS1 ?_; refine tq 6 hS1 ?_; refine tq 7 hS1 ?_; refine tq 10 hS1 ?_; refine tq 11 hS1 ?_; refine on1 8 fun K hK => ?_; go_simp; refine (next_any hG HC31.out.ps).mono ?_; rintro e v2 ⟨sg, am, nm, cm, rfl, _, hb⟩; have hS2 := And.intro ((hb.cell (p := ⟨pb, 0, none⟩) HC31.out.bp.1).trans (hS1).1) ((hb.cell (p := ⟨fk, 0, none⟩) HC31.out.bf.1).trans (hS1).2); have HC32 := hid (HC31.out.below hb); clear hb; refine nx hK hS2 ?_; clear hK K; refine tq 9 hS2 ?_; refine tq 12 hS2 ?_; refine tq 13 hS2 ?_; refine anyT_done (by kernel_rfl) ?_ _
        go_wp2_with fail
        go_meet
        case rel => exact ⟨by rw [HSH.out]; try simp, HC32⟩
  case rest =>
  obtain ⟨rfl, HC4⟩ := hcut; clear HC2 HC0; have hx := HX.out; clear HX; cases hcb : (!fst && (shortP G.X true s1 && !((nextS G.X s1).text == g.1))) with
  | true =>
    rw [if_pos (by rw [← HFST.out] at hcb; simp only [Bool.and_eq_true, Bool.not_eq_true', beq_eq_false_iff_ne, ne_eq] at hcb; exact ⟨fun e => by simp [e] at hcb, hcb.2.1, hcb.2.2⟩)] at hx; rw [wrong_eq] at hx; obtain rfl := Option.some.inj hx; clear hx hcb; have p0 : wc.cell? ⟨pb, 0, none⟩ = some (.pointer (some ⟨G.bp, 0, none⟩)) := HC4.out.bp.2.2 0 (show 0 < 1 by omega)
    go_wp2_with (go_at_call 13; refine (wrong_any hG HC4.out.ps).mono ?_; rintro e w5 ⟨rfl, hb⟩; have HC5 := hid (HC4.out.below hb); clear hb; unfold thrown)
    go_simp; exact ⟨rfl, HC5.out.kn, rfl⟩
  | false =>
    rw [if_neg (by rintro ⟨q1, q2, q3⟩; rw [← HFST.out, q2] at hcb; simp [q1, q3] at hcb)] at hx; clear hcb; have p0 : wc.cell? ⟨pb, 0, none⟩ = some (.pointer (some ⟨G.bp, 0, none⟩)) := HC4.out.bp.2.2 0 (show 0 < 1 by omega)
    by_cases hnm : shortP G.X true s1 = true
    · rw [name_bind hnm] at hx; have HNM := hid hnm; obtain ⟨rr, hcp, hrest⟩ := bind_some hx; have HCP := hid hcp; have HRS := hid hrest; have HRE : Hid (∀ cc q, rr = .error (cc, q) → r = .error (cc, q)) := hid (fun cc q e => by subst e; exact hrest); clear hx hnm hcp hrest; have n0 : wc.cell? ⟨fk, 0, none⟩ = some (.string ⟨g.1.toArray⟩) := HC4.out.bf.2.2 0 (show 0 < 3 by omega)
      go_upto_region 6 with (go_at_call 73; refine (name_yes hG HC4.out.ps true HNM.out).mono ?_; rintro e w5 ⟨rfl, hp, hk⟩; have HC5 := hid (HC4.out.go (hk.jp HC4.out.ps.mp) hp rfl (Nat.le_succ _)); have n1 : w5.cell? ⟨fk, 0, none⟩ = some (.string ⟨g.1.toArray⟩) := HC5.out.bf.2.2 0 (show 0 < 3 by omega); have nf := HC5.out.bf.2.1; clear hp hk)
      have C6 : CF G M na nc fa fc pb fk #[.slice none 0 0, .int .i64 0, .string ⟨#[]⟩, .bool false, .slice none 0 0, .int .i64 0, .int .u64 0, .string ⟨#[]⟩, .slice none 0 0, .slice none 0 0, .slice none 0 0, .slice none 0 0, .slice none 0 0] #[.string ⟨((nextS G.X s1).text).toArray⟩, .int .i64 g.2, .slice none 0 0] w s (w5.setCell ⟨fk, 0, none⟩ (.string ⟨(nextS G.X s1).text.toArray⟩)) { s1 with i := s1.i + 1 } := by simpa using HC5.out.setf 0 (by simp) (.string ⟨(nextS G.X s1).text.toArray⟩)
      clear n0 n1 nf p0; generalize w5.setCell ⟨fk, 0, none⟩ (.string ⟨(nextS G.X s1).text.toArray⟩) = W6 at C6 ⊢; have HC6 := hid C6; have HL6 : Hid (LN G M na nc fa fc (w.heap.size + 1) 9 s W6 { s1 with i := s1.i + 1 } [] none 0) := hid (LN.start C6.ps C6.sc C6.mono (by have := C6.hB; omega) (fun k hk => by have := C6.mw k hk; omega) C6.sz); clear C6 HC5 HC4
      go_loopg [] n (fun gk wr => ∃ s2 acc a c, Hid (clausePats G.X f n gk acc s2 = some rr) ∧ Hid (CF G M na nc fa fc pb fk #[.slice a acc.length c, .int .i64 0, .string ⟨#[]⟩, .bool false, .slice none 0 0, .int .i64 0, .int .u64 0, .string ⟨#[]⟩, .slice none 0 0, .slice none 0 0, .slice none 0 0, .slice none 0 0, .slice none 0 0] #[.string ⟨((nextS G.X s1).text).toArray⟩, .int .i64 g.2, .slice none 0 0] w s wr s2) ∧ Hid (LN G M na nc fa fc (w.heap.size + 1) 9 s wr s2 acc a c) ∧ Hid (acc.length + gk ≤ n))
      case atStart => exact ⟨_, [], none, 0, HCP, HC6, HL6, hid (by simp)⟩
      case round =>
        clear HCP HC6 HL6; obtain ⟨s2, acc, a, c, HCP, HC6, HL6, HLE⟩ := hrel; cases gk with
        | zero => exact absurd HCP.out (by simp [clausePats, PM.none])
        | succ m =>
        have p0 : wr.cell? ⟨pb, 0, none⟩ = some (.pointer (some ⟨G.bp, 0, none⟩)) := HC6.out.bp.2.2 0 (show 0 < 1 by omega)
        by_cases ha : atomicS G.X s2 = true
        · have HA := hid ha; have hcp := HCP.out; unfold clausePats at hcp; rw [if_pos ha] at hcp
          go_upto_region 7 with (go_at_call 107; refine (atomic_any hG HC6.out.ps).mono ?_; rintro e W7 ⟨rfl, hb⟩; rw [HA.out]; have HCw := hid (HC6.out.below hb); have HLw := hid (HL6.out.below hb); clear hb)
          clear p0 HCP
          rcases bind_cases hcp with ⟨cc, q, hd, rfl⟩ | ⟨ndy, s5, hd, hr2⟩
          · have HD := hid hd; obtain rfl := HRE.out cc q rfl; clear hcp hd ha; have HC7 := hid (HCw.out.below (Below.refl _ _).drew); have HL7 := hid (HLw.out.below (Below.refl _ _).drew); have f0 : W7.cell? ⟨w.heap.size, 0, none⟩ = some (.slice a acc.length c) := HCw.out.res.2.2 0 (show 0 < 13 by omega); have f1 : W7.cell? ⟨pb, 0, none⟩ = some (.pointer (some ⟨G.bp, 0, none⟩)) := HCw.out.bp.2.2 0 (show 0 < 1 by omega)
            have HAW : Hid (∀ A, a = some ⟨A, 0, none⟩ → A < W7.drew.heap.size) := hid (fun A e => by
              rcases HL7.out.row with ⟨_, e2, _⟩ | ⟨A2, e2, q⟩
              · rw [e2] at e; cases e
              · rw [e2] at e; cases e; obtain ⟨_, _, q, _⟩ := q; exact q)
            refine region_T (S := fun wx => wx.cell? ⟨w.heap.size, 0, none⟩ = some (.slice a acc.length c) ∧ wx.cell? ⟨pb, 0, none⟩ = some (.pointer (some ⟨G.bp, 0, none⟩))) (T := fun _j => _j == 7) (by kernel_rfl) ?_; have hS0 := And.intro (f0) (f1); refine tq 0 hS0 ?_; refine tq 1 hS0 ?_; refine tq 2 hS0 ?_; refine on1 3 fun K hK => ?_; go_simp; refine (hat M na nc fa fc _ _ _ HC7.out.ps HD.out).mono ?_; rintro e w9 ⟨hk, rfl⟩; unfold thrown; go_simp; exact ⟨rfl, HC7.out.kn.go (hk.more fun _ q => .inl q), rfl⟩
          · have HD := hid hd; have HR := hid hr2; clear hcp hd hr2 ha; have HC7 := hid (HCw.out.below (Below.refl _ _).drew); have HL7 := hid (HLw.out.below (Below.refl _ _).drew); have f0 : W7.cell? ⟨w.heap.size, 0, none⟩ = some (.slice a acc.length c) := HCw.out.res.2.2 0 (show 0 < 13 by omega); have f1 : W7.cell? ⟨pb, 0, none⟩ = some (.pointer (some ⟨G.bp, 0, none⟩)) := HCw.out.bp.2.2 0 (show 0 < 1 by omega)
            have HAW : Hid (∀ A, a = some ⟨A, 0, none⟩ → A < W7.drew.heap.size) := hid (fun A e => by
              rcases HL7.out.row with ⟨_, e2, _⟩ | ⟨A2, e2, q⟩
              · rw [e2] at e; cases e
              · rw [e2] at e; cases e; obtain ⟨_, _, q, _⟩ := q; exact q)
            refine region_T (S := fun wx => wx.cell? ⟨w.heap.size, 0, none⟩ = some (.slice a acc.length c) ∧ wx.cell? ⟨pb, 0, none⟩ = some (.pointer (some ⟨G.bp, 0, none⟩))) (T := fun _j => _j == 7) (by kernel_rfl) ?_; have hS0 := And.intro (f0) (f1); refine tq 0 hS0 ?_; refine tq 1 hS0 ?_; refine tq 2 hS0 ?_; refine on1 3 fun K hK => ?_; go_simp; refine (hat M na nc fa fc _ _ _ HC7.out.ps HD.out).mono ?_; rintro e w9 ⟨hk, hsc, hi, hP9, v, rfl, x0, x1, x2, Vg, Vi, Vh, x4, x5, Vm, Vo, Vn, Vp, Vr, Vq, Vs, Vu, Vt, rfl, hrep⟩; have HC9 := hid (HC7.out.go hk hP9 hsc hi); have HL9 := hid (HL7.out.go hk hP9 hsc hi); have HREP := hid hrep; have hS1 := And.intro ((World.cell?_of_block (w := W7.drew) (a := ⟨w.heap.size, 0, none⟩) (hk.blk _ HC7.out.sz HC7.out.nm)).trans (hS0).1) ((World.cell?_of_block (w := W7.drew) (a := ⟨pb, 0, none⟩) (hk.blk _ HC7.out.bp.1 HC7.out.np)).trans (hS0).2); clear hk hsc hi hP9 hrep; refine nx hK hS1 ?_; clear hK K; refine on1 4 fun K hK => ?_; go_simp; have ba := below_alloc w9 (.cells #[.int .i64 x0, .string x1, .bool x2, .slice Vg Vi Vh, .int .i64 x4, .string x5, .slice Vm Vo Vn, .slice Vp Vr Vq, .slice Vs Vu Vt] 82); have hS2 := And.intro ((ba.cell (p := ⟨w.heap.size, 0, none⟩) HC9.out.sz).trans (hS1).1) ((ba.cell (p := ⟨pb, 0, none⟩) HC9.out.bp.1).trans (hS1).2); clear ba; refine nx hK hS2 ?_; clear hK K; refine on1 5 fun K hK => ?_; obtain ⟨hh, hA, hN, hlo, hfin⟩ := LN.round (z := zPat) (T := 82) (cs := #[.int .i64 x0, .string x1, .bool x2, .slice Vg Vi Vh, .int .i64 x4, .string x5, .slice Vm Vo Vn, .slice Vp Vr Vq, .slice Vs Vu Vt]) (nd := ndy) (lo' := W7.drew.heap.size) HL9.out HL7.out.lw HAW.out HREP.out rfl (by omega); have HAP := hid (And.intro hA (And.intro hN hlo)); have HFI := hid hfin; have HXC := hid (new_cells w9 #[.int .i64 x0, .string x1, .bool x2, .slice Vg Vi Vh, .int .i64 x4, .string x5, .slice Vm Vo Vn, .slice Vp Vr Vq, .slice Vs Vu Vt] 82); clear hA hN hlo hfin; rw [if_pos (by rfl)]; refine oper_append_q (w9.alloc (.cells #[.int .i64 x0, .string x1, .bool x2, .slice Vg Vi Vh, .int .i64 x4, .string x5, .slice Vm Vo Vn, .slice Vp Vr Vq, .slice Vs Vu Vt] 82)) (some 36) rfl _ _ 34 34 rfl 82 82 zPat 9 152 Tryz.underlying34 Tryz.underlying34 Tryz.info82 rfl (by omega) (w.heap.size + 1) HAP.out.2.2 a acc.length c hh (cellAt #[.int .i64 x0, .string x1, .bool x2, .slice Vg Vi Vh, .int .i64 x4, .string x5, .slice Vm Vo Vn, .slice Vp Vr Vq, .slice Vs Vu Vt]) w9.heap.size 0 1 rfl rfl HAP.out.1 HAP.out.2.1 HXC.out (cellAt_one #[.int .i64 x0, .string x1, .bool x2, .slice Vg Vi Vh, .int .i64 x4, .string x5, .slice Vm Vo Vn, .slice Vp Vr Vq, .slice Vs Vu Vt] (by rfl)) (by have := HLE.out; have := HN6.out; omega) (by have := HLE.out; have := HN6.out; omega) ?_; intro a' c' rr w10 hc A5 N5 b5 kq; obtain ⟨hL, hb⟩ := HFI.out a' c' rr w10 hc A5 N5 b5 kq; have hS3 := And.intro ((b5.cell (p := ⟨w.heap.size, 0, none⟩) (Nat.lt_succ_self _)).trans (hS2).1) ((b5.cell (p := ⟨pb, 0, none⟩) (Nat.lt_succ_of_lt HC9.out.pl)).trans (hS2).2); have HL10 := hid hL; have HC10 := hid (HC9.out.low hb); clear hc A5 N5 b5 kq hL hb hh HAP HFI HXC; refine nx hK hS3 ?_; clear hK K; refine tq 6 hS3 ?_; refine on1 7 fun K hK => ?_; have z0 := (hS3).1; have zf := HC10.out.res.2.1; go_simp; clear z0 zf; refine nxT hK ?_; clear hK K; refine anyT_done (by kernel_rfl) ?_ _; have hLs : (acc ++ [ndy]).length = acc.length + 1 := by simp
            have C11 : CF G M na nc fa fc pb fk #[(.slice a' (acc ++ [ndy]).length c'), .int .i64 0, .string ⟨#[]⟩, .bool false, .slice none 0 0, .int .i64 0, .int .u64 0, .string ⟨#[]⟩, .slice none 0 0, .slice none 0 0, .slice none 0 0, .slice none 0 0, .slice none 0 0] #[.string ⟨((nextS G.X s1).text).toArray⟩, .int .i64 g.2, .slice none 0 0] w s (w10.setCell ⟨w.heap.size, 0, none⟩ (.slice a' (acc.length + 1) c')) s5 := by
              rw [hLs]
              simpa using HC10.out.set1 0 (by simp) (.slice a' (acc.length + 1) c')
            have hot : ∀ b, b ≠ w.heap.size → (w10.setCell ⟨w.heap.size, 0, none⟩ (.slice a' (acc.length + 1) c')).heap[b]? = w10.heap[b]? := fun b hb => Below.heap_setCell _ _ _ _ hb; have L11 := HL10.out.turn C11.ps (by simp [World.setCell]) (fun b hb => hot b (by have := HC10.out.hB; omega)) trivial; have HC11 := hid C11; have HL11 := hid L11; clear hot C11 L11
            go_wp2_with fail
            go_roundg m
            case measure => omega
            case rel => exact ⟨_, acc ++ [ndy], a', c', HR.out, HC11, HL11, hid (by have := HLE.out; simp; omega)⟩
        · have HA : Hid (atomicS G.X s2 = false) := hid (by simpa using ha); have hcp := HCP.out; unfold clausePats at hcp; rw [if_neg ha] at hcp; obtain rfl := Option.some.inj hcp; clear hcp ha HCP
          go_upto_region 8 with (go_at_call 107; refine (atomic_any hG HC6.out.ps).mono ?_; rintro e W8 ⟨rfl, hb⟩; rw [HA.out]; have HC8 := hid (HC6.out.below hb); have HL8 := hid (HL6.out.below hb); clear hb)
          clear p0 HC6 HL6 HA; have hr := HRS.out
          try dsimp only at hr
          clear HRS
          by_cases hbad : acc = [] ∨ ¬ g.1 = [] ∧ ¬ (acc.length : Int) = g.2
          · rw [if_pos hbad, wrong_eq] at hr; obtain rfl := Option.some.inj hr; clear hr; have p0 : W8.cell? ⟨pb, 0, none⟩ = some (.pointer (some ⟨G.bp, 0, none⟩)) := HC8.out.bp.2.2 0 (show 0 < 1 by omega); have w0 : W8.cell? ⟨w.heap.size, 0, none⟩ = some (.slice a acc.length c) := HC8.out.res.2.2 0 (show 0 < 13 by omega); have w1 : W8.cell? ⟨fk, 1, none⟩ = some (.int .i64 g.2) := HC8.out.bf.2.2 1 (show 1 < 3 by omega)
            by_cases he : acc = []
            · have e0 : (((acc.length : Nat) : Int) == 0) = true := by rw [he]; rfl
              clear hbad
              go_wp2_with (go_at_call 13; refine (wrong_any hG HC8.out.ps).mono ?_; rintro e w9 ⟨rfl, hb⟩; have HC9 := hid (HC8.out.below hb); clear hb; unfold thrown)
              go_simp; exact ⟨rfl, HC9.out.kn, rfl⟩
            · have e0 : (((acc.length : Nat) : Int) == 0) = false := by
                have : acc.length ≠ 0 := fun e => he (List.length_eq_zero_iff.1 e); simp; omega
              have hb2 := hbad.resolve_left he; have hfs : fst = false := by rw [← HFST.out]; cases hq : g.1 with | nil => exact absurd hq hb2.1 | cons x l => rfl
              subst hfs; have e1 : (((acc.length : Nat) : Int) == g.2) = false := by simpa using hb2.2
              have e1n : (((acc.length : Nat) : Int) != g.2) = true := by simpa using hb2.2
              clear hbad hb2 he
              go_wp2_with (go_at_call 13; refine (wrong_any hG HC8.out.ps).mono ?_; rintro e w9 ⟨rfl, hb⟩; have HC9 := hid (HC8.out.below hb); clear hb; unfold thrown)
              go_simp; exact ⟨rfl, HC9.out.kn, rfl⟩
          · rw [if_neg hbad] at hr; obtain ⟨b1, s3, ht3, hr2⟩ := bind_takes hr
            have hb1 : b1 = false := by
              cases b1 with
              | false => rfl
              | true =>
                rcases bind_cases hr2 with ⟨cc, q, h1, _⟩ | ⟨t, s4, h1, _⟩
                · rw [if_pos rfl, hty] at h1; cases h1
                · rw [if_pos rfl, hty] at h1; cases h1
            subst hb1; have hr3 : (needs G.X [61] >>= fun _ => f.exp >>= fun e => pure (mkClause acc e, ((nextS G.X s1).text, (acc.length : Int)))) s3 = some r := hr2; have HT3 := hid ht3; have HX3 := hid hr3; clear hr hr2 hr3 ht3; have w0 : W8.cell? ⟨w.heap.size, 0, none⟩ = some (.slice a acc.length c) := HC8.out.res.2.2 0 (show 0 < 13 by omega); have w1 : W8.cell? ⟨fk, 1, none⟩ = some (.int .i64 g.2) := HC8.out.bf.2.2 1 (show 1 < 3 by omega)
            go_cut [53] from 5 (fun bv wx => bv = .bool false ∧ wx = W8)
            case first =>
              have he : ¬ acc = [] := fun e => hbad (.inl e)
              have e0 : (((acc.length : Nat) : Int) == 0) = false := by
                have : acc.length ≠ 0 := fun e => he (List.length_eq_zero_iff.1 e); simp; omega
              cases fst with
              | true =>
                clear hbad he HX3
                go_wp2_with fail
                go_meet
                case rel => exact ⟨rfl, rfl⟩
              | false =>
                have e1 : (((acc.length : Nat) : Int) == g.2) = true := by
                  have hg : ¬ g.1 = [] := fun e => by have := HFST.out; rw [e] at this; cases this
                  have : (acc.length : Int) = g.2 := Decidable.byContradiction fun q => hbad (.inr ⟨hg, q⟩)
                  simpa using this
                have e1n : (((acc.length : Nat) : Int) != g.2) = false := by rw [bne, e1]; rfl
                clear hbad he HX3
                go_wp2_with fail
                go_meet
                case rel => exact ⟨by first | rfl | rw [e1n], rfl⟩
            case rest =>
            obtain ⟨rfl, rfl⟩ := hcut; clear hbad; have gf := HC8.out.bf.2.1
            go_upto_region 11 with fail
            have C9 : CF G M na nc fa fc pb fk #[.slice a acc.length c, .int .i64 0, .string ⟨#[]⟩, .bool false, .slice none 0 0, .int .i64 0, .int .u64 0, .string ⟨#[]⟩, .slice none 0 0, .slice none 0 0, .slice none 0 0, .slice none 0 0, .slice none 0 0] #[.string ⟨((nextS G.X s1).text).toArray⟩, .int .i64 (acc.length : Nat), .slice none 0 0] w s (wc.setCell ⟨fk, 1, none⟩ (.int .i64 (acc.length : Nat))) s2 := by simpa using HC8.out.setf 1 (by simp) (.int .i64 (acc.length : Nat))
            have L9 := HL8.out.turn C9.ps (by simp [World.setCell]) (fun b hb => Below.heap_setCell _ _ _ _ (show b ≠ fk from fun e => by have := HC8.out.fB; have := HC8.out.fl; omega)) trivial; clear w0 w1 gf; generalize wc.setCell ⟨fk, 1, none⟩ (.int .i64 (acc.length : Nat)) = W9 at C9 L9 ⊢; have HC9 := hid C9; have HL9 := hid L9; have p9 : W9.cell? ⟨pb, 0, none⟩ = some (.pointer (some ⟨G.bp, 0, none⟩)) := C9.bp.2.2 0 (show 0 < 1 by omega); clear C9 L9 HC8 HL8
            go_upto_region 14 with (go_at_call 21; refine (takes_any hG HC9.out.ps [58] false s3 HT3.out).mono ?_; rintro e w10 ⟨rfl, hp, hk, hsc, hi⟩; have HC10 := hid (HC9.out.go hk hp hsc hi); have HL10 := hid (HL9.out.go hk hp hsc hi); have p1 : w10.cell? ⟨pb, 0, none⟩ = some (.pointer (some ⟨G.bp, 0, none⟩)) := HC10.out.bp.2.2 0 (show 0 < 1 by omega); clear hp hk hsc hi)
            have hr := HX3.out; clear HX3 p9
            by_cases h4 : seesS G.X [[61]] s3 = true
            · rw [needs_bind h4] at hr; have H4 := hid h4
              rcases bind_cases hr with ⟨cc, q, h5, rfl⟩ | ⟨ex, s5, h5, h6⟩
              · have H5 := hid h5; clear hr h4 h5
                go_wp2_with (first
                  | (go_at_call 66; refine (needs_yes hG HC10.out.ps [61] H4.out).mono ?_; rintro e w11 ⟨rfl, hp, hk⟩; have HC11 := hid (HC10.out.go (hk.jp HC10.out.ps.mp) hp rfl (Nat.le_succ _)); have HL11 := hid (HL10.out.go (hk.jp HC10.out.ps.mp) hp rfl (Nat.le_succ _)); have p2 : w11.cell? ⟨pb, 0, none⟩ = some (.pointer (some ⟨G.bp, 0, none⟩)) := HC11.out.bp.2.2 0 (show 0 < 1 by omega); clear hp hk)
                  | (go_at_call 67; refine (hexp M na nc fa fc _ _ _ HC11.out.ps H5.out).mono ?_; rintro e w12 ⟨hk, rfl⟩; unfold thrown))
                go_simp; exact ⟨rfl, HC11.out.kn.go (hk.more fun _ q => .inl q), rfl⟩
              · obtain rfl := pure_inv h6; have H5 := hid h5; clear hr h4 h5 h6
                go_upto_region 16 with (first
                  | (go_at_call 66; refine (needs_yes hG HC10.out.ps [61] H4.out).mono ?_; rintro e w11 ⟨rfl, hp, hk⟩; have HC11 := hid (HC10.out.go (hk.jp HC10.out.ps.mp) hp rfl (Nat.le_succ _)); have HL11 := hid (HL10.out.go (hk.jp HC10.out.ps.mp) hp rfl (Nat.le_succ _)); have p2 : w11.cell? ⟨pb, 0, none⟩ = some (.pointer (some ⟨G.bp, 0, none⟩)) := HC11.out.bp.2.2 0 (show 0 < 1 by omega); clear hp hk)
                  | (go_at_call 67; refine (hexp M na nc fa fc _ _ _ HC11.out.ps H5.out).mono ?_; rintro e w12 ⟨hk, hsc, hi, hP5, v, rfl, y0, y1, y2, Ya, Yc, Yb, y4, y5, y6, Yg, Yi, Yh, Yj, Yl, Yk, Ym, Yo, Yn, Yp, Yr, Yq, Ys, Yu, Yt, rfl, hrep⟩; have HC12 := hid (HC11.out.go hk hP5 hsc hi); have HL12 := hid (HL11.out.go hk hP5 hsc hi); have HREP := hid hrep; have HKS := hid hk.size; have hz := HC12.out.res.2.2; have zf := HC12.out.res.2.1; obtain ⟨z0, z1, z2, z3, z4, z5, z6, z7, z8, z9, z10, z11, z12⟩ := bx13 hz; clear hz hk hsc hi hP5 hrep))
                have C13 : CF G M na nc fa fc pb fk #[.slice a acc.length c, .int .i64 y0, .string y1, .bool y2, .slice Ya Yc Yb, .int .i64 y4, .int .u64 y5, .string y6, .slice Yg Yi Yh, .slice Yj Yl Yk, .slice Ym Yo Yn, .slice Yp Yr Yq, .slice Ys Yu Yt] #[.string ⟨((nextS G.X s1).text).toArray⟩, .int .i64 (acc.length : Nat), .slice none 0 0] w s ((((((((((((w12.setCell ⟨w.heap.size, 1, none⟩ (.int .i64 y0)).setCell ⟨w.heap.size, 2, none⟩ (.string y1)).setCell ⟨w.heap.size, 3, none⟩ (.bool y2)).setCell ⟨w.heap.size, 4, none⟩ (.slice Ya Yc Yb)).setCell ⟨w.heap.size, 5, none⟩ (.int .i64 y4)).setCell ⟨w.heap.size, 6, none⟩ (.int .u64 y5)).setCell ⟨w.heap.size, 7, none⟩ (.string y6)).setCell ⟨w.heap.size, 8, none⟩ (.slice Yg Yi Yh)).setCell ⟨w.heap.size, 9, none⟩ (.slice Yj Yl Yk)).setCell ⟨w.heap.size, 10, none⟩ (.slice Ym Yo Yn)).setCell ⟨w.heap.size, 11, none⟩ (.slice Yp Yr Yq)).setCell ⟨w.heap.size, 12, none⟩ (.slice Ys Yu Yt)) s5 := by simpa using ((((((((((((HC12.out.set1 1 (by simp) (.int .i64 y0)).set1 2 (by simp) (.string y1)).set1 3 (by simp) (.bool y2)).set1 4 (by simp) (.slice Ya Yc Yb)).set1 5 (by simp) (.int .i64 y4)).set1 6 (by simp) (.int .u64 y5)).set1 7 (by simp) (.string y6)).set1 8 (by simp) (.slice Yg Yi Yh)).set1 9 (by simp) (.slice Yj Yl Yk)).set1 10 (by simp) (.slice Ym Yo Yn)).set1 11 (by simp) (.slice Yp Yr Yq)).set1 12 (by simp) (.slice Ys Yu Yt))
                have hot : ∀ b, b ≠ w.heap.size → (((((((((((((w12.setCell ⟨w.heap.size, 1, none⟩ (.int .i64 y0)).setCell ⟨w.heap.size, 2, none⟩ (.string y1)).setCell ⟨w.heap.size, 3, none⟩ (.bool y2)).setCell ⟨w.heap.size, 4, none⟩ (.slice Ya Yc Yb)).setCell ⟨w.heap.size, 5, none⟩ (.int .i64 y4)).setCell ⟨w.heap.size, 6, none⟩ (.int .u64 y5)).setCell ⟨w.heap.size, 7, none⟩ (.string y6)).setCell ⟨w.heap.size, 8, none⟩ (.slice Yg Yi Yh)).setCell ⟨w.heap.size, 9, none⟩ (.slice Yj Yl Yk)).setCell ⟨w.heap.size, 10, none⟩ (.slice Ym Yo Yn)).setCell ⟨w.heap.size, 11, none⟩ (.slice Yp Yr Yq)).setCell ⟨w.heap.size, 12, none⟩ (.slice Ys Yu Yt))).heap[b]? = w12.heap[b]? := fun b hb => by
                  exact (Below.heap_setCell _ _ _ _ hb).trans ((Below.heap_setCell _ _ _ _ hb).trans ((Below.heap_setCell _ _ _ _ hb).trans ((Below.heap_setCell _ _ _ _ hb).trans ((Below.heap_setCell _ _ _ _ hb).trans ((Below.heap_setCell _ _ _ _ hb).trans ((Below.heap_setCell _ _ _ _ hb).trans ((Below.heap_setCell _ _ _ _ hb).trans ((Below.heap_setCell _ _ _ _ hb).trans ((Below.heap_setCell _ _ _ _ hb).trans ((Below.heap_setCell _ _ _ _ hb).trans ((Below.heap_setCell _ _ _ _ hb))))))))))))
                have hsz : (((((((((((((w12.setCell ⟨w.heap.size, 1, none⟩ (.int .i64 y0)).setCell ⟨w.heap.size, 2, none⟩ (.string y1)).setCell ⟨w.heap.size, 3, none⟩ (.bool y2)).setCell ⟨w.heap.size, 4, none⟩ (.slice Ya Yc Yb)).setCell ⟨w.heap.size, 5, none⟩ (.int .i64 y4)).setCell ⟨w.heap.size, 6, none⟩ (.int .u64 y5)).setCell ⟨w.heap.size, 7, none⟩ (.string y6)).setCell ⟨w.heap.size, 8, none⟩ (.slice Yg Yi Yh)).setCell ⟨w.heap.size, 9, none⟩ (.slice Yj Yl Yk)).setCell ⟨w.heap.size, 10, none⟩ (.slice Ym Yo Yn)).setCell ⟨w.heap.size, 11, none⟩ (.slice Yp Yr Yq)).setCell ⟨w.heap.size, 12, none⟩ (.slice Ys Yu Yt))).heap.size = w12.heap.size := by simp [World.setCell]
                have hBB := HC12.out.hB; have L13 := HL12.out.turn C13.ps hsz (fun b hb => hot b (by omega)) trivial; have R13 := HREP.out.on (w' := ((((((((((((w12.setCell ⟨w.heap.size, 1, none⟩ (.int .i64 y0)).setCell ⟨w.heap.size, 2, none⟩ (.string y1)).setCell ⟨w.heap.size, 3, none⟩ (.bool y2)).setCell ⟨w.heap.size, 4, none⟩ (.slice Ya Yc Yb)).setCell ⟨w.heap.size, 5, none⟩ (.int .i64 y4)).setCell ⟨w.heap.size, 6, none⟩ (.int .u64 y5)).setCell ⟨w.heap.size, 7, none⟩ (.string y6)).setCell ⟨w.heap.size, 8, none⟩ (.slice Yg Yi Yh)).setCell ⟨w.heap.size, 9, none⟩ (.slice Yj Yl Yk)).setCell ⟨w.heap.size, 10, none⟩ (.slice Ym Yo Yn)).setCell ⟨w.heap.size, 11, none⟩ (.slice Yp Yr Yq)).setCell ⟨w.heap.size, 12, none⟩ (.slice Ys Yu Yt))) (fun b hb => hot b (fun e => by have h1 := HC11.out.sz; rcases hb with q | q; omega; have := q.1; omega)) (fun _ h => h)
                have HS13 : Hid (w11.heap.size ≤ w12.heap.size ∧ (((((((((((((w12.setCell ⟨w.heap.size, 1, none⟩ (.int .i64 y0)).setCell ⟨w.heap.size, 2, none⟩ (.string y1)).setCell ⟨w.heap.size, 3, none⟩ (.bool y2)).setCell ⟨w.heap.size, 4, none⟩ (.slice Ya Yc Yb)).setCell ⟨w.heap.size, 5, none⟩ (.int .i64 y4)).setCell ⟨w.heap.size, 6, none⟩ (.int .u64 y5)).setCell ⟨w.heap.size, 7, none⟩ (.string y6)).setCell ⟨w.heap.size, 8, none⟩ (.slice Yg Yi Yh)).setCell ⟨w.heap.size, 9, none⟩ (.slice Yj Yl Yk)).setCell ⟨w.heap.size, 10, none⟩ (.slice Ym Yo Yn)).setCell ⟨w.heap.size, 11, none⟩ (.slice Yp Yr Yq)).setCell ⟨w.heap.size, 12, none⟩ (.slice Ys Yu Yt))).heap.size = w12.heap.size ∧ w.heap.size < w11.heap.size) := hid ⟨by have := HL12.out; exact HKS.out, hsz, HC11.out.sz⟩; clear hot hsz zf z0 z1 z2 z3 z4 z5 z6 z7 z8 z9 z10 z11 z12; generalize (((((((((((((w12.setCell ⟨w.heap.size, 1, none⟩ (.int .i64 y0)).setCell ⟨w.heap.size, 2, none⟩ (.string y1)).setCell ⟨w.heap.size, 3, none⟩ (.bool y2)).setCell ⟨w.heap.size, 4, none⟩ (.slice Ya Yc Yb)).setCell ⟨w.heap.size, 5, none⟩ (.int .i64 y4)).setCell ⟨w.heap.size, 6, none⟩ (.int .u64 y5)).setCell ⟨w.heap.size, 7, none⟩ (.string y6)).setCell ⟨w.heap.size, 8, none⟩ (.slice Yg Yi Yh)).setCell ⟨w.heap.size, 9, none⟩ (.slice Yj Yl Yk)).setCell ⟨w.heap.size, 10, none⟩ (.slice Ym Yo Yn)).setCell ⟨w.heap.size, 11, none⟩ (.slice Yp Yr Yq)).setCell ⟨w.heap.size, 12, none⟩ (.slice Ys Yu Yt))) = W13 at C13 L13 R13 HS13 ⊢; have HC13 := hid C13; have HL13 := hid L13; have HR13 := hid R13; have hz := C13.res.2.2; have hzf := C13.res.2.1; obtain ⟨y0_, y1_, y2_, y3_, y4_, y5_, y6_, y7_, y8_, y9_, y10_, y11_, y12_⟩ := bx13 hz; clear hz C13 L13 R13
                go_wp2_with fail
                change bodyPost _ _ _ _ _ (W13.setCells w.heap.size 0 [.slice a acc.length c, .int .i64 y0, .string y1, .bool y2, .slice Ya Yc Yb, .int .i64 y4, .int .u64 y5, .string y6, .slice Yg Yi Yh, .slice Yj Yl Yk, .slice Ym Yo Yn, .slice Yp Yr Yq, .slice Ys Yu Yt]); obtain ⟨C14, hot, hsz⟩ := HC13.out.store [.slice a acc.length c, .int .i64 y0, .string y1, .bool y2, .slice Ya Yc Yb, .int .i64 y4, .int .u64 y5, .string y6, .slice Yg Yi Yh, .slice Yj Yl Yk, .slice Ym Yo Yn, .slice Yp Yr Yq, .slice Ys Yu Yt] rfl; have hBB := HC13.out.hB; have hs13 := HS13.out
                have PT : RepT (W13.setCells w.heap.size 0 [.slice a acc.length c, .int .i64 y0, .string y1, .bool y2, .slice Ya Yc Yb, .int .i64 y4, .int .u64 y5, .string y6, .slice Yg Yi Yh, .slice Yj Yl Yk, .slice Ym Yo Yn, .slice Yp Yr Yq, .slice Ys Yu Yt]) (Own G.B w.heap.size (W13.setCells w.heap.size 0 [.slice a acc.length c, .int .i64 y0, .string y1, .bool y2, .slice Ya Yc Yb, .int .i64 y4, .int .u64 y5, .string y6, .slice Yg Yi Yh, .slice Yj Yl Yk, .slice Ym Yo Yn, .slice Yp Yr Yq, .slice Ys Yu Yt]).heap.size (MX M pb fk)) (.sl acc) [.slice a acc.length c] := by
                  obtain ⟨a2, c2, e, h⟩ := HL13.out.fin; cases e; refine RepT.on h (fun b hb => hot b (by rcases hb with q | q <;> omega)) (fun b hb => hb.imp id fun q => ⟨by omega, by rw [hsz]; exact q.2, ?_⟩); rintro (q2 | q2 | q2)
                  · have := HC13.out.mw b q2; omega
                  · have := HC13.out.fl; omega
                  · have := HC13.out.pl; omega
                have ER : RepR (W13.setCells w.heap.size 0 [.slice a acc.length c, .int .i64 y0, .string y1, .bool y2, .slice Ya Yc Yb, .int .i64 y4, .int .u64 y5, .string y6, .slice Yg Yi Yh, .slice Yj Yl Yk, .slice Ym Yo Yn, .slice Yp Yr Yq, .slice Ys Yu Yt]) (Own G.B w.heap.size (W13.setCells w.heap.size 0 [.slice a acc.length c, .int .i64 y0, .string y1, .bool y2, .slice Ya Yc Yb, .int .i64 y4, .int .u64 y5, .string y6, .slice Yg Yi Yh, .slice Yj Yl Yk, .slice Ym Yo Yn, .slice Yp Yr Yq, .slice Ys Yu Yt]).heap.size (MX M pb fk)) ex [.int .i64 y0, .string y1, .bool y2, .slice Ya Yc Yb, .int .i64 y4, .int .u64 y5, .string y6, .slice Yg Yi Yh, .slice Yj Yl Yk, .slice Ym Yo Yn, .slice Yp Yr Yq, .slice Ys Yu Yt] := by
                  refine HR13.out.on (fun b hb => hot b (by rcases hb with q | q; omega; have := q.1; omega)) (fun b hb => hb.imp id fun q => ⟨by have := q.1; omega, by rw [hsz]; have := q.2.1; omega, ?_⟩); have q1 := q.1; rintro (q2 | q2 | q2)
                  · have := HC13.out.mw b q2; omega
                  · have := HC13.out.fl; omega
                  · have := HC13.out.pl; omega
                have HC14 := hid C14; have HPT := hid PT; have HER := hid ER; clear C14 hot hsz PT ER; generalize W13.setCells w.heap.size 0 [.slice a acc.length c, .int .i64 y0, .string y1, .bool y2, .slice Ya Yc Yb, .int .i64 y4, .int .u64 y5, .string y6, .slice Yg Yi Yh, .slice Yj Yl Yk, .slice Ym Yo Yn, .slice Yp Yr Yq, .slice Ys Yu Yt] = W14 at HC14 HPT HER ⊢; have hcell := HC14.out.res.2.2; obtain ⟨r0, r1, r2, r3, r4, r5, r6, r7, r8, r9, r10, r11, r12⟩ := bx13 hcell; clear hcell; refine bodyPost_ret (v := .agg #[.slice a acc.length c, .int .i64 y0, .string y1, .bool y2, .slice Ya Yc Yb, .int .i64 y4, .int .u64 y5, .string y6, .slice Yg Yi Yh, .slice Yj Yl Yk, .slice Ym Yo Yn, .slice Yp Yr Yq, .slice Ys Yu Yt]) (by simp [results, Tryz.results106, go_sem, r0, r1, r2, r3, r4, r5, r6, r7, r8, r9, r10, r11, r12]) rfl ?_
                exact ⟨HC14.out.kn, HC14.out.sc, HC14.out.mono, (nextS G.X s1).text, (acc.length : Int), _, rfl, ⟨rfl, rfl⟩, HC14.out.ps.more (M' := MX M pb fk) (fun _ q => .inl q) (fun k hk => by
                  have := HC14.out.sz
                  rcases hk with q | rfl | rfl
                  · exact HC14.out.ps.mB k q
                  · exact ⟨HC14.out.fB, by have := HC14.out.fl; omega⟩
                  · exact ⟨HC14.out.pB, by have := HC14.out.pl; omega⟩), ⟨HC14.out.bp, HC14.out.bf⟩, fun _ q => .inl q, _, _, _, _, _, _, _, _, _, _, _, _, _, _, _, _, _, _, _, _, _, _, _, _, _, _, _, rfl, repT1 HPT.out HER.out⟩
            · rw [needs_bind_no h4] at hr; obtain rfl := Option.some.inj hr; have H4 := hid h4; clear hr h4
              go_wp2_with (go_at_call 66; refine (needs_no hG HC10.out.ps [61] H4.out).mono ?_; rintro e w11 ⟨rfl, hb⟩; have HC11 := hid (HC10.out.below hb); clear hb; unfold thrown)
              go_simp; exact ⟨rfl, HC11.out.kn, rfl⟩
    · rw [name_bind_no hnm] at hx; obtain rfl := Option.some.inj hx; have HNM := hid hnm; clear hx hnm
      go_wp2_with (go_at_call 73; refine (name_no hG HC4.out.ps true HNM.out).mono ?_; rintro e w5 ⟨rfl, hb⟩; have HC5 := hid (HC4.out.below hb); clear hb; unfold thrown)
      go_simp; exact ⟨rfl, HC5.out.kn, rfl⟩
end
end Go.Proofs.YtkblonfmjlopaaaGreatDoor
