/-
  fun, walked.
-/
import Derived.Test.YtkblonfmjlopaaaGreatDoorSyFu1
import Derived.Test.YtkblonfmjlopaaaGreatDoorSyLi4
import Derived.Test.YtkblonfmjlopaaaGreatDoorRegTIn
import Derived.Test.YtkblonfmjlopaaaGreatDoorSySh
import Derived.Test.YtkblonfmjlopaaaGreatDoorSyExp
import Derived.Test.YtkblonfmjlopaaaGreatDoorSyClP
import Derived.Test.YtkblonfmjlopaaaGreatDoorSyClE
import Derived.Test.YtkblonfmjlopaaaGreatDoorSyClQ
import Derived.Test.YtkblonfmjlopaaaGreatDoorSyTyped
import Derived.Test.YtkblonfmjlopaaaGreatDoorSyLi5
import Derived.Test.YtkblonfmjlopaaaGreatDoorSyPap
import Derived.Test.YtkblonfmjlopaaaGreatDoorSyLn
import Derived.Test.YtkblonfmjlopaaaGreatDoorSyDec
import Derived.Defers
import Derived.Recover
import Derived.Deep.Cut
import Derived.Test.YtkblonfmjlopaaaGreatDoorSyKid
import Derived.Test.YtkblonfmjlopaaaGreatDoorSyOpd
set_option linter.all false
set_option maxRecDepth 1000000
set_option maxHeartbeats 16000000
namespace Go.Proofs.YtkblonfmjlopaaaGreatDoor
open Go Go.RowKit
section
variable {G : Gh} {f : Fs} {n : Nat}
theorem fun_any (hG : GOk G) (hn : n ≤ 1000000) (hty : f.ty = PM.none) (hat : FN G 108 #[.pointer (some ⟨G.bp, 0, none⟩)] IsPat (atpat G.X f n)) (hexp : FN G 67 #[.pointer (some ⟨G.bp, 0, none⟩)] IsExp f.exp) : FN G 69 #[.pointer (some ⟨G.bp, 0, none⟩)] IsFun (funS G.X f n) := by
  intro M na nc fa fc w s r hP hx; have hB := hP.bB; have HP := hid hP; have hmf : ∀ (fn : Fn) (first cap : Array Value) (w : World), (Instr.makeFunc fn first cap).run Tryz.prog w = .ok (.func fn first cap) w := fun _ _ _ _ => rfl; unfold funS at hx; have HX := hid hx; clear hx hP; go_enter Tryz.func69, Tryz.ntmps69
  go_upto_region 1 with fail
  have R0 : RFr G M na nc fa fc #[.string ⟨#[]⟩, .int .i64 0, .slice none 0 0] w (w.alloc (.cells #[.pointer (some ⟨G.bp, 0, none⟩)] 49)).heap.size s ((w.alloc (.cells #[.pointer (some ⟨G.bp, 0, none⟩)] 49)).alloc (.cells #[.string ⟨#[]⟩, .int .i64 0, .slice none 0 0] 45)) s := RFr.start2 HP.out (below_alloc w _) 45; have P0 := (BxC.new w #[.pointer (some ⟨G.bp, 0, none⟩)] 49).bl (below_alloc _ (.cells #[.string ⟨#[]⟩, .int .i64 0, .slice none 0 0] 45)); rw [show (w.alloc (.cells #[.pointer (some ⟨G.bp, 0, none⟩)] 49)).heap.size = w.heap.size + 1 from by simp] at R0; obtain ⟨rb, hrb⟩ : ∃ rb, w.heap.size + 1 = rb := ⟨_, rfl⟩; rw [hrb] at R0 ⊢; generalize (w.alloc (.cells #[.pointer (some ⟨G.bp, 0, none⟩)] 49)).alloc (.cells #[.string ⟨#[]⟩, .int .i64 0, .slice none 0 0] 45) = W0 at R0 P0 ⊢
  go_upto_region 2 with fail
  have R1 := R0.below (below_alloc W0 (.cells #[.string ⟨#[]⟩, .int .i64 0, .slice none 0 0] 45)); have P1 := P0.bl (below_alloc W0 (.cells #[.string ⟨#[]⟩, .int .i64 0, .slice none 0 0] 45)); have F1 := BxC.new W0 #[.string ⟨#[]⟩, .int .i64 0, .slice none 0 0] 45; have hfr : rb < W0.heap.size := R0.lt; obtain ⟨fk, hfk⟩ : ∃ fk, W0.heap.size = fk := ⟨_, rfl⟩; rw [hfk] at F1 hfr ⊢; generalize W0.alloc (.cells #[.string ⟨#[]⟩, .int .i64 0, .slice none 0 0] 45) = W1 at R1 P1 F1 ⊢; have HR1 := hid R1; have HP1 := hid P1; have HF1 := hid F1; have HRB := hid (And.intro hrb hfr); have HNP : Hid (¬ M w.heap.size) := hid (fun q => by have := (HP.out.mB _ q).2; omega); have HNF : Hid (¬ M fk) := hid (fun q => by have := (HP.out.mB _ q).2; omega)
  have HPX : Hid (PS G (MX M w.heap.size fk) na nc fa fc W1 s) := hid (R1.ps.more (fun _ q => .inl q) (fun k hk => by
    have h1 := P1.1; have h2 := F1.1
    rcases hk with q | rfl | rfl
    · exact R1.ps.mB k q
    · exact ⟨by omega, h2⟩
    · exact ⟨hB, h1⟩))
  have HCL := hid (clause_clo hG hn hty hat hexp M na nc fa fc w.heap.size fk HP.out.mp (fun b o e => (HP.out.mn b o e).1) (fun b o e => (HP.out.mf b o e).1) HNP.out HNF.out (by omega)); have p0 : W1.cell? ⟨w.heap.size, 0, none⟩ = some (.pointer (some ⟨G.bp, 0, none⟩)) := P1.2.2 0 (show 0 < 1 by omega); clear R0 P0 R1 P1 F1 hrb hfr hfk; have hx := HX.out; clear HX
  have hst : StOk G (fun _ : Byt × Int => MX M w.heap.size fk) (StC G w.heap.size fk) := fun w1 w2 g hs hk => by
    have hlt : ∀ k, k < w1.heap.size → w2.heap[k]? = w1.heap[k]? → k < w2.heap.size := fun k h1 h2 => by
      rw [Array.getElem?_eq_getElem h1] at h2; exact (Array.getElem?_eq_some_iff.1 h2).1
    have e1 := hk w.heap.size (.inr (.inr rfl)) (fun e => HNP.out (by rw [e]; exact HP.out.mp)); have e2 := hk fk (.inr (.inl rfl)) (fun e => HNF.out (by rw [e]; exact HP.out.mp))
    exact ⟨⟨hlt _ hs.1.1 e1, fun o => (World.frozen?_of_block (w := w1) (a := ⟨w.heap.size, o, none⟩) e1).trans (hs.1.2.1 o), fun j hj => (World.cell?_of_block (w := w1) (a := ⟨w.heap.size, 0 + j, none⟩) e1).trans (hs.1.2.2 j hj)⟩,
      ⟨hlt _ hs.2.1 e2, fun o => (World.frozen?_of_block (w := w1) (a := ⟨fk, o, none⟩) e2).trans (hs.2.2.1 o), fun j hj => (World.cell?_of_block (w := w1) (a := ⟨fk, 0 + j, none⟩) e2).trans (hs.2.2.2 j hj)⟩⟩
  have HST := hid hst; clear hst
  rcases bind_cases hx with ⟨c, q, h1, rfl⟩ | ⟨⟨l, k1, k2⟩, s1, h1, h2⟩
  · have H1 := hid h1; clear hx h1
    go_wp2_with (go_at_call 105; refine (list_Clause hG HST.out 106 #[] #[.pointer (some ⟨w.heap.size, 0, none⟩), .pointer (some ⟨fk, 0, none⟩)] (fun _ _ => rfl) [124] (clauseS G.X f n) HCL.out n _ s ([], 0) _ HPX.out ⟨HP1.out, HF1.out⟩ H1.out).mono ?_; rintro e w5 ⟨hk, rfl⟩; unfold thrown)
    go_simp
    exact ⟨rfl, HR1.out.kn.trans hk (fun k hk0 hm => by
      have := HRB.out
      rcases hm with q | rfl | rfl
      · exact q
      · omega
      · omega), rfl⟩
  · obtain rfl := pure_inv h2; have H1 := hid h1; clear hx h1 h2
    go_upto_region 3 with (go_at_call 105; refine (list_Clause hG HST.out 106 #[] #[.pointer (some ⟨w.heap.size, 0, none⟩), .pointer (some ⟨fk, 0, none⟩)] (fun _ _ => rfl) [124] (clauseS G.X f n) HCL.out n _ s ([], 0) _ HPX.out ⟨HP1.out, HF1.out⟩ H1.out).mono ?_; rintro e w5 ⟨hk, hsc, hi, g5, v5, rfl, hg5, hP5, hS5, _, _, a5, c5, rfl, hl5⟩; obtain rfl := hg5; have HK5 := hid hk; have HP5 := hid hP5; have HS5 := hid hS5; have HL5 := hid hl5; have HSC := hid (And.intro hsc hi); have f2 : w5.cell? ⟨fk, 2, none⟩ = some (.slice none 0 0) := hS5.2.2.2 2 (show 2 < 3 by omega); have ff := hS5.2.2.1; clear hk hsc hi hP5 hS5 hl5)
    have R5 : RFr G M na nc fa fc #[.string ⟨#[]⟩, .int .i64 0, .slice none 0 0] w rb s w5 s1 := ⟨HR1.out.kn.trans HK5.out (fun k hk0 hm => by
        have := HRB.out
        rcases hm with q | rfl | rfl
        · exact q
        · omega
        · omega), HP5.out.less (fun _ q => .inl q) HP.out.mp (fun b o e => (HP.out.mn b o e).1) (fun b o e => (HP.out.mf b o e).1), HSC.out.1.trans HR1.out.sc, Nat.le_trans HR1.out.mono HSC.out.2, HR1.out.res.kn HK5.out (fun q => by
        have := HRB.out
        rcases q with q | rfl | rfl
        · exact HR1.out.nm q
        · omega
        · omega), HR1.out.lo, HR1.out.hB, HR1.out.mw⟩
    have hrbs := HRB.out; have hot : ∀ b, b ≠ fk → (w5.setCell ⟨fk, 2, none⟩ (.slice a5 l.length c5)).heap[b]? = w5.heap[b]? := fun b hb => Below.heap_setCell _ _ _ _ hb; have hsz : (w5.setCell ⟨fk, 2, none⟩ (.slice a5 l.length c5)).heap.size = w5.heap.size := by simp [World.setCell]
    have hbl : Below fk w5 (w5.setCell ⟨fk, 2, none⟩ (.slice a5 l.length c5)) := Below.setCell (Below.refl _ _) (p := ⟨fk, 2, none⟩) (Nat.le_refl _) _; have R6 : RFr G M na nc fa fc #[.string ⟨#[]⟩, .int .i64 0, .slice none 0 0] w rb s (w5.setCell ⟨fk, 2, none⟩ (.slice a5 l.length c5)) s1 := ⟨R5.kn.low hbl (by omega) (by omega), R5.ps.set (p := ⟨fk, 2, none⟩) (by show G.B ≤ fk; omega) HNF.out _, R5.sc, R5.mono, R5.res.keep (hot _ (by omega)) (by omega), R5.lo, R5.hB, R5.mw⟩; have F6 : BxC (w5.setCell ⟨fk, 2, none⟩ (.slice a5 l.length c5)) fk #[.string ⟨k1.toArray⟩, .int .i64 k2, .slice a5 l.length c5] := by simpa using HS5.out.2.set1 2 (by simp) (.slice a5 l.length c5)
    have HW1 : W1.heap.size ≤ w5.heap.size := HK5.out.size; have hfl : fk < W1.heap.size := HF1.out.1; have L6 : RepT (w5.setCell ⟨fk, 2, none⟩ (.slice a5 l.length c5)) (Own G.B W1.heap.size w5.heap.size (MX M w.heap.size fk)) (.sl l) [.slice a5 l.length c5] := RepT.on HL5.out (fun b hb => hot b (fun e => by rcases hb with q | q; omega; have := q.1; omega)) (fun _ h => h); have HT := ret2Fun R6 (by rfl) (show RepR _ _ (mkFun k1 k2 l) [.string ⟨k1.toArray⟩, .int .i64 k2, .slice a5 l.length c5] from repV _ (repV _ (repT1 L6 repN))) (fun b hb => hb.imp id fun q => ⟨by have := q.1; omega, by rw [hsz]; exact q.2.1, by have := q.1; omega⟩); obtain ⟨g0, g1, g2⟩ := bx3 F6.2.2; have hz := R6.res.2.2; have zf := R6.res.2.1; obtain ⟨z0, z1, z2⟩ := bx3 hz; have HF := hid HT.2; have HRS := hid HT.1; have hne : ¬ rb = fk := by omega
    clear hz HT L6 F6 R5 R6 hot hsz hbl hrbs HW1 hfl f2 ff; generalize w5.setCell ⟨fk, 2, none⟩ (.slice a5 l.length c5) = W6 at HF HRS g0 g1 g2 z0 z1 z2 zf ⊢
    go_wp2_with fail
    refine fin3 HRS.out (by intros; simp [results, Tryz.results69, go_sem, *]) rfl HF.out
end
abbrev Pa (G : Gh) : Value := .pointer (some ⟨G.bp, 0, none⟩)
structure AllOk (G : Gh) (n : Nat) : Prop where
  pat : FN G 65 #[Pa G] IsPat (fsR G.X n).pat
  exp : FN G 67 #[Pa G] IsExp (fsR G.X n).exp
  decs : ∀ top, FLs G 12 #[Pa G, .bool top] ((fsR G.X n).decs top)
  climbP : ∀ l b, FN G 98 #[Pa G, .int .i64 l, .bool b, .func (.func 99) #[Pa G] #[], .bool false, .func (.func 100) #[] #[]] IsPat ((fsR G.X n).climbP l b)
  climbE : ∀ l b, FN G 192 #[Pa G, .int .i64 l, .bool b, .func (.func 193) #[Pa G] #[], .bool true, .func (.func 194) #[] #[]] IsExp ((fsR G.X n).climbE l b)
  either : FN G 103 #[Pa G] IsExp (fsR G.X n).either
  both : FN G 138 #[Pa G] IsExp (fsR G.X n).both
theorem fn_none {G : Gh} {k : Nat} {args : Array Value} {I : Shp} : FN G k args I PM.none := fun _ _ _ _ _ _ _ _ _ h => by cases h
theorem all_ok {G : Gh} (hG : GOk G) : ∀ n, n ≤ 1000000 → AllOk G n
  | 0, _ => ⟨fn_none, fn_none, fun _ _ _ _ _ _ _ _ _ _ h => (by cases h), fun _ _ => fn_none, fun _ _ => fn_none, fn_none, fn_none⟩
  | n + 1, hn => by
    have H := all_ok hG n (by omega); have hty : (fsR G.X n).ty = PM.none := by cases n <;> rfl
    have hapt : ∀ w, (fsR G.X n).apt w = PM.none := fun w => by cases n <;> rfl
    have hptu : ∀ l, (fsR G.X n).ptu l = PM.none := fun w => by cases n <;> rfl
    have hasp : ∀ t, (fsR G.X n).asp t = PM.none := fun w => by cases n <;> rfl
    have hhd : ∀ t, (fsR G.X n).hd t = PM.none := fun w => by cases n <;> rfl
    have hatm : ∀ t, (fsR G.X n).atm t = PM.none := fun w => by cases n <;> rfl
    have hpsq : ∀ t, (fsR G.X n).psq t = PM.none := fun w => by cases n <;> rfl
    have hptp : ∀ t, (fsR G.X n).ptp t = PM.none := fun w => by cases n <;> rfl
    have hdcl : ∀ t, (fsR G.X n).dcl t = PM.none := fun w => by cases n <;> rfl
    have hm : (fsR G.X n).mtch = PM.none := by cases n <;> rfl
    have hah := ahead_any (f := fsR G.X n) hG H.exp hhd; have hat := atpat_any (f := fsR G.X n) (n := n) hG H.pat hapt hptu (fun s a s' h => (fsR_sh n).1 s a s' h); have htyped := typed_any (f := fsR G.X n) (n := n) hG hty (H.climbE 0 false); have hpar := paren_any (f := fsR G.X n) hG H.exp hpsq hptp; have hatom := atom_any (f := fsR G.X n) hG hpar hatm; have happ := app_any (f := fsR G.X n) (n := n) hG hatom; have hpapp := patApp_any (f := fsR G.X n) (n := n) hG hat; have hfun := fun_any (f := fsR G.X n) (n := n) hG (by omega) hty hat H.exp; refine ⟨?_, ?_, ?_, ?_, ?_, ?_, ?_⟩
    · exact pat_any (f := fsR G.X n) (n := n) hG hty hasp (H.climbP 0 false)
    · exact exp_any (f := fsR G.X n) (n := n) hG hah H.either (by rw [hm]; exact fun _ _ _ _ _ _ _ _ _ h => by cases h)
    · intro top
      by_cases h0 : n = 0
      · subst h0; exact fun _ _ _ _ _ _ _ _ _ h => by cases h
      · obtain ⟨k, rfl⟩ : ∃ k, n = k + 1 := ⟨n - 1, by omega⟩; exact decs_any (f := fsR G.X (k + 1)) (n := k + 1) hG (by omega) top hdcl (fun wd => dec_any (f := fsR G.X (k + 1)) (n := k + 1) hG H.pat H.exp hfun rfl hdcl wd)
    · exact fun l b => climb_Pat (n := n) hG l b (patApp G.X (fsR G.X n) n) (fsR G.X n).climbP 99 #[Pa G] #[] (fun _ _ => rfl) hpapp H.climbP
    · exact fun l b => climb_Exp (n := n) hG l b (app G.X (fsR G.X n) n) (fsR G.X n).climbE 193 #[Pa G] #[] (fun _ _ => rfl) happ H.climbE
    · exact either_any (f := fsR G.X n) hG hah H.both H.either
    · exact both_any (f := fsR G.X n) (n := n) hG hah htyped H.both
theorem catch_idle (lp mp : Addr) (w : World) : CallsD Tryz.prog 10 #[.pointer (some lp), .pointer (some mp)] .returning w fun e u' w' => e = .returned (.tuple #[]) ∧ u' = .returning ∧ w' = w := by
  refine callsD_of_wpS Tryz.func10 rfl fun c₀ cs hu => ?_; apply wpS_seq; apply wpS_region; simp [wpOpsS, go_sem, recoverD, hu, Tryz.ntmps10, Exit.thenS]; refine wpS_of_wp ?_
  go_wp2_with fail
  cases c₀
  simp_all [bodyPostS, results, Tryz.results10]
theorem assert_mishap (c q : Nat) (w : World) : (Instr.typeAssert (.iface 26 (.agg #[.int .i64 (c : Nat), .int .i64 (q : Nat)])) 20 26 true).run Tryz.prog w = .ok (.tuple #[.agg #[.int .i64 (c : Nat), .int .i64 (q : Nat)], .bool true]) w := by kernel_rfl
theorem catch_mishap (lb mb : Nat) (c q : Nat) (x : Value) (y0 y1 : Int) (older : List PanicEntry) (w : World) (hl : w.cell? ⟨lb, 0, none⟩ = some x) (hm0 : w.cell? ⟨mb, 0, none⟩ = some (.int .i64 y0)) (hm1 : w.cell? ⟨mb, 1, none⟩ = some (.int .i64 y1))
    (fl : ∀ o, w.frozen? ⟨lb, o, none⟩ = false) (fm : ∀ o, w.frozen? ⟨mb, o, none⟩ = false) (hne : ¬ lb = mb) :
    CallsD Tryz.prog 10 #[.pointer (some ⟨lb, 0, none⟩), .pointer (some ⟨mb, 0, none⟩)] (.panicking ({ v := .iface 26 (.agg #[.int .i64 (c : Nat), .int .i64 (q : Nat)]), recovered := false } :: older)) w fun e u' w' =>
      e = .returned (.tuple #[]) ∧ u' = .panicking ({ v := .iface 26 (.agg #[.int .i64 (c : Nat), .int .i64 (q : Nat)]), recovered := true } :: older) ∧ ∃ W1, Below w.heap.size w W1 ∧ w' = ((W1.setCell ⟨lb, 0, none⟩ (.slice none 0 0)).setCell ⟨mb, 0, none⟩ (.int .i64 (c : Nat))).setCell ⟨mb, 1, none⟩ (.int .i64 (q : Nat)) := by
  refine callsD_of_wpS Tryz.func10 rfl fun c₀ cs hu => ?_; apply wpS_seq; apply wpS_region; simp [wpOpsS, go_sem, recoverD, hu, Tryz.ntmps10, Exit.thenS]; refine wpS_of_wp ?_; have hta := assert_mishap c q
  go_upto_region 7 with fail
  have HA := BxC.new w #[.int .i64 (c : Nat), .int .i64 (q : Nat)] 26; have hba := below_alloc w (.cells #[.int .i64 (c : Nat), .int .i64 (q : Nat)] 26); have hlb : lb < w.heap.size := World.block_lt_of_cell? w _ hl; have hmb : mb < w.heap.size := World.block_lt_of_cell? w _ hm0; have HBW : Hid (Below w.heap.size w (w.alloc (.cells #[.int .i64 (c : Nat), .int .i64 (q : Nat)] 26)).drew) := hid hba.drew; obtain ⟨ab, hab⟩ : ∃ ab, w.heap.size = ab := ⟨_, rfl⟩; have hab2 : ab ≠ lb ∧ ab ≠ mb := ⟨by omega, by omega⟩; have a0 : (w.alloc (.cells #[.int .i64 (c : Nat), .int .i64 (q : Nat)] 26)).drew.cell? ⟨ab, 0, none⟩ = some (.int .i64 (c : Nat)) := by rw [← hab]; exact HA.2.2 0 (show 0 < 2 by omega)
  have a1 : (w.alloc (.cells #[.int .i64 (c : Nat), .int .i64 (q : Nat)] 26)).drew.cell? ⟨ab, 1, none⟩ = some (.int .i64 (q : Nat)) := by rw [← hab]; exact HA.2.2 1 (show 1 < 2 by omega)
  have l0 : (w.alloc (.cells #[.int .i64 (c : Nat), .int .i64 (q : Nat)] 26)).drew.cell? ⟨lb, 0, none⟩ = some x := (hba.cell (p := ⟨lb, 0, none⟩) hlb).trans hl; have m0 : (w.alloc (.cells #[.int .i64 (c : Nat), .int .i64 (q : Nat)] 26)).drew.cell? ⟨mb, 0, none⟩ = some (.int .i64 y0) := (hba.cell (p := ⟨mb, 0, none⟩) hmb).trans hm0; have m1 : (w.alloc (.cells #[.int .i64 (c : Nat), .int .i64 (q : Nat)] 26)).drew.cell? ⟨mb, 1, none⟩ = some (.int .i64 y1) := (hba.cell (p := ⟨mb, 1, none⟩) hmb).trans hm1; have lf : ∀ o, (w.alloc (.cells #[.int .i64 (c : Nat), .int .i64 (q : Nat)] 26)).drew.frozen? ⟨lb, o, none⟩ = false := fun o => (hba.frozen (p := ⟨lb, o, none⟩) hlb).trans (fl o); have mf : ∀ o, (w.alloc (.cells #[.int .i64 (c : Nat), .int .i64 (q : Nat)] 26)).drew.frozen? ⟨mb, o, none⟩ = false := fun o => (hba.frozen (p := ⟨mb, o, none⟩) hmb).trans (fm o); rw [hab]; have hab0 := hab; clear HA hba hl hm0 hm1 fl fm hlb hmb; refine region_T (S := fun wx => wx.cell? ⟨ab, 0, none⟩ = some (.int .i64 (c : Nat)) ∧ wx.cell? ⟨ab, 1, none⟩ = some (.int .i64 (q : Nat))) (T := fun _j => _j == 2) (by kernel_rfl) ?_; generalize (w.alloc (.cells #[.int .i64 (c : Nat), .int .i64 (q : Nat)] 26)).drew = W1 at a0 a1 l0 m0 m1 lf mf HBW ⊢; have hab := hab2; clear hab2; have hS0 := And.intro (a0) (a1); refine tq 0 hS0 ?_; refine on1 1 fun K hK => ?_; go_simp; clear l0 lf; have hot : (W1.setCell ⟨lb, 0, none⟩ (.slice none 0 0)).heap[ab]? = W1.heap[ab]? := Below.heap_setCell _ _ _ _ (show ab ≠ lb from hab.1); have hS1 := And.intro ((World.cell?_of_block (w := W1) (a := ⟨ab, 0, none⟩) hot).trans (hS0).1) ((World.cell?_of_block (w := W1) (a := ⟨ab, 1, none⟩) hot).trans (hS0).2); have m0 : (W1.setCell ⟨lb, 0, none⟩ (.slice none 0 0)).cell? ⟨mb, 0, none⟩ = some (.int .i64 y0) := (World.cell?_of_block (w := W1) (a := ⟨mb, 0, none⟩) (Below.heap_setCell _ _ _ _ (show mb ≠ lb from fun e => hne e.symm))).trans m0; have m1 : (W1.setCell ⟨lb, 0, none⟩ (.slice none 0 0)).cell? ⟨mb, 1, none⟩ = some (.int .i64 y1) := (World.cell?_of_block (w := W1) (a := ⟨mb, 1, none⟩) (Below.heap_setCell _ _ _ _ (show mb ≠ lb from fun e => hne e.symm))).trans m1; have mf : ∀ o, (W1.setCell ⟨lb, 0, none⟩ (.slice none 0 0)).frozen? ⟨mb, o, none⟩ = false := fun o => (World.frozen?_of_block (w := W1) (a := ⟨mb, o, none⟩) (Below.heap_setCell _ _ _ _ (show mb ≠ lb from fun e => hne e.symm))).trans (mf o); clear hot; generalize hW2 : W1.setCell ⟨lb, 0, none⟩ (.slice none 0 0) = W2 at hS1 m0 m1 mf ⊢; refine nx hK hS1 ?_; clear hK K; refine on1 2 fun K hK => ?_; go_simp; refine nxT hK ?_; clear hK K; refine anyT_done (by kernel_rfl) ?_ _; subst hW2
  go_wp2_with fail
  refine ⟨rfl, _, rfl, .tuple #[], ?_, rfl, rfl, W1, HBW.out, rfl⟩; simp [results, Tryz.results10]
section
variable {P : Program} {ops : Array Oper} {Q : Exit → Act → World → Prop} {md : Region.Mode} {S : World → Prop} {T : Nat → Bool}
theorem anyT_three {i j k : Nat} {oi oj ok : Oper} {m : Nat} {L : Array Bool} {a : Act} {w : World} (hr : Region.ready md ops L = [i, j, k]) (hi : ops[i]? = some oi) (hj : ops[j]? = some oj) (hk : ops[k]? = some ok)
    (h1 : ∀ K : Act → World → Prop, Shut (∀ b v, (T i = false → S v) → anyT P md ops Q S T m (L.setIfInBounds i true) b v → K b v) → if Region.wanted oi (yielded ops a.tmps) = true then Oper.wp P oi a w K Q else K (a.put oi.dst undef) w)
    (h2 : ∀ K : Act → World → Prop, Shut (∀ b v, (T j = false → S v) → anyT P md ops Q S T m (L.setIfInBounds j true) b v → K b v) → if Region.wanted oj (yielded ops a.tmps) = true then Oper.wp P oj a w K Q else K (a.put oj.dst undef) w)
    (h3 : ∀ K : Act → World → Prop, Shut (∀ b v, (T k = false → S v) → anyT P md ops Q S T m (L.setIfInBounds k true) b v → K b v) → if Region.wanted ok (yielded ops a.tmps) = true then Oper.wp P ok a w K Q else K (a.put ok.dst undef) w) :
    anyT P md ops Q S T (m + 1) L a w :=
  ⟨fun h0 => (by rw [hr] at h0; cases h0), fun l hl => by
    rw [hr] at hl; have hl : l = i ∨ l = j ∨ l = k := by simpa using hl
    rcases hl with rfl | rfl | rfl
    · exact wpOp_step hi (fun K hK => h1 K (fun b v hS hA => hK b v ⟨hS, hA⟩))
    · exact wpOp_step hj (fun K hK => h2 K (fun b v hS hA => hK b v ⟨hS, hA⟩))
    · exact wpOp_step hk (fun K hK => h3 K (fun b v hS hA => hK b v ⟨hS, hA⟩))⟩
end
structure SF (w : World) (na0 fa0 : Option Addr) (B sb tb : Nat) (OV TV : Array Value) (na : Option Addr) (n1 nc : Nat) (hn : Nat → Value) (fa : Option Addr) (n2 fc : Nat) (hf : Nat → Value) (cur : World) : Prop where
  bl : Below B w cur
  bs : B ≤ cur.heap.size
  bx : BxC cur sb OV
  bt : BxC cur tb TV
  an : ArrS cur na n1 nc 1 hn
  wn : New cur B na (nc * 1)
  af : ArrS cur fa n2 fc 2 hf
  wf : New cur B fa (fc * 2)
  ln : ∀ b o, na = some ⟨b, o, none⟩ → b < cur.heap.size ∧ b ≠ sb ∧ b ≠ tb
  lf : ∀ b o, fa = some ⟨b, o, none⟩ → b < cur.heap.size ∧ b ≠ sb ∧ b ≠ tb
  nf : ∀ b o1 o2, na = some ⟨b, o1, none⟩ → fa = some ⟨b, o2, none⟩ → False
  sz : w.heap.size ≤ cur.heap.size
  n0 : ∀ b o, na = some ⟨b, o, none⟩ → na0 = some ⟨b, o, none⟩ ∨ w.heap.size ≤ b
  f0 : ∀ b o, fa = some ⟨b, o, none⟩ → fa0 = some ⟨b, o, none⟩ ∨ w.heap.size ≤ b
  kp : ∀ k, k < w.heap.size → k ≠ sb → (∀ o, na0 ≠ some ⟨k, o, none⟩) → (∀ o, fa0 ≠ some ⟨k, o, none⟩) → cur.heap[k]? = w.heap[k]?
section
variable {w cur w2 : World} {B sb tb : Nat} {OV TV : Array Value} {na fa na0 fa0 : Option Addr} {n1 nc n2 fc : Nat} {hn hf : Nat → Value}
theorem SF.below (h : SF w na0 fa0 B sb tb OV TV na n1 nc hn fa n2 fc hf cur) (hb : Below cur.heap.size cur w2) : SF w na0 fa0 B sb tb OV TV na n1 nc hn fa n2 fc hf w2 :=
  ⟨h.bl.trans (hb.mono h.bs), Nat.le_trans h.bs hb.size, h.bx.bl hb, h.bt.bl hb, h.an.blocks (fun b o e => hb.block b (h.ln b o e).1), h.wn.blocks (fun b o e => hb.block b (h.ln b o e).1), h.af.blocks (fun b o e => hb.block b (h.lf b o e).1), h.wf.blocks (fun b o e => hb.block b (h.lf b o e).1),
    fun b o e => ⟨Nat.lt_of_lt_of_le (h.ln b o e).1 hb.size, (h.ln b o e).2⟩, fun b o e => ⟨Nat.lt_of_lt_of_le (h.lf b o e).1 hb.size, (h.lf b o e).2⟩, h.nf, Nat.le_trans h.sz hb.size, h.n0, h.f0, fun k h1 h2 h3 h4 => (hb.block k (Nat.lt_of_lt_of_le h1 h.sz)).trans (h.kp k h1 h2 h3 h4)⟩
theorem SF.names (h : SF w na0 fa0 B sb tb OV TV na n1 nc hn fa n2 fc hf cur) {na' : Option Addr} {n1' nc' : Nat} {r h' : Nat → Value} {z : Value} (hc : r = hn ∧ na' = na ∧ nc' = nc ∨ r = zcS z ∧ na' = some ⟨cur.heap.size, 0, none⟩ ∧ cur.heap.size < w2.heap.size ∧ ∀ p : Addr, p.block < cur.heap.size → w2.cell? p = cur.cell? p)
    (A : ArrS w2 na' n1' nc' 1 h') (N : New w2 B na' (nc' * 1)) (b5 : Below B cur w2) (kb : ∀ k, k < cur.heap.size → (∀ off, na ≠ some ⟨k, off, none⟩) → w2.heap[k]? = cur.heap[k]?) : SF w na0 fa0 B sb tb OV TV na' n1' nc' h' fa n2 fc hf w2 := by
  have hsb : w2.heap[sb]? = cur.heap[sb]? := kb sb h.bx.1 (fun o e => (h.ln _ _ e).2.1 rfl); have htb : w2.heap[tb]? = cur.heap[tb]? := kb tb h.bt.1 (fun o e => (h.ln _ _ e).2.2 rfl); have hfb : ∀ b o, fa = some ⟨b, o, none⟩ → w2.heap[b]? = cur.heap[b]? := fun b o e => kb b (h.lf b o e).1 (fun o2 e2 => h.nf b o2 o e2 e); have hs := b5.size; have h1 := h.bx.1; have h2 := h.bt.1; refine ⟨h.bl.trans b5, Nat.le_trans h.bs hs, h.bx.keep hsb hs, h.bt.keep htb hs, A, N, h.af.blocks hfb, h.wf.blocks hfb, fun b o e => ?_, fun b o e => ⟨Nat.lt_of_lt_of_le (h.lf b o e).1 hs, (h.lf b o e).2⟩, fun b o1 o2 e1 e2 => ?_, Nat.le_trans h.sz hs, fun b o e => ?_, h.f0, fun k k1 k2 k3 k4 => ?_⟩
  · rcases hc with ⟨_, rfl, _⟩ | ⟨_, rfl, hlt, _⟩
    · exact ⟨Nat.lt_of_lt_of_le (h.ln b o e).1 hs, (h.ln b o e).2⟩
    · simp only [Option.some.injEq, Addr.mk.injEq, and_true] at e; exact ⟨by omega, by omega, by omega⟩
  · rcases hc with ⟨_, rfl, _⟩ | ⟨_, rfl, hlt, _⟩
    · exact h.nf b o1 o2 e1 e2
    · simp only [Option.some.injEq, Addr.mk.injEq, and_true] at e1; have := (h.lf b o2 e2).1; omega
  · rcases hc with ⟨_, rfl, _⟩ | ⟨_, rfl, hlt, _⟩
    · exact h.n0 b o e
    · simp only [Option.some.injEq, Addr.mk.injEq, and_true] at e; have := h.sz; exact .inr (by omega)
  · exact (kb k (Nat.lt_of_lt_of_le k1 h.sz) (fun o e => (h.n0 k o e).elim (k3 o) (fun q => by omega))).trans (h.kp k k1 k2 k3 k4)
theorem SF.fixes (h : SF w na0 fa0 B sb tb OV TV na n1 nc hn fa n2 fc hf cur) {fa' : Option Addr} {n2' fc' : Nat} {r h' : Nat → Value} {z : Value} (hc : r = hf ∧ fa' = fa ∧ fc' = fc ∨ r = zcS z ∧ fa' = some ⟨cur.heap.size, 0, none⟩ ∧ cur.heap.size < w2.heap.size ∧ ∀ p : Addr, p.block < cur.heap.size → w2.cell? p = cur.cell? p)
    (A : ArrS w2 fa' n2' fc' 2 h') (N : New w2 B fa' (fc' * 2)) (b5 : Below B cur w2) (kb : ∀ k, k < cur.heap.size → (∀ off, fa ≠ some ⟨k, off, none⟩) → w2.heap[k]? = cur.heap[k]?) : SF w na0 fa0 B sb tb OV TV na n1 nc hn fa' n2' fc' h' w2 := by
  have hsb : w2.heap[sb]? = cur.heap[sb]? := kb sb h.bx.1 (fun o e => (h.lf _ _ e).2.1 rfl); have htb : w2.heap[tb]? = cur.heap[tb]? := kb tb h.bt.1 (fun o e => (h.lf _ _ e).2.2 rfl); have hfb : ∀ b o, na = some ⟨b, o, none⟩ → w2.heap[b]? = cur.heap[b]? := fun b o e => kb b (h.ln b o e).1 (fun o2 e2 => h.nf b o o2 e e2); have hs := b5.size; have h1 := h.bx.1; have h2 := h.bt.1; refine ⟨h.bl.trans b5, Nat.le_trans h.bs hs, h.bx.keep hsb hs, h.bt.keep htb hs, h.an.blocks hfb, h.wn.blocks hfb, A, N, fun b o e => ⟨Nat.lt_of_lt_of_le (h.ln b o e).1 hs, (h.ln b o e).2⟩, fun b o e => ?_, fun b o1 o2 e1 e2 => ?_, Nat.le_trans h.sz hs, h.n0, fun b o e => ?_, fun k k1 k2 k3 k4 => ?_⟩
  · rcases hc with ⟨_, rfl, _⟩ | ⟨_, rfl, hlt, _⟩
    · exact ⟨Nat.lt_of_lt_of_le (h.lf b o e).1 hs, (h.lf b o e).2⟩
    · simp only [Option.some.injEq, Addr.mk.injEq, and_true] at e; exact ⟨by omega, by omega, by omega⟩
  · rcases hc with ⟨_, rfl, _⟩ | ⟨_, rfl, hlt, _⟩
    · exact h.nf b o1 o2 e1 e2
    · simp only [Option.some.injEq, Addr.mk.injEq, and_true] at e2; have := (h.ln b o1 e1).1; omega
  · rcases hc with ⟨_, rfl, _⟩ | ⟨_, rfl, hlt, _⟩
    · exact h.f0 b o e
    · simp only [Option.some.injEq, Addr.mk.injEq, and_true] at e; have := h.sz; exact .inr (by omega)
  · exact (kb k (Nat.lt_of_lt_of_le k1 h.sz) (fun o e => (h.f0 k o e).elim (k4 o) (fun q => by omega))).trans (h.kp k k1 k2 k3 k4)
theorem SF.set (h : SF w na0 fa0 B sb tb OV TV na n1 nc hn fa n2 fc hf cur) (hB : B ≤ sb) (ht : tb ≠ sb) (j : Nat) (hj : j < OV.size) (v : Value) : SF w na0 fa0 B sb tb (OV.setIfInBounds j v) TV na n1 nc hn fa n2 fc hf (cur.setCell ⟨sb, j, none⟩ v) := by
  have hot : ∀ b, b ≠ sb → (cur.setCell ⟨sb, j, none⟩ v).heap[b]? = cur.heap[b]? := fun b hb => Below.heap_setCell _ _ _ _ hb; have hsz : (cur.setCell ⟨sb, j, none⟩ v).heap.size = cur.heap.size := by simp [World.setCell]
  exact ⟨h.bl.setCell (p := ⟨sb, j, none⟩) hB v, by rw [hsz]; exact h.bs, h.bx.set1 j hj v, h.bt.keep (hot _ ht) (by omega), h.an.blocks (fun b o e => hot b (h.ln b o e).2.1), h.wn.blocks (fun b o e => hot b (h.ln b o e).2.1), h.af.blocks (fun b o e => hot b (h.lf b o e).2.1), h.wf.blocks (fun b o e => hot b (h.lf b o e).2.1),
    fun b o e => by rw [hsz]; exact h.ln b o e, fun b o e => by rw [hsz]; exact h.lf b o e, h.nf, by rw [hsz]; exact h.sz, h.n0, h.f0, fun k k1 k2 k3 k4 => (hot k k2).trans (h.kp k k1 k2 k3 k4)⟩
end
end Go.Proofs.YtkblonfmjlopaaaGreatDoor
