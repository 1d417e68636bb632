/-
  ahead, walked: raise alone.
-/
import Derived.Test.YtkblonfmjlopaaaGreatDoorSyKid
import Derived.Test.YtkblonfmjlopaaaGreatDoorRegTIn
import Derived.Test.YtkblonfmjlopaaaGreatDoorSyDp
import Derived.Test.YtkblonfmjlopaaaGreatDoorSyMk
import Derived.Test.YtkblonfmjlopaaaGreatDoorSyRet
import Derived.Test.YtkblonfmjlopaaaGreatDoorSyOpd
import Derived.Deep.Cut
set_option linter.all false
set_option maxRecDepth 1000000
set_option maxHeartbeats 16000000
namespace Go.Proofs.YtkblonfmjlopaaaGreatDoor
open Go Go.RowKit
theorem text_in {X : Tx} {s : PSt} {t : List UInt8} (h : (nextS X s).text = t) (ht : t ≠ []) : s.i < X.ts.length := by
  rcases Nat.lt_or_ge s.i X.ts.length with c | c
  · exact c
  · exfalso; apply ht; rw [← h]; unfold nextS; rw [List.getElem?_eq_none c]; rfl
section
variable {G : Gh} {f : Fs} {n : Nat}
theorem ahead_any (hG : GOk G) (hexp : FN G 67 #[.pointer (some ⟨G.bp, 0, none⟩)] IsExp f.exp) (hhd : ∀ w, f.hd w = PM.none) : FN G 102 #[.pointer (some ⟨G.bp, 0, none⟩)] IsExp (ahead G.X f) := by
  intro M na nc fa fc w s r hP hx; have HP := hid hP; have hmf : ∀ (fn : Fn) (first cap : Array Value) (w : World), (Instr.makeFunc fn first cap).run Tryz.prog w = .ok (.func fn first cap) w := fun _ _ _ _ => rfl; unfold ahead at hx; simp only [] at hx; have HNP : Hid (¬ M w.heap.size) := hid (fun q => by have := (hP.mB _ q).2; omega)
  by_cases ht : (nextS G.X s).text = [114, 97, 105, 115, 101]
  · rw [if_pos ht] at hx; have HT := hid ht; have HI := hid (text_in ht (by decide)); clear ht hP
    rcases bind_cases hx with ⟨c, q, h1, rfl⟩ | ⟨nd, s1, h1, h2⟩
    · have HX := hid h1; clear hx h1; go_enter Tryz.func102, Tryz.ntmps102
      go_upto_region 1 with fail
      have R0 : RFr G M na nc fa fc #[.int .i64 0, .string ⟨#[]⟩, .bool false, .slice none 0 0, .int .i64 0, .int .u64 0, .string ⟨#[]⟩, .slice none 0 0, .slice none 0 0, .slice none 0 0, .slice none 0 0, .slice none 0 0] w (w.alloc (.cells #[.pointer (some ⟨G.bp, 0, none⟩)] 49)).heap.size s ((w.alloc (.cells #[.pointer (some ⟨G.bp, 0, none⟩)] 49)).alloc (.cells #[.int .i64 0, .string ⟨#[]⟩, .bool false, .slice none 0 0, .int .i64 0, .int .u64 0, .string ⟨#[]⟩, .slice none 0 0, .slice none 0 0, .slice none 0 0, .slice none 0 0, .slice none 0 0] 87)) s := RFr.start2 HP.out (below_alloc w _) 87; have P0 := (BxC.new w #[.pointer (some ⟨G.bp, 0, none⟩)] 49).bl (below_alloc _ (.cells #[.int .i64 0, .string ⟨#[]⟩, .bool false, .slice none 0 0, .int .i64 0, .int .u64 0, .string ⟨#[]⟩, .slice none 0 0, .slice none 0 0, .slice none 0 0, .slice none 0 0, .slice none 0 0] 87)); rw [show (w.alloc (.cells #[.pointer (some ⟨G.bp, 0, none⟩)] 49)).heap.size = w.heap.size + 1 from by simp] at R0; obtain ⟨rb, hrb⟩ : ∃ rb, w.heap.size + 1 = rb := ⟨_, rfl⟩; rw [hrb] at R0 ⊢; generalize (w.alloc (.cells #[.pointer (some ⟨G.bp, 0, none⟩)] 49)).alloc (.cells #[.int .i64 0, .string ⟨#[]⟩, .bool false, .slice none 0 0, .int .i64 0, .int .u64 0, .string ⟨#[]⟩, .slice none 0 0, .slice none 0 0, .slice none 0 0, .slice none 0 0, .slice none 0 0] 87) = W0 at R0 P0 ⊢; have HR0 := hid R0; have HP0 := hid P0; have HRB := hid hrb; clear R0 P0 hrb; have p0 : W0.cell? ⟨w.heap.size, 0, none⟩ = some (.pointer (some ⟨G.bp, 0, none⟩)) := HP0.out.2.2 0 (show 0 < 1 by omega); have c1 := HR0.out.ps.c1; have fr := HR0.out.ps.fr; have hlen := HI.out; have hfew := hG.few
      go_upto_region 2 with fail
      have KN := ((Kn.refl G.B (Jp G) W0).step HR0.out.ps rfl (.int .i64 ((s.i : Int) + 1))).jp HR0.out.ps.mp; have R1 := HR0.out.step HI.out; have P1 := HP0.out.kn KN HNP.out; clear KN p0 c1 fr; generalize W0.setCell ⟨G.bp, 1, none⟩ (.int .i64 ((s.i : Int) + 1)) = W1 at R1 P1 ⊢; have HR1 := hid R1; have HP1 := hid P1; clear R1 P1; obtain ⟨t, ht⟩ : ∃ t, G.X.ts[s.i]? = some t := ⟨_, List.getElem?_eq_getElem HI.out⟩; obtain ⟨xx, xo, sg, am, nm, cm, ela, hxB, ⟨_, k1, _⟩, _⟩ := HR1.out.ps.tok hG ht; have f3 : W1.cell? ⟨xx, xo + s.i * 7 + 1, none⟩ = some (.string ⟨#[114, 97, 105, 115, 101]⟩) := by rw [k1, ← nextS_at ht, HT.out]
      have f1 := HR1.out.ps.c0; rw [ela] at f1; have f2 : W1.cell? ⟨G.bp, 1, none⟩ = some (.int .i64 ((s.i : Int) + 1)) := HR1.out.ps.c1; have f0 : W1.cell? ⟨w.heap.size, 0, none⟩ = some (.pointer (some ⟨G.bp, 0, none⟩)) := HP1.out.2.2 0 (show 0 < 1 by omega); have hw1 : IntKind.i64.wrap ((s.i : Int) + 1 - 1) = (s.i : Int) := by rw [Int.add_sub_cancel]; exact IntWalk.i64_in _ (by omega)
      have hw2 : IntKind.i64.wrap (s.i : Int) = (s.i : Int) := IntWalk.i64_in _ (by omega); have hlt : (s.i : Int) < (G.X.ts.length : Int) := by omega
      have hnn : (0 : Int) ≤ (s.i : Int) := by omega
      clear k1 ht ela hlen hfew
      go_upto_region 3 with fail
      refine region_T (S := fun wx => wx.cell? ⟨w.heap.size, 0, none⟩ = some (.pointer (some ⟨G.bp, 0, none⟩)) ∧ wx.cell? ⟨G.bp, 0, none⟩ = some (.slice (some ⟨xx, xo, none⟩) G.X.ts.length G.lc) ∧ wx.cell? ⟨G.bp, 1, none⟩ = some (.int .i64 ((s.i : Int) + 1)) ∧ wx.cell? ⟨xx, xo + s.i * 7 + 1, none⟩ = some (.string ⟨#[114, 97, 105, 115, 101]⟩)) (T := fun _j => false) (by kernel_rfl) ?_; have hS0 := And.intro (f0) (And.intro (f1) (And.intro (f2) (f3))); refine tq 0 hS0 ?_; refine tq 1 hS0 ?_; refine tq 2 hS0 ?_; refine tq 3 hS0 ?_; refine tq 4 hS0 ?_; refine tq 5 hS0 ?_; refine tq 6 hS0 ?_; refine tq 7 hS0 ?_; refine tq 8 hS0 ?_; refine tq 9 hS0 ?_; refine tq 10 hS0 ?_; refine tq 11 hS0 ?_; refine anyT_done (by kernel_rfl) ?_ _; clear f0 f1 f2 f3 hw1 hw2 hlt hnn; have R2 := HR1.out.drew; have P2 := HP1.out.bl (Below.refl _ _).drew; generalize W1.drew = W3 at R2 P2 ⊢; have HR3 := hid R2; have HP3 := hid P2; clear R2 P2; have z0 : W3.cell? ⟨rb, 0, none⟩ = some (.int .i64 0) := HR3.out.res.2.2 0 (show 0 < 12 by omega); have zf := HR3.out.res.2.1
      go_upto_region 7 with fail
      have R5 : RFr G M na nc fa fc #[.int .i64 15, .string ⟨#[]⟩, .bool false, .slice none 0 0, .int .i64 0, .int .u64 0, .string ⟨#[]⟩, .slice none 0 0, .slice none 0 0, .slice none 0 0, .slice none 0 0, .slice none 0 0] w rb s (W3.setCell ⟨rb, 0, none⟩ (.int .i64 15)) { s with i := s.i + 1 } := by simpa using HR3.out.set1 0 (by simp) (.int .i64 15)
      have P5 := HP3.out.keep (w' := W3.setCell ⟨rb, 0, none⟩ (.int .i64 15)) (Below.heap_setCell _ _ _ _ (show w.heap.size ≠ rb from fun e => by have := HRB.out; omega)) (by simp [World.setCell]); clear z0 zf; generalize W3.setCell ⟨rb, 0, none⟩ (.int .i64 15) = W5 at R5 P5 ⊢; have HR5 := hid R5; have HP5 := hid P5; have HBR : Hid (G.B ≤ rb) := hid (by have := HRB.out; have := HP.out.bB; omega); clear R5 P5
      go_wp2_with (go_at_call 136; refine (kid0 hG hexp M na nc fa fc _ _ _ HR5.out.ps w.heap.size rb HP5.out HR5.out.res (fun e => by have := HRB.out; omega) HNP.out HR5.out.nm HBR.out HX.out).mono ?_; rintro e w6 ⟨hk, rfl⟩; unfold thrown)
      go_simp; exact ⟨rfl, HR5.out.kn.trans hk (fun k hk0 hm => hm.elim id (fun e => by have := HRB.out; have := HR5.out.lt; omega)), rfl⟩
    · obtain rfl := pure_inv h2; have HX := hid h1; clear hx h1 h2; go_enter Tryz.func102, Tryz.ntmps102
      go_upto_region 1 with fail
      have R0 : RFr G M na nc fa fc #[.int .i64 0, .string ⟨#[]⟩, .bool false, .slice none 0 0, .int .i64 0, .int .u64 0, .string ⟨#[]⟩, .slice none 0 0, .slice none 0 0, .slice none 0 0, .slice none 0 0, .slice none 0 0] w (w.alloc (.cells #[.pointer (some ⟨G.bp, 0, none⟩)] 49)).heap.size s ((w.alloc (.cells #[.pointer (some ⟨G.bp, 0, none⟩)] 49)).alloc (.cells #[.int .i64 0, .string ⟨#[]⟩, .bool false, .slice none 0 0, .int .i64 0, .int .u64 0, .string ⟨#[]⟩, .slice none 0 0, .slice none 0 0, .slice none 0 0, .slice none 0 0, .slice none 0 0] 87)) s := RFr.start2 HP.out (below_alloc w _) 87; have P0 := (BxC.new w #[.pointer (some ⟨G.bp, 0, none⟩)] 49).bl (below_alloc _ (.cells #[.int .i64 0, .string ⟨#[]⟩, .bool false, .slice none 0 0, .int .i64 0, .int .u64 0, .string ⟨#[]⟩, .slice none 0 0, .slice none 0 0, .slice none 0 0, .slice none 0 0, .slice none 0 0] 87)); rw [show (w.alloc (.cells #[.pointer (some ⟨G.bp, 0, none⟩)] 49)).heap.size = w.heap.size + 1 from by simp] at R0; obtain ⟨rb, hrb⟩ : ∃ rb, w.heap.size + 1 = rb := ⟨_, rfl⟩; rw [hrb] at R0 ⊢; generalize (w.alloc (.cells #[.pointer (some ⟨G.bp, 0, none⟩)] 49)).alloc (.cells #[.int .i64 0, .string ⟨#[]⟩, .bool false, .slice none 0 0, .int .i64 0, .int .u64 0, .string ⟨#[]⟩, .slice none 0 0, .slice none 0 0, .slice none 0 0, .slice none 0 0, .slice none 0 0] 87) = W0 at R0 P0 ⊢; have HR0 := hid R0; have HP0 := hid P0; have HRB := hid hrb; clear R0 P0 hrb; have p0 : W0.cell? ⟨w.heap.size, 0, none⟩ = some (.pointer (some ⟨G.bp, 0, none⟩)) := HP0.out.2.2 0 (show 0 < 1 by omega); have c1 := HR0.out.ps.c1; have fr := HR0.out.ps.fr; have hlen := HI.out; have hfew := hG.few
      go_upto_region 2 with fail
      have KN := ((Kn.refl G.B (Jp G) W0).step HR0.out.ps rfl (.int .i64 ((s.i : Int) + 1))).jp HR0.out.ps.mp; have R1 := HR0.out.step HI.out; have P1 := HP0.out.kn KN HNP.out; clear KN p0 c1 fr; generalize W0.setCell ⟨G.bp, 1, none⟩ (.int .i64 ((s.i : Int) + 1)) = W1 at R1 P1 ⊢; have HR1 := hid R1; have HP1 := hid P1; clear R1 P1; obtain ⟨t, ht⟩ : ∃ t, G.X.ts[s.i]? = some t := ⟨_, List.getElem?_eq_getElem HI.out⟩; obtain ⟨xx, xo, sg, am, nm, cm, ela, hxB, ⟨_, k1, _⟩, _⟩ := HR1.out.ps.tok hG ht; have f3 : W1.cell? ⟨xx, xo + s.i * 7 + 1, none⟩ = some (.string ⟨#[114, 97, 105, 115, 101]⟩) := by rw [k1, ← nextS_at ht, HT.out]
      have f1 := HR1.out.ps.c0; rw [ela] at f1; have f2 : W1.cell? ⟨G.bp, 1, none⟩ = some (.int .i64 ((s.i : Int) + 1)) := HR1.out.ps.c1; have f0 : W1.cell? ⟨w.heap.size, 0, none⟩ = some (.pointer (some ⟨G.bp, 0, none⟩)) := HP1.out.2.2 0 (show 0 < 1 by omega); have hw1 : IntKind.i64.wrap ((s.i : Int) + 1 - 1) = (s.i : Int) := by rw [Int.add_sub_cancel]; exact IntWalk.i64_in _ (by omega)
      have hw2 : IntKind.i64.wrap (s.i : Int) = (s.i : Int) := IntWalk.i64_in _ (by omega); have hlt : (s.i : Int) < (G.X.ts.length : Int) := by omega
      have hnn : (0 : Int) ≤ (s.i : Int) := by omega
      clear k1 ht ela hlen hfew
      go_upto_region 3 with fail
      refine region_T (S := fun wx => wx.cell? ⟨w.heap.size, 0, none⟩ = some (.pointer (some ⟨G.bp, 0, none⟩)) ∧ wx.cell? ⟨G.bp, 0, none⟩ = some (.slice (some ⟨xx, xo, none⟩) G.X.ts.length G.lc) ∧ wx.cell? ⟨G.bp, 1, none⟩ = some (.int .i64 ((s.i : Int) + 1)) ∧ wx.cell? ⟨xx, xo + s.i * 7 + 1, none⟩ = some (.string ⟨#[114, 97, 105, 115, 101]⟩)) (T := fun _j => false) (by kernel_rfl) ?_; have hS0 := And.intro (f0) (And.intro (f1) (And.intro (f2) (f3))); refine tq 0 hS0 ?_; refine tq 1 hS0 ?_; refine tq 2 hS0 ?_; refine tq 3 hS0 ?_; refine tq 4 hS0 ?_; refine tq 5 hS0 ?_; refine tq 6 hS0 ?_; refine tq 7 hS0 ?_; refine tq 8 hS0 ?_; refine tq 9 hS0 ?_; refine tq 10 hS0 ?_; refine tq 11 hS0 ?_; refine anyT_done (by kernel_rfl) ?_ _; clear f0 f1 f2 f3 hw1 hw2 hlt hnn; have R2 := HR1.out.drew; have P2 := HP1.out.bl (Below.refl _ _).drew; generalize W1.drew = W3 at R2 P2 ⊢; have HR3 := hid R2; have HP3 := hid P2; clear R2 P2; have z0 : W3.cell? ⟨rb, 0, none⟩ = some (.int .i64 0) := HR3.out.res.2.2 0 (show 0 < 12 by omega); have zf := HR3.out.res.2.1
      go_upto_region 7 with fail
      have R5 : RFr G M na nc fa fc #[.int .i64 15, .string ⟨#[]⟩, .bool false, .slice none 0 0, .int .i64 0, .int .u64 0, .string ⟨#[]⟩, .slice none 0 0, .slice none 0 0, .slice none 0 0, .slice none 0 0, .slice none 0 0] w rb s (W3.setCell ⟨rb, 0, none⟩ (.int .i64 15)) { s with i := s.i + 1 } := by simpa using HR3.out.set1 0 (by simp) (.int .i64 15)
      have P5 := HP3.out.keep (w' := W3.setCell ⟨rb, 0, none⟩ (.int .i64 15)) (Below.heap_setCell _ _ _ _ (show w.heap.size ≠ rb from fun e => by have := HRB.out; omega)) (by simp [World.setCell]); clear z0 zf; generalize W3.setCell ⟨rb, 0, none⟩ (.int .i64 15) = W5 at R5 P5 ⊢; have HR5 := hid R5; have HP5 := hid P5; have HBR : Hid (G.B ≤ rb) := hid (by have := HRB.out; have := HP.out.bB; omega); clear R5 P5
      go_wp2_with (go_at_call 136; refine (kid0 hG hexp M na nc fa fc _ _ _ HR5.out.ps w.heap.size rb HP5.out HR5.out.res (fun e => by have := HRB.out; omega) HNP.out HR5.out.nm HBR.out HX.out).mono ?_; rintro e w6 ⟨hk, rfl, hsc, hi, hP6, A, c, he, hrt⟩; have HR6 : Hid (RFr G M na nc fa fc #[.int .i64 15, .string ⟨#[]⟩, .bool false, .slice none 0 0, .int .i64 0, .int .u64 0, .string ⟨#[]⟩, .slice none 0 0, .slice (some ⟨A, 0, none⟩) 1 c, .slice none 0 0, .slice none 0 0, .slice none 0 0] w rb s w6 s1) := hid ⟨HR5.out.kn.trans hk (fun k hk0 hm => hm.elim id (fun e => by have := HRB.out; omega)), hP6, hsc.trans HR5.out.sc, Nat.le_trans HR5.out.mono hi, he, HR5.out.lo, HR5.out.hB, HR5.out.mw⟩; have HRT := hid hrt; have HS6 := hid hk.size; have hz := HR6.out.res.2.2; have hzf := HR6.out.res.2.1; obtain ⟨z0, z1, z2, z3, z4, z5, z6, z7, z8, z9, z10, z11⟩ := bx12 hz; clear hz hk hsc hi hP6 he hrt)
      have HT := ret2Exp HR6.out (by rfl) (show RepR w6 _ _ [.int .i64 15, .string ⟨#[]⟩, .bool false, .slice none 0 0, .int .i64 0, .int .u64 0, .string ⟨#[]⟩, .slice none 0 0, .slice (some ⟨A, 0, none⟩) 1 c, .slice none 0 0, .slice none 0 0, .slice none 0 0] from mkExp_rep (w := w6) (F := Own G.B W5.heap.size w6.heap.size No) (kind := 15) (n := 0) (bits := 0) (name := []) (text := []) (ls := []) (kids := [nd]) (rules := []) (decs := []) (types := []) repZero repNil HRT.out repNil repNil repNil) (fun b hb => hb.imp id fun q => by have h1 := q.1; have h2 := q.2.1; have h3 := HR5.out.kn.size; have h4 := HR5.out.lt; exact ⟨by omega, h2, by omega⟩); have HF := hid HT.2; have HRS := hid HT.1; clear HT; refine fin12 HRS.out (by intros; simp [results, Tryz.results102, go_sem, *]) rfl HF.out
  · rw [if_neg ht, hhd] at hx; cases hx
end
theorem rep_name {w : World} {F : Nat → Prop} {nd : Nd} {x0 : Int} {x1 : ByteArray} {r : List Value} (h : RepR w F nd (.int .i64 x0 :: .string x1 :: r)) : ∃ t q, nd = t :: .v (.string x1) :: q := by
  cases nd with
  | nil => have := h.nl; cases this
  | cons t q =>
    cases t with
    | big z => obtain ⟨sg, a, n, c, ds, e, _⟩ := h.bg; cases e
    | sl es => obtain ⟨a, c, ds, e, _⟩ := h.ls; cases e
    | v x =>
      obtain ⟨ds, e, h2⟩ := h.v; cases e; cases q with
      | nil => have := h2.nl; cases this
      | cons t2 q2 =>
        cases t2 with
        | big z => obtain ⟨sg, a, n, c, ds, e, _⟩ := h2.bg; cases e
        | sl es => obtain ⟨a, c, ds, e, _⟩ := h2.ls; cases e
        | v y =>
          obtain ⟨ds, e, _⟩ := h2.v; cases e; exact ⟨_, _, rfl⟩
section
variable {G : Gh} {f : Fs} {n : Nat}
theorem patApp_any (hG : GOk G) (hat : FN G 108 #[.pointer (some ⟨G.bp, 0, none⟩)] IsPat (atpat G.X f n)) : FN G 99 #[.pointer (some ⟨G.bp, 0, none⟩)] IsPat (patApp G.X f n) := by
  intro M na nc fa fc w s r hP hx; have hB := hP.bB; have HP := hid hP; have hbp : ¬ M w.heap.size := fun q => by have := (hP.mB _ q).2; omega
  unfold patApp at hx; simp only [] at hx
  rcases bind_cases hx with ⟨c, q, h1, rfl⟩ | ⟨x, s1, h1, h2⟩
  · have H1 := hid h1; clear hx h1 hP; go_enter Tryz.func99, Tryz.ntmps99
    go_wp2_with (first
      | (go_at_call 63; refine (next_any hG (HP.out.alloc (.cells #[.int .i64 0, .string ⟨#[]⟩, .bool false, .slice none 0 0, .int .i64 0, .string ⟨#[]⟩, .slice none 0 0, .slice none 0 0, .slice none 0 0] 82))).mono ?_; rintro e w1 ⟨sg, am, nm, cm, rfl, hmg, hb⟩; have HB1 := hid ((below_alloc w (.cells #[.int .i64 0, .string ⟨#[]⟩, .bool false, .slice none 0 0, .int .i64 0, .string ⟨#[]⟩, .slice none 0 0, .slice none 0 0, .slice none 0 0] 82)).trans (hb.mono (by simp))); have HZ1 := hid ((BxC.new w #[.int .i64 0, .string ⟨#[]⟩, .bool false, .slice none 0 0, .int .i64 0, .string ⟨#[]⟩, .slice none 0 0, .slice none 0 0, .slice none 0 0] 82).bl hb); have HB2 := hid (HB1.out.trans ((below_alloc w1 (.cells #[.int .i64 ((nextS G.X s).kind : Nat), .string ⟨(nextS G.X s).text.toArray⟩, .bool sg, .slice am nm cm, .int .u64 ((nextS G.X s).bits : Nat), .int .i64 ((nextS G.X s).n : Nat), .int .i64 ((nextS G.X s).pos : Nat)] 75)).mono HB1.out.size)); clear hmg hb)
      | (go_at_call 108; refine (hat M na nc fa fc _ _ _ (HP.out.new HB2.out) H1.out).mono ?_; rintro e w2 ⟨hk, rfl⟩; unfold thrown))
    go_simp; exact ⟨rfl, (Kn.of HB2.out hB).go hk, rfl⟩
  · have H1 := hid h1; rw [get_bind] at h2; obtain ⟨av, hav⟩ : ∃ b, atomicS G.X s1 = b := ⟨_, rfl⟩; have HA := hid hav; have H2 := hid h2; clear hx h1 h2 hP hav; go_enter Tryz.func99, Tryz.ntmps99
    go_upto_region 3 with (first
      | (go_at_call 63; refine (next_any hG (HP.out.alloc (.cells #[.int .i64 0, .string ⟨#[]⟩, .bool false, .slice none 0 0, .int .i64 0, .string ⟨#[]⟩, .slice none 0 0, .slice none 0 0, .slice none 0 0] 82))).mono ?_; rintro e w1 ⟨sg, am, nm, cm, rfl, hmg, hb⟩; have HB1 := hid ((below_alloc w (.cells #[.int .i64 0, .string ⟨#[]⟩, .bool false, .slice none 0 0, .int .i64 0, .string ⟨#[]⟩, .slice none 0 0, .slice none 0 0, .slice none 0 0] 82)).trans (hb.mono (by simp))); have HZ1 := hid ((BxC.new w #[.int .i64 0, .string ⟨#[]⟩, .bool false, .slice none 0 0, .int .i64 0, .string ⟨#[]⟩, .slice none 0 0, .slice none 0 0, .slice none 0 0] 82).bl hb); have HB2 := hid (HB1.out.trans ((below_alloc w1 (.cells #[.int .i64 ((nextS G.X s).kind : Nat), .string ⟨(nextS G.X s).text.toArray⟩, .bool sg, .slice am nm cm, .int .u64 ((nextS G.X s).bits : Nat), .int .i64 ((nextS G.X s).n : Nat), .int .i64 ((nextS G.X s).pos : Nat)] 75)).mono HB1.out.size)); clear hmg hb)
      | (go_at_call 108; refine (hat M na nc fa fc _ _ _ (HP.out.new HB2.out) H1.out).mono ?_; rintro e w2 ⟨hk, hsc, hi, hP1, v, rfl, x0, x1, x2, Vg, Vi, Vh, x4, x5, Vm, Vo, Vn, Vp, Vr, Vq, Vs, Vu, Vt, rfl, hrep⟩; have HT2 := hid ((BxC.new w1 #[.int .i64 ((nextS G.X s).kind : Nat), .string ⟨(nextS G.X s).text.toArray⟩, .bool sg, .slice am nm cm, .int .u64 ((nextS G.X s).bits : Nat), .int .i64 ((nextS G.X s).n : Nat), .int .i64 ((nextS G.X s).pos : Nat)] 75).kn hk (fun q => by have := (HP.out.mB _ q).2; have := HB1.out.size; omega)); have HR0 := hid (LpPat.start2 HP.out ((HZ1.out.bl (below_alloc w1 _)).kn hk hbp) ((Kn.of HB2.out hB).go hk) hsc hi hP1 hrep (Nat.lt_of_lt_of_le HZ1.out.1 (below_alloc w1 _).size)); clear hk hsc hi hP1 hrep))
    have HT3 := hid (HT2.out.bl (below_alloc w2 (.cells #[.int .i64 x0, .string x1, .bool x2, .slice Vg Vi Vh, .int .i64 x4, .string x5, .slice Vm Vo Vn, .slice Vp Vr Vq, .slice Vs Vu Vt] 82))); obtain ⟨kb, hkb⟩ : ∃ kb, w2.heap.size = kb := ⟨_, rfl⟩; obtain ⟨tb, htb⟩ : ∃ tb, w1.heap.size = tb := ⟨_, rfl⟩; rw [hkb] at HR0 ⊢; rw [htb] at HT3 ⊢; generalize w2.alloc (.cells #[.int .i64 x0, .string x1, .bool x2, .slice Vg Vi Vh, .int .i64 x4, .string x5, .slice Vm Vo Vn, .slice Vp Vr Vq, .slice Vs Vu Vt] 82) = W3 at HR0 HT3 ⊢; clear hkb htb H1 HZ1 HB1 HB2 HT2; have HR := HR0; have HT := HT3; clear HR0 HT3
    go_cut [30] from 5 (fun bv wx => bv = .bool ((((nextS G.X s).kind == 1 || (nextS G.X s).kind == 2 || ((nextS G.X s).kind == 8 && (nextS G.X s).text == [111, 112])) && av)) ∧ Hid (LpPat G M na nc fa fc w kb s wx s1 x))
    case first =>
      clear H2; have t0 : W3.cell? ⟨tb, 0, none⟩ = some (.int .i64 ((nextS G.X s).kind : Nat)) := HT.out.2.2 0 (show 0 < 7 by omega)
      by_cases k1 : (nextS G.X s).kind = 1
      · have HC : Hid (((((nextS G.X s).kind == 1 || (nextS G.X s).kind == 2 || ((nextS G.X s).kind == 8 && (nextS G.X s).text == [111, 112])) && av)) = av) := hid (by rw [k1]; rfl); have e1 : (((nextS G.X s).kind : Nat) : Int) = 1 := by omega
        go_wp2_with (go_at_call 107; refine (atomic_any hG HR.out.ps).mono ?_; rintro e w3 ⟨rfl, hb⟩; rw [HA.out]; have HB3 := hid hb; clear hb)
        go_meet
        case rel => exact ⟨by rw [HC.out], hid (HR.out.below HB3.out)⟩
      · have e1 : ¬ (((nextS G.X s).kind : Nat) : Int) = 1 := by omega
        by_cases k2 : (nextS G.X s).kind = 2
        · have HC : Hid (((((nextS G.X s).kind == 1 || (nextS G.X s).kind == 2 || ((nextS G.X s).kind == 8 && (nextS G.X s).text == [111, 112])) && av)) = av) := hid (by rw [k2]; rfl); have e2 : (((nextS G.X s).kind : Nat) : Int) = 2 := by omega
          go_wp2_with (go_at_call 107; refine (atomic_any hG HR.out.ps).mono ?_; rintro e w3 ⟨rfl, hb⟩; rw [HA.out]; have HB3 := hid hb; clear hb)
          go_meet
          case rel => exact ⟨by rw [HC.out], hid (HR.out.below HB3.out)⟩
        · have e2 : ¬ (((nextS G.X s).kind : Nat) : Int) = 2 := by omega
          by_cases k8 : (nextS G.X s).kind = 8
          · have e8 : (((nextS G.X s).kind : Nat) : Int) = 8 := by omega
            by_cases kt : (nextS G.X s).text = [111, 112]
            · have HC : Hid (((((nextS G.X s).kind == 1 || (nextS G.X s).kind == 2 || ((nextS G.X s).kind == 8 && (nextS G.X s).text == [111, 112])) && av)) = av) := hid (by rw [k8, kt]; rfl); have t1 : W3.cell? ⟨tb, 1, none⟩ = some (.string ⟨#[111, 112]⟩) := (HT.out.2.2 1 (show 1 < 7 by omega)).trans (by rw [kt]; rfl)
              go_wp2_with (go_at_call 107; refine (atomic_any hG HR.out.ps).mono ?_; rintro e w3 ⟨rfl, hb⟩; rw [HA.out]; have HB3 := hid hb; clear hb)
              go_meet
              case rel => exact ⟨by rw [HC.out], hid (HR.out.below HB3.out)⟩
            · have HC : Hid (((((nextS G.X s).kind == 1 || (nextS G.X s).kind == 2 || ((nextS G.X s).kind == 8 && (nextS G.X s).text == [111, 112])) && av)) = false) := hid (by rw [k8]; simp [kt]); have t1 : W3.cell? ⟨tb, 1, none⟩ = some (.string ⟨(nextS G.X s).text.toArray⟩) := HT.out.2.2 1 (show 1 < 7 by omega); have hne : ¬ (nextS G.X s).text.toArray = #[111, 112] := fun e => kt (by have := congrArg Array.toList e; simpa using this)
              go_wp2_with fail
              go_meet
              case rel => exact ⟨by rw [HC.out], HR⟩
          · have e8 : ¬ (((nextS G.X s).kind : Nat) : Int) = 8 := by omega
            have HC : Hid (((((nextS G.X s).kind == 1 || (nextS G.X s).kind == 2 || ((nextS G.X s).kind == 8 && (nextS G.X s).text == [111, 112])) && av)) = false) := hid (by simp [k1, k2, k8])
            go_wp2_with fail
            go_meet
            case rel => exact ⟨by rw [HC.out], HR⟩
    case rest =>
    obtain ⟨rfl, HR3⟩ := hcut; clear HT HR; have h2 := H2.out; clear H2; cases hcb : ((((nextS G.X s).kind == 1 || (nextS G.X s).kind == 2 || ((nextS G.X s).kind == 8 && (nextS G.X s).text == [111, 112])) && av)) with
    | true =>
      rw [if_pos (by have hcb := hcb; rw [← HA.out] at hcb; simp only [Bool.and_eq_true, Bool.or_eq_true, beq_iff_eq] at hcb; exact ⟨by rcases hcb.1 with (q | q) | q; exact .inl q; exact .inr (.inl q); exact .inr (.inr q), hcb.2⟩)] at h2; clear hcb
      rcases bind_cases h2 with ⟨c, q, h3, rfl⟩ | ⟨ndy, s3, h3, h4⟩
      · have H3 := hid h3; clear h2 h3; obtain ⟨x0, x1, x2, Vg, Vi, Vh, x4, x5, Vm, Vo, Vn, Vp, Vr, Vq, Vs, Vu, Vt, hbx, hrx⟩ := HR3.out.bx; have f1 : wc.cell? ⟨kb, 1, none⟩ = some (.string x1) := hbx.2.2 1 (show 1 < 9 by omega); obtain ⟨t9, q9, hx9⟩ := rep_name hrx; have HR4 := hid (HR3.out.below (Below.refl _ _).drew); subst hx9; clear hbx hrx
        go_upto_region 4 with fail
        refine region_T (S := fun wx => wx.cell? ⟨kb, 1, none⟩ = some (.string x1)) (T := fun _j => _j == 6) (by kernel_rfl) ?_; have hS0 := f1; refine tq 0 hS0 ?_; refine tq 1 hS0 ?_; refine tq 2 hS0 ?_; refine on1 3 fun K hK => ?_; go_simp; refine (hat M na nc fa fc _ _ _ (HR4.out.ps) H3.out).mono ?_; rintro e w4 ⟨hk4, rfl⟩; unfold thrown; go_simp; exact ⟨rfl, HR4.out.kn.go hk4, rfl⟩
      · have H3 := hid h3; obtain rfl := pure_inv h4; clear h2 h3 h4; obtain ⟨x0, x1, x2, Vg, Vi, Vh, x4, x5, Vm, Vo, Vn, Vp, Vr, Vq, Vs, Vu, Vt, hbx, hrx⟩ := HR3.out.bx; have f1 : wc.cell? ⟨kb, 1, none⟩ = some (.string x1) := hbx.2.2 1 (show 1 < 9 by omega); obtain ⟨t9, q9, hx9⟩ := rep_name hrx; have HR4 := hid (HR3.out.below (Below.refl _ _).drew); subst hx9; clear hbx hrx
        go_upto_region 4 with fail
        refine region_T (S := fun wx => wx.cell? ⟨kb, 1, none⟩ = some (.string x1)) (T := fun _j => _j == 6) (by kernel_rfl) ?_; have hS0 := f1; refine tq 0 hS0 ?_; refine tq 1 hS0 ?_; refine tq 2 hS0 ?_; refine on1 3 fun K hK => ?_; go_simp; refine (hat M na nc fa fc _ _ _ (HR4.out.ps) H3.out).mono ?_; rintro e w4 ⟨hk4, hsc4, hi4, hP4, v4, rfl, y0, y1, y2, Ya, Yc, Yb, y4, y5, Yd, Yf, Ye, Yg, Yi, Yh, Yj, Yl, Yk, rfl, hr4⟩; have hS1 := (hk4.cell (p := ⟨kb, 1, none⟩) HR4.out.lt2 HR4.out.nkb).trans (hS0); have L4 := hid (HR4.out.go hk4 hP4 hsc4 hi4); have HSZ4 := hid hk4.size; have RY := hid hr4; clear hk4 hsc4 hi4 hP4 hr4; refine nx hK hS1 ?_; clear hK K; refine on1 4 fun K hK => ?_; go_simp; have ba := below_alloc w4 (.cells #[.int .i64 y0, .string y1, .bool y2, .slice Ya Yc Yb, .int .i64 y4, .string y5, .slice Yd Yf Ye, .slice Yg Yi Yh, .slice Yj Yl Yk] 82); have hS2 := (ba.cell (p := ⟨kb, 1, none⟩) L4.out.lt2).trans (hS1); have L5 := hid (L4.out.below ba)
        have HX : Hid (RepR (w4.alloc (.cells #[.int .i64 y0, .string y1, .bool y2, .slice Ya Yc Yb, .int .i64 y4, .string y5, .slice Yd Yf Ye, .slice Yg Yi Yh, .slice Yj Yl Yk] 82)) (Own G.B w.heap.size (w4.alloc (.cells #[.int .i64 y0, .string y1, .bool y2, .slice Ya Yc Yb, .int .i64 y4, .string y5, .slice Yd Yf Ye, .slice Yg Yi Yh, .slice Yj Yl Yk] 82)).heap.size (fun b => b = w.heap.size)) (mkPat 6 x1.data.toList 0 0 [] [] [ndy] []) [.int .i64 6, .string x1, .bool false, .slice none 0 0, .int .i64 0, .string ⟨#[]⟩, .slice none 0 0, .slice (some ⟨w4.heap.size, 0, none⟩) 1 1, .slice none 0 0]) := hid (by
          have l2 := L4.out.lt2; have lt := L4.out.lt; have h4 := HSZ4.out; have hW := HR4.out.lt2; have e5 : (w4.alloc (.cells #[.int .i64 y0, .string y1, .bool y2, .slice Ya Yc Yb, .int .i64 y4, .string y5, .slice Yd Yf Ye, .slice Yg Yi Yh, .slice Yj Yl Yk] 82)).heap.size = w4.heap.size + 1 := by simp
          have hwx : Own G.B w.heap.size (w4.alloc (.cells #[.int .i64 y0, .string y1, .bool y2, .slice Ya Yc Yb, .int .i64 y4, .string y5, .slice Yd Yf Ye, .slice Yg Yi Yh, .slice Yj Yl Yk] 82)).heap.size (fun b => b = w.heap.size) w4.heap.size := .inr ⟨by omega, by omega, by omega⟩; refine mkPat_rep (w := w4.alloc (.cells #[.int .i64 y0, .string y1, .bool y2, .slice Ya Yc Yb, .int .i64 y4, .string y5, .slice Yd Yf Ye, .slice Yg Yi Yh, .slice Yj Yl Yk] 82)) (kind := 6) (name := x1.data.toList) (n := 0) (text := []) (ls := []) (kids := [ndy]) (types := []) repZero repNil (repNew1 (cs := [.int .i64 y0, .string y1, .bool y2, .slice Ya Yc Yb, .int .i64 y4, .string y5, .slice Yd Yf Ye, .slice Yg Yi Yh, .slice Yj Yl Yk]) rfl hwx (RY.out.on (Kb.of ba fun b hb => ?_) (fun b hb => ?_))) repNil
          · rcases hb with q | q
            · have := L4.out.hB; omega
            · exact q.2.1
          · rcases hb with q | q
            · exact .inl q
            · have q1 := q.1; have q2 := q.2.1
              exact .inr ⟨by omega, by omega, by omega⟩)
        clear ba; refine nx hK hS2 ?_; clear hK K; refine tq 5 hS2 ?_; refine on1 6 fun K hK => ?_; have hz := L5.out.res.2.2; have hzf := L5.out.res.2.1; obtain ⟨z0, z1, z2, z3, z4, z5, z6, z7, z8⟩ := bx9 hz; clear hz; go_simp; have HT9 := hid (retPat HP.out L5.out.kn L5.out.ps L5.out.sc L5.out.mono L5.out.res HX.out (fun b hb => hb.imp id fun q => ⟨by have := q.1; have := q.2.2; omega, q.2.1⟩)); clear hzf z0 z1 z2 z3 z4 z5 z6 z7 z8; refine nxT hK ?_; clear hK K; refine anyT_done (by kernel_rfl) ?_ _; have HF := hid HT9.out.2; have HRS := hid HT9.out.1; clear HT9
        go_wp2_with fail
        refine fin9 HRS.out (by intros; simp [results, Tryz.results99, go_sem, *]) rfl HF.out
    | false =>
      rw [if_neg (by have hcb := hcb; rw [← HA.out] at hcb; rintro ⟨q, q2⟩; rw [q2, Bool.and_true] at hcb; rcases q with q | q | q <;> simp [q] at hcb)] at h2
      obtain rfl := pure_inv h2; clear h2 hcb; obtain ⟨x0, x1, x2, Vg, Vi, Vh, x4, x5, Vm, Vo, Vn, Vp, Vr, Vq, Vs, Vu, Vt, hbx, hres, hfin⟩ := HR3.out.fin; have hcell := hbx.2.2; obtain ⟨b0, b1, b2, b3, b4, b5, b6, b7, b8⟩ := bx9 hcell; have hz := HR3.out.res.2.2; have hzf := HR3.out.res.2.1; obtain ⟨z0, z1, z2, z3, z4, z5, z6, z7, z8⟩ := bx9 hz; clear hz; have HF := hid hfin; have HRS := hid hres; clear hfin hres hcell hbx
      go_wp2_with fail
      refine fin9 HRS.out (by intros; simp [results, Tryz.results99, go_sem, *]) rfl HF.out
end
end Go.Proofs.YtkblonfmjlopaaaGreatDoor
