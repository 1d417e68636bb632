/-
  climb over patterns, walked.
-/
import Derived.Test.YtkblonfmjlopaaaGreatDoorSyClP
import Derived.Test.YtkblonfmjlopaaaGreatDoorSyTwoP
set_option linter.all false
set_option maxRecDepth 1000000
set_option maxHeartbeats 16000000
namespace Go.Proofs.YtkblonfmjlopaaaGreatDoor
open Go Go.RowKit
section
variable {G : Gh} {f : Fs} {n : Nat}
theorem climb_Pat (hG : GOk G) (level : Int) (must : Bool) (one : PM Nd) (again : Int → Bool → PM Nd) (k1 : Nat) (fb1 cp1 : Array Value) (eg1 : ∀ args w, (callFunc k1 args).run Tryz.prog w = .ok (.enter k1 args) w) (ho : FN G k1 (fb1 ++ cp1) IsPat one) (hc : ∀ l b, FN G 98 #[.pointer (some ⟨G.bp, 0, none⟩), .int .i64 l, .bool b, .func (.func k1) fb1 cp1, .bool false, .func (.func 100) #[] #[]] IsPat (again l b)) :
    FN G 98 #[.pointer (some ⟨G.bp, 0, none⟩), .int .i64 level, .bool must, .func (.func k1) fb1 cp1, .bool false, .func (.func 100) #[] #[]] IsPat (one >>= fun a => climbL G.X level must false again twoP n a (10, false)) := by
  intro M na nc fa fc w s r hP hx; have hB := hP.bB; have HP := hid hP
  rcases bind_cases hx with ⟨c, q, h1, rfl⟩ | ⟨nd, s1, h1, h2⟩
  · have H1 := hid h1; clear hx h1 hP; go_enter Tryz.func98, Tryz.ntmps98
    go_wp2_with (go_at_fn k1; refine (ho M na nc fa fc _ _ _ (HP.out.alloc _) H1.out).mono ?_; rintro e w1 ⟨hk, rfl⟩; unfold thrown)
    go_simp; exact ⟨rfl, (Kn.of (below_alloc _ _) hB).go hk, rfl⟩
  · have H1 := hid h1; have H2 := hid h2; clear hx h1 h2 hP; go_enter Tryz.func98, Tryz.ntmps98
    go_wp2_with (go_at_fn k1; refine (ho M na nc fa fc _ _ _ (HP.out.alloc (.cells #[.int .i64 0, .string ⟨#[]⟩, .bool false, .slice none 0 0, .int .i64 0, .string ⟨#[]⟩, .slice none 0 0, .slice none 0 0, .slice none 0 0] 82)) H1.out).mono ?_; rintro e w1 ⟨hk, hsc, hi, hP1, v, rfl, x0, x1, x2, Vg, Vi, Vh, x4, x5, Vm, Vo, Vn, Vp, Vr, Vq, Vs, Vu, Vt, rfl, hrep⟩; have HR0 := hid (LcPat.start HP.out hk hsc hi hP1 hrep); clear hk hsc hi hP1 hrep)
    generalize (w1.alloc (.cells #[.int .i64 x0, .string x1, .bool x2, .slice Vg Vi Vh, .int .i64 x4, .string x5, .slice Vm Vo Vn, .slice Vp Vr Vq, .slice Vs Vu Vt] 82)).alloc (.cells #[.int .i64 10, .bool false] 66) = W2 at HR0 ⊢; obtain ⟨kb, hkb⟩ : ∃ kb, w1.heap.size = kb := ⟨_, rfl⟩; rw [hkb] at HR0 ⊢; clear hkb H1
    go_loopg [] n (fun gk wr => ∃ s1 nd lv rt, Hid (climbL G.X level must false again twoP gk nd (lv, rt) s1 = some r) ∧ Hid (LcPat G M na nc fa fc w kb s wr s1 nd lv rt))
    case atStart => exact ⟨s1, nd, 10, false, H2, HR0⟩
    case round =>
      clear H2 HR0; obtain ⟨s2, nd2, lv, rt, HL, HR⟩ := hrel; cases gk with
      | zero => exact absurd HL.out (by simp [climbL, PM.none])
      | succ m =>
      have hl := climbL_go HL.out; clear HL
      go_upto_region 4 with (go_at_call 63; refine (next_any hG HR.out.ps).mono ?_; rintro e w3 ⟨sg, am, nm, cm, rfl, _, hb3⟩; have R3 := hid (HR.out.below hb3); clear hb3)
      have T3 := hid (BxC.new w3 #[.int .i64 ((nextS G.X s2).kind : Nat), .string ⟨(nextS G.X s2).text.toArray⟩, .bool sg, .slice am nm cm, .int .u64 ((nextS G.X s2).bits : Nat), .int .i64 ((nextS G.X s2).n : Nat), .int .i64 ((nextS G.X s2).pos : Nat)] 75); have L3 := hid (R3.out.below (below_alloc w3 (.cells #[.int .i64 ((nextS G.X s2).kind : Nat), .string ⟨(nextS G.X s2).text.toArray⟩, .bool sg, .slice am nm cm, .int .u64 ((nextS G.X s2).bits : Nat), .int .i64 ((nextS G.X s2).n : Nat), .int .i64 ((nextS G.X s2).pos : Nat)] 75))); have TB : Hid (kb + 1 < w3.heap.size) := hid R3.out.lt2; obtain ⟨tb, htb⟩ : ∃ tb, w3.heap.size = tb := ⟨_, rfl⟩; generalize hW3 : w3.alloc (.cells #[.int .i64 ((nextS G.X s2).kind : Nat), .string ⟨(nextS G.X s2).text.toArray⟩, .bool sg, .slice am nm cm, .int .u64 ((nextS G.X s2).bits : Nat), .int .i64 ((nextS G.X s2).n : Nat), .int .i64 ((nextS G.X s2).pos : Nat)] 75) = W3 at T3 L3 ⊢; rw [htb] at T3 TB ⊢; clear htb hW3 R3; have t0 : W3.cell? ⟨tb, 0, none⟩ = some (.int .i64 ((nextS G.X s2).kind : Nat)) := T3.out.2.2 0 (show 0 < 7 by omega)
      go_cut [40] from 22 to 117 (fun bv wx => bv = .bool (!opB G.X false s2) ∧ Hid (LcPat G M na nc fa fc w kb s wx s2 nd2 lv rt) ∧ Hid (BxC wx tb #[.int .i64 ((nextS G.X s2).kind : Nat), .string ⟨(nextS G.X s2).text.toArray⟩, .bool sg, .slice am nm cm, .int .u64 ((nextS G.X s2).bits : Nat), .int .i64 ((nextS G.X s2).n : Nat), .int .i64 ((nextS G.X s2).pos : Nat)]))
      case first =>
        clear hl
        by_cases h1 : (nextS G.X s2).kind = 1
        · have e1 : (((nextS G.X s2).kind : Nat) : Int) = 1 := by omega
          have HO : Hid (opB G.X false s2 = true) := hid (by unfold opB; rw [h1]; rfl); clear h1
          go_wp2_with fail
          go_meet
          case rel => exact ⟨by rw [HO.out]; first | rfl | simp [e1, e2], hid (L3.out.below (Below.refl _ _)), hid (T3.out.bl (Below.refl _ _))⟩
        · have e1 : ¬ (((nextS G.X s2).kind : Nat) : Int) = 1 := by omega
          by_cases h2 : (nextS G.X s2).kind = 2
          · have e2 : (((nextS G.X s2).kind : Nat) : Int) = 2 := by omega
            have HO : Hid (opB G.X false s2 = true) := hid (by unfold opB; rw [h2]; rfl); clear h1 h2
            go_wp2_with fail
            go_meet
            case rel => exact ⟨by rw [HO.out]; first | rfl | simp [e1, e2], hid (L3.out.below (Below.refl _ _)), hid (T3.out.bl (Below.refl _ _))⟩
          · have e2 : ¬ (((nextS G.X s2).kind : Nat) : Int) = 2 := by omega
            have a1 : ((nextS G.X s2).kind == 1) = false := by simpa using h1
            have a2 : ((nextS G.X s2).kind == 2) = false := by simpa using h2
            have HO : Hid (opB G.X false s2 = false) := hid (by unfold opB; rw [a1, a2]; rfl); clear h1 h2 a1 a2
            go_wp2_with fail
            go_meet
            case rel => exact ⟨by rw [HO.out]; first | rfl | simp [e1, e2], hid (L3.out.below (Below.refl _ _)), hid (T3.out.bl (Below.refl _ _))⟩
      case rest =>
      rename World => W4
      obtain ⟨rfl, RA, TA⟩ := hcut; clear t0 T3 L3
      rcases hl with ⟨ho, rfl⟩ | ⟨ho, L0, R0, F0, hf, hl⟩
      · rw [ho]; clear ho; obtain ⟨x0, x1, x2, Vg, Vi, Vh, x4, x5, Vm, Vo, Vn, Vp, Vr, Vq, Vs, Vu, Vt, hbx, hres, hfin⟩ := RA.out.fin; have hcell := hbx.2.2; obtain ⟨b0, b1, b2, b3, b4, b5, b6, b7, b8⟩ := bx9 hcell; have hz := RA.out.res.2.2; have hzf := RA.out.res.2.1; obtain ⟨z0, z1, z2, z3, z4, z5, z6, z7, z8⟩ := bx9 hz; clear hz; have HF := hid hfin; have HRS := hid hres; clear hfin hres hcell hbx
        go_wp2_with fail
        refine fin9 HRS.out (by intros; simp [results, Tryz.results98, go_sem, *]) rfl HF.out
      · rw [ho]; have HI := hid (opB_in ho); clear ho
        have FP : ∀ wz, PS G M na nc fa fc wz s2 → Calls Tryz.prog 134 #[.pointer (some ⟨G.bp, 3, none⟩), .string ⟨(nextS G.X s2).text.toArray⟩] wz fun e w' => e = .returned (.tuple #[.agg #[.int .i64 L0, .bool R0], .bool F0]) ∧ Below wz.heap.size wz w' := fun wz hz => by
          have := find_ps hG hz (nextS G.X s2).text; rw [hf] at this; exact this
        clear hf
        go_upto_region 6 with fail
        go_cut [16, 17] from 22 to 117 (fun ov fv wx => ∃ ob, ov = .pointer (some ⟨ob, 0, none⟩) ∧ fv = .bool F0 ∧ Hid (LcPat G M na nc fa fc w kb s wx s2 nd2 lv rt) ∧ Hid (BxC wx tb #[.int .i64 ((nextS G.X s2).kind : Nat), .string ⟨(nextS G.X s2).text.toArray⟩, .bool sg, .slice am nm cm, .int .u64 ((nextS G.X s2).bits : Nat), .int .i64 ((nextS G.X s2).n : Nat), .int .i64 ((nextS G.X s2).pos : Nat)]) ∧ Hid (BxC wx ob #[.int .i64 L0, .bool R0]) ∧ Hid (kb + 1 < ob))
        case first =>
          clear hl; refine region_T (S := fun wx => wx.cell? ⟨tb, 1, none⟩ = some (.string ⟨(nextS G.X s2).text.toArray⟩)) (T := fun _j => false) (by kernel_rfl) ?_; have L0' := hid (RA.out.below (Below.refl _ _).drew); have T0 := hid (TA.out.bl (Below.refl _ _).drew); have t1 : W4.drew.cell? ⟨tb, 1, none⟩ = some (.string ⟨(nextS G.X s2).text.toArray⟩) := T0.out.2.2 1 (show 1 < 7 by omega); generalize W4.drew = v0 at L0' T0 t1 ⊢; have hS0 := t1; refine tq 0 hS0 ?_; refine tq 1 hS0 ?_; refine tq 2 hS0 ?_; refine tq 3 hS0 ?_; refine tq 4 hS0 ?_; refine anyT_two (i := 5) (j := 9) (by kernel_rfl) rfl rfl (fun K hK => ?_) (fun K hK => ?_)
          · go_simp; refine (FP _ (L0'.out.below (Below.refl _ _)).ps).mono ?_; rintro e v1 ⟨rfl, hb1⟩; have hS1 := ((hb1.cell (p := ⟨tb, 1, none⟩) T0.out.1)).trans hS0; have BB := hid hb1; clear hb1; refine nx hK hS1 ?_; clear hK K; refine tq 6 hS1 ?_; refine tq 7 hS1 ?_; refine tq 8 hS1 ?_; refine on1 9 fun K hK => ?_; go_simp; have hb1 := BB.out.trans ((below_alloc v1 (.cells #[.int .i64 0, .bool false] 66)).mono BB.out.size); have hS2 := ((hb1.cell (p := ⟨tb, 1, none⟩) T0.out.1)).trans hS0; have BA := hid hb1; clear hb1; refine nx hK hS2 ?_; clear hK K; refine on1 10 fun K hK => ?_; go_simp; have hb1 := BB.out.trans ((below_alloc v1 (.cells #[.int .i64 L0, .bool R0] 66)).mono BB.out.size); have hS3 := ((hb1.cell (p := ⟨tb, 1, none⟩) T0.out.1)).trans hS0; have BC := hid hb1; have OC := hid (BxC.new v1 #[.int .i64 L0, .bool R0] 66); clear hb1; refine nx hK hS3 ?_; clear hK K; refine tq 11 hS3 ?_; refine anyT_done (by kernel_rfl) ?_ _
            go_wp2_with fail
            go_meet
            case rel => exact ⟨v1.heap.size, rfl, rfl, hid (L0'.out.below BC.out), hid (T0.out.bl BC.out), OC, hid (by have := L0'.out.lt2; have := BB.out.size; omega)⟩
          · go_simp; have hb1 := below_alloc v0 (.cells #[.int .i64 0, .bool false] 66); have hS4 := ((hb1.cell (p := ⟨tb, 1, none⟩) T0.out.1)).trans hS0; have BA := hid hb1; have OB := hid (BxC.new v0 #[.int .i64 0, .bool false] 66); clear hb1; refine nx hK hS4 ?_; clear hK K; refine on1 5 fun K hK => ?_; go_simp; refine (FP _ (L0'.out.below BA.out).ps).mono ?_; rintro e v2 ⟨rfl, hb⟩; have OB1 := hid (OB.out.bl hb); have hb1 := BA.out.trans (hb.mono BA.out.size); have hS5 := ((hb1.cell (p := ⟨tb, 1, none⟩) T0.out.1)).trans hS0; have BB := hid hb1; have ob0 := OB1.out.2.2 0 (show 0 < 2 by omega); have ob1 := OB1.out.2.2 1 (show 1 < 2 by omega); have obf := OB1.out.2.1; clear hb1 hb; refine nx hK hS5 ?_; clear hK K; refine tq 6 hS5 ?_; refine tq 7 hS5 ?_; refine tq 8 hS5 ?_; refine on1 10 fun K hK => ?_; go_simp; have SS := OB1.out.store [.int .i64 L0, .bool R0] rfl; clear ob0 ob1 obf; have hb1 := BB.out.trans (SS.2.2.2.mono (Nat.le_refl _)); have hS6 : ((v2.setCell ⟨v0.heap.size, 0, none⟩ (.int .i64 L0)).setCell ⟨v0.heap.size, 1, none⟩ (.bool R0)).cell? ⟨tb, 1, none⟩ = some (.string ⟨(nextS G.X s2).text.toArray⟩) := ((hb1.cell (p := ⟨tb, 1, none⟩) T0.out.1)).trans hS0; have BC := hid hb1; have OC := hid SS.1; clear hb1 SS; refine nx hK hS6 ?_; clear hK K; refine tq 11 hS6 ?_; refine anyT_done (by kernel_rfl) ?_ _
            go_wp2_with fail
            go_meet
            case rel => exact ⟨v0.heap.size, rfl, rfl, hid (L0'.out.below BC.out), hid (T0.out.bl BC.out), OC, hid (by have := L0'.out.lt2; have := BC.out.size; omega)⟩
        case rest =>
        rename World => W5
        obtain ⟨ob, rfl, rfl, RB, TC, OB, OL⟩ := hcut; clear RA TA FP; have o0 : W5.cell? ⟨ob, 0, none⟩ = some (.int .i64 L0) := OB.out.2.2 0 (show 0 < 2 by omega)
        rcases hl with ⟨hstop, rfl⟩ | ⟨rfl, hL, h01, hq⟩
        · cases F0 with
          | false =>
            obtain ⟨x0, x1, x2, Vg, Vi, Vh, x4, x5, Vm, Vo, Vn, Vp, Vr, Vq, Vs, Vu, Vt, hbx, hres, hfin⟩ := RB.out.fin; have hcell := hbx.2.2; obtain ⟨b0, b1, b2, b3, b4, b5, b6, b7, b8⟩ := bx9 hcell; have hz := RB.out.res.2.2; have hzf := RB.out.res.2.1; obtain ⟨z0, z1, z2, z3, z4, z5, z6, z7, z8⟩ := bx9 hz; clear hz; have HF := hid hfin; have HRS := hid hres; clear hfin hres hcell hbx
            go_wp2_with fail
            refine fin9 HRS.out (by intros; simp [results, Tryz.results98, go_sem, *]) rfl HF.out
          | true =>
            have hlt : L0 < level := hstop.resolve_left (by simp); obtain ⟨x0, x1, x2, Vg, Vi, Vh, x4, x5, Vm, Vo, Vn, Vp, Vr, Vq, Vs, Vu, Vt, hbx, hres, hfin⟩ := RB.out.fin; have hcell := hbx.2.2; obtain ⟨b0, b1, b2, b3, b4, b5, b6, b7, b8⟩ := bx9 hcell; have hz := RB.out.res.2.2; have hzf := RB.out.res.2.1; obtain ⟨z0, z1, z2, z3, z4, z5, z6, z7, z8⟩ := bx9 hz; clear hz; have HF := hid hfin; have HRS := hid hres; clear hfin hres hcell hbx
            go_wp2_with fail
            refine fin9 HRS.out (by intros; simp [results, Tryz.results98, go_sem, *]) rfl HF.out
        · have o1 : W5.cell? ⟨ob, 1, none⟩ = some (.bool R0) := OB.out.2.2 1 (show 1 < 2 by omega); obtain ⟨l0, l1⟩ := bx2 RB.out.last.2.2
          go_upto_region 9 with fail
          go_cut [85] from 22 to 117 (fun bv wx => bv = .bool (cfl level must (lv, rt) L0 R0) ∧ W5 = wx)
          case first =>
            clear hq hc ho
            by_cases hA : L0 = lv
            · cases R0 with
              | false =>
                cases rt with
                | false =>
                  cases must with
                  | false =>
                    go_wp2_with fail
                    go_meet
                    case rel => exact ⟨by simp [cfl, hA] <;> omega, rfl⟩
                  | true =>
                    by_cases hC : L0 = level
                    · skip
                      go_wp2_with fail
                      go_meet
                      case rel => exact ⟨by simp [cfl, hA, hC] <;> omega, rfl⟩
                    · skip
                      go_wp2_with fail
                      go_meet
                      case rel => exact ⟨by simp [cfl, hA, hC] <;> omega, rfl⟩
                | true =>
                  go_wp2_with fail
                  go_meet
                  case rel => exact ⟨by simp [cfl, hA] <;> omega, rfl⟩
              | true =>
                cases rt with
                | false =>
                  go_wp2_with fail
                  go_meet
                  case rel => exact ⟨by simp [cfl, hA] <;> omega, rfl⟩
                | true =>
                  cases must with
                  | false =>
                    go_wp2_with fail
                    go_meet
                    case rel => exact ⟨by simp [cfl, hA] <;> omega, rfl⟩
                  | true =>
                    by_cases hC : L0 = level
                    · skip
                      go_wp2_with fail
                      go_meet
                      case rel => exact ⟨by simp [cfl, hA, hC] <;> omega, rfl⟩
                    · skip
                      go_wp2_with fail
                      go_meet
                      case rel => exact ⟨by simp [cfl, hA, hC] <;> omega, rfl⟩
            · skip
              cases must with
              | false =>
                go_wp2_with fail
                go_meet
                case rel => exact ⟨by simp [cfl, hA] <;> omega, rfl⟩
              | true =>
                by_cases hC : L0 = level
                · cases R0 with
                  | false =>
                    go_wp2_with fail
                    go_meet
                    case rel => exact ⟨by simp [cfl, hA, hC] <;> omega, rfl⟩
                  | true =>
                    go_wp2_with fail
                    go_meet
                    case rel => exact ⟨by simp [cfl, hA, hC] <;> omega, rfl⟩
                · skip
                  go_wp2_with fail
                  go_meet
                  case rel => exact ⟨by simp [cfl, hA, hC] <;> omega, rfl⟩
          case rest =>
          obtain ⟨rfl, rfl⟩ := hcut
          rcases hq with ⟨hcf, rfl⟩ | ⟨hcf, hr⟩
          · rw [hcf]; have t6 : W5.cell? ⟨tb, 6, none⟩ = some (.int .i64 ((nextS G.X s2).pos : Nat)) := TC.out.2.2 6 (show 6 < 7 by omega)
            go_wp2_with fail
            go_simp; exact ⟨rfl, RB.out.kn, rfl⟩
          · rw [hcf]; clear hcf; have c1 := RB.out.ps.c1; have fr := RB.out.ps.fr; have hlen := HI.out; have hfew := hG.few; have TM : Hid (¬ M tb) := hid (fun q => by have := RB.out.mw _ q; have := RB.out.lt; have := TB.out; omega); have OM : Hid (¬ M ob) := hid (fun q => by have := RB.out.mw _ q; have := RB.out.lt; have := OL.out; omega); have KN := hid (((Kn.refl G.B (Jp G) W5).step RB.out.ps rfl (.int .i64 ((s2.i : Int) + 1))).jp RB.out.ps.mp); have L4 := hid (RB.out.go KN.out (RB.out.ps.step1 HI.out) rfl (Nat.le_succ _)); have T4 := hid (TC.out.kn KN.out TM.out); have O4 := hid (OB.out.kn KN.out OM.out); have hne : ¬ ob = G.bp := fun e => OM.out (e ▸ RB.out.ps.mp); have hne' : ¬ G.bp = ob := fun e => hne e.symm; clear o0 o1 l0 l1; cases R0 with
            | false =>
              have hr : (again (L0 + 1) false >>= fun b => climbL G.X level must false again twoP m (twoP (nextS G.X s2).text nd2 b) (L0, false) : PM Nd) { s2 with i := s2.i + 1 } = some r := hr; obtain ⟨o0, o1⟩ := bx2 OB.out.2.2
              go_upto_region 15 with fail
              clear c1 fr o0 o1; generalize W5.setCell ⟨G.bp, 1, none⟩ (.int .i64 ((s2.i : Int) + 1)) = W4 at L4 T4 O4 ⊢; clear KN RB TC OB; obtain ⟨x0, x1, x2, Vg, Vi, Vh, x4, x5, Vm, Vo, Vn, Vp, Vr, Vq, Vs, Vu, Vt, hbx, hrx⟩ := L4.out.bx; have HRX := hid hrx; have hcell := hbx.2.2; obtain ⟨b0, b1, b2, b3, b4, b5, b6, b7, b8⟩ := bx9 hcell; have t1 : W4.cell? ⟨tb, 1, none⟩ = some (.string ⟨(nextS G.X s2).text.toArray⟩) := T4.out.2.2 1 (show 1 < 7 by omega); have o1 : W4.cell? ⟨ob, 1, none⟩ = some (.bool false) := O4.out.2.2 1 (show 1 < 2 by omega); clear hcell hbx hrx
              rcases bind_cases hr with ⟨c, q, h3, rfl⟩ | ⟨nd3, s3, h3, h4⟩
              · have H3 := hid h3; clear hr h3; refine region_T (S := fun wx => wx.cell? ⟨kb, 0, none⟩ = some (.int .i64 x0) ∧ wx.cell? ⟨kb, 1, none⟩ = some (.string x1) ∧ wx.cell? ⟨kb, 2, none⟩ = some (.bool x2) ∧ wx.cell? ⟨kb, 3, none⟩ = some (.slice Vg Vi Vh) ∧ wx.cell? ⟨kb, 4, none⟩ = some (.int .i64 x4) ∧ wx.cell? ⟨kb, 5, none⟩ = some (.string x5) ∧ wx.cell? ⟨kb, 6, none⟩ = some (.slice Vm Vo Vn) ∧ wx.cell? ⟨kb, 7, none⟩ = some (.slice Vp Vr Vq) ∧ wx.cell? ⟨kb, 8, none⟩ = some (.slice Vs Vu Vt) ∧ wx.cell? ⟨tb, 1, none⟩ = some (.string ⟨(nextS G.X s2).text.toArray⟩) ∧ wx.cell? ⟨ob, 1, none⟩ = some (.bool false)) (T := fun _j => _j == 13) (by kernel_rfl) ?_; have hS0 := And.intro (b0) (And.intro (b1) (And.intro (b2) (And.intro (b3) (And.intro (b4) (And.intro (b5) (And.intro (b6) (And.intro (b7) (And.intro (b8) (And.intro (t1) (o1)))))))))); refine tq 0 hS0 ?_; refine tq 1 hS0 ?_; refine tq 2 hS0 ?_; refine tq 3 hS0 ?_; refine tq 4 hS0 ?_; refine tq 5 hS0 ?_; refine tq 6 hS0 ?_; refine tq 7 hS0 ?_; refine tq 8 hS0 ?_; refine tq 9 hS0 ?_; refine tq 10 hS0 ?_; refine on1 11 fun K hK => ?_; go_simp; refine (hc _ _ M na nc fa fc _ _ _ (L4.out.ps.drew) H3.out).mono ?_; rintro e w4 ⟨hk4, rfl⟩; unfold thrown; go_simp; exact ⟨rfl, L4.out.kn.drew.go hk4, rfl⟩
              · have H3 := hid h3; have H4 := hid h4; clear hr h3 h4; refine region_T (S := fun wx => wx.cell? ⟨kb, 0, none⟩ = some (.int .i64 x0) ∧ wx.cell? ⟨kb, 1, none⟩ = some (.string x1) ∧ wx.cell? ⟨kb, 2, none⟩ = some (.bool x2) ∧ wx.cell? ⟨kb, 3, none⟩ = some (.slice Vg Vi Vh) ∧ wx.cell? ⟨kb, 4, none⟩ = some (.int .i64 x4) ∧ wx.cell? ⟨kb, 5, none⟩ = some (.string x5) ∧ wx.cell? ⟨kb, 6, none⟩ = some (.slice Vm Vo Vn) ∧ wx.cell? ⟨kb, 7, none⟩ = some (.slice Vp Vr Vq) ∧ wx.cell? ⟨kb, 8, none⟩ = some (.slice Vs Vu Vt) ∧ wx.cell? ⟨tb, 1, none⟩ = some (.string ⟨(nextS G.X s2).text.toArray⟩) ∧ wx.cell? ⟨ob, 1, none⟩ = some (.bool false)) (T := fun _j => _j == 13) (by kernel_rfl) ?_; have hS0 := And.intro (b0) (And.intro (b1) (And.intro (b2) (And.intro (b3) (And.intro (b4) (And.intro (b5) (And.intro (b6) (And.intro (b7) (And.intro (b8) (And.intro (t1) (o1)))))))))); refine tq 0 hS0 ?_; refine tq 1 hS0 ?_; refine tq 2 hS0 ?_; refine tq 3 hS0 ?_; refine tq 4 hS0 ?_; refine tq 5 hS0 ?_; refine tq 6 hS0 ?_; refine tq 7 hS0 ?_; refine tq 8 hS0 ?_; refine tq 9 hS0 ?_; refine tq 10 hS0 ?_; refine on1 11 fun K hK => ?_; go_simp; refine (hc _ _ M na nc fa fc _ _ _ (L4.out.ps.drew) H3.out).mono ?_; rintro e w4 ⟨hk4, hsc4, hi4, hP4, v4, rfl, y0, y1, y2, Ya, Yc, Yb, y4, y5, Yd, Yf, Ye, Yg, Yi, Yh, Yj, Yl, Yk, rfl, hr4⟩; have q4 : ∀ j, j < W4.heap.size → ¬ M j → w4.heap[j]? = W4.drew.heap[j]? := fun j h1 h2 => hk4.blk j h1 h2; have hS1 := And.intro ((World.cell?_of_block (w := W4.drew) (a := ⟨kb, 0, none⟩) (q4 _ (Nat.lt_of_succ_lt L4.out.lt2) L4.out.nkb)).trans (hS0).1) (And.intro ((World.cell?_of_block (w := W4.drew) (a := ⟨kb, 1, none⟩) (q4 _ (Nat.lt_of_succ_lt L4.out.lt2) L4.out.nkb)).trans (hS0).2.1) (And.intro ((World.cell?_of_block (w := W4.drew) (a := ⟨kb, 2, none⟩) (q4 _ (Nat.lt_of_succ_lt L4.out.lt2) L4.out.nkb)).trans (hS0).2.2.1) (And.intro ((World.cell?_of_block (w := W4.drew) (a := ⟨kb, 3, none⟩) (q4 _ (Nat.lt_of_succ_lt L4.out.lt2) L4.out.nkb)).trans (hS0).2.2.2.1) (And.intro ((World.cell?_of_block (w := W4.drew) (a := ⟨kb, 4, none⟩) (q4 _ (Nat.lt_of_succ_lt L4.out.lt2) L4.out.nkb)).trans (hS0).2.2.2.2.1) (And.intro ((World.cell?_of_block (w := W4.drew) (a := ⟨kb, 5, none⟩) (q4 _ (Nat.lt_of_succ_lt L4.out.lt2) L4.out.nkb)).trans (hS0).2.2.2.2.2.1) (And.intro ((World.cell?_of_block (w := W4.drew) (a := ⟨kb, 6, none⟩) (q4 _ (Nat.lt_of_succ_lt L4.out.lt2) L4.out.nkb)).trans (hS0).2.2.2.2.2.2.1) (And.intro ((World.cell?_of_block (w := W4.drew) (a := ⟨kb, 7, none⟩) (q4 _ (Nat.lt_of_succ_lt L4.out.lt2) L4.out.nkb)).trans (hS0).2.2.2.2.2.2.2.1) (And.intro ((World.cell?_of_block (w := W4.drew) (a := ⟨kb, 8, none⟩) (q4 _ (Nat.lt_of_succ_lt L4.out.lt2) L4.out.nkb)).trans (hS0).2.2.2.2.2.2.2.2.1) (And.intro ((World.cell?_of_block (w := W4.drew) (a := ⟨tb, 1, none⟩) (q4 _ T4.out.1 TM.out)).trans (hS0).2.2.2.2.2.2.2.2.2.1) ((World.cell?_of_block (w := W4.drew) (a := ⟨ob, 1, none⟩) (q4 _ O4.out.1 OM.out)).trans (hS0).2.2.2.2.2.2.2.2.2.2)))))))))); have L5 := hid ((L4.out.below (Below.refl _ _).drew).go hk4 hP4 hsc4 hi4); have T5 := hid (T4.out.keep (q4 _ T4.out.1 TM.out) hk4.size); have O5 := hid (O4.out.keep (q4 _ O4.out.1 OM.out) hk4.size); have HRX1 := hid (HRX.out.on (w' := w4) (LC.kb (w := w) (w3 := W4.drew) hk4 L4.out.mw) (fun b hb => LC.up hb hk4.size)); have RL := hid (hr4.on (F' := LC G.B w.heap.size w4.heap.size kb) (Kb.refl _ _) (fun b hb => LC.own hb (by have := L4.out.kn.size; have := L4.out.lt; have := L4.out.lt2; show w.heap.size < W4.heap.size; omega) L4.out.lt2 (Nat.le_refl _))); clear q4 hk4 hP4 hsc4 hi4 hr4; refine nx hK hS1 ?_; clear hK K; refine on1 12 fun K hK => ?_; go_simp; refine (two_Pat hG (nextS G.X s2).text nd2 nd3 w4 (LC G.B w.heap.size w4.heap.size kb) L5.out.ps.low HRX1.out RL.out (fun b hb => hb.elim (fun q => Nat.lt_of_lt_of_le q L5.out.ps.bB) (fun q => q.2.1)) (fun b hb => .inl hb)).mono ?_; rintro e w5 ⟨v5, rfl, hb5, z0, z1, z2, Qa, Qc, Qb, z4, z5, Qd, Qf, Qe, Qg, Qi, Qh, Qj, Ql, Qk, rfl, hr5⟩; have hS2 := hS1; simp only [← (fun o : Nat => hb5.cell (p := ⟨kb, o, none⟩) (Nat.lt_of_succ_lt L5.out.lt2)), ← (fun o : Nat => hb5.cell (p := ⟨tb, o, none⟩) T5.out.1), ← (fun o : Nat => hb5.cell (p := ⟨ob, o, none⟩) O5.out.1)] at hS2; have L6 := hid (L5.out.below hb5); have T6 := hid (T5.out.bl hb5); have O6 := hid (O5.out.bl hb5); have HX : Hid (RepR w5 (LC G.B w.heap.size w5.heap.size kb) (twoP (nextS G.X s2).text nd2 nd3) [.int .i64 z0, .string z1, .bool z2, .slice Qa Qc Qb, .int .i64 z4, .string z5, .slice Qd Qf Qe, .slice Qg Qi Qh, .slice Qj Ql Qk]) := hid (hr5.on (Kb.refl _ _) (fun b hb => hb.elim (fun q => LC.up q hb5.size) (fun q => .inr ⟨by have := L5.out.kn.size; omega, q.2, by have := L5.out.lt2; omega, by have := L5.out.lt2; omega, by have := L5.out.lt2; have := L5.out.lt; omega⟩))); clear hb5 hr5; refine nx hK hS2 ?_; clear hK K; refine on1 13 fun K hK => ?_; obtain ⟨zc0, zc1, zc2, zc3, zc4, zc5, zc6, zc7, zc8, _, _⟩ := hS2; have zf : ∀ o, w5.frozen? ⟨kb, o, none⟩ = false := by obtain ⟨q0, q1, q2, Ua, Uc, Ub, q4, q5, Ud, Uf, Ue, Ug, Ui, Uh, Uj, Ul, Uk, q, _⟩ := L6.out.bx; exact q.2.1
                go_simp; have L7 := hid (L6.out.store HX.out); obtain ⟨q0, q1, q2, Ua, Uc, Ub, q4, q5, Ud, Uf, Ue, Ug, Ui, Uh, Uj, Ul, Uk, qb, _⟩ := L6.out.bx; have SS := qb.store [.int .i64 z0, .string z1, .bool z2, .slice Qa Qc Qb, .int .i64 z4, .string z5, .slice Qd Qf Qe, .slice Qg Qi Qh, .slice Qj Ql Qk] rfl; have O7 := hid (O6.out.keep (SS.2.1 ob (by have := OL.out; omega)) (by rw [SS.2.2.1]; exact Nat.le_refl _)); clear qb SS; clear zf zc0 zc1 zc2 zc3 zc4 zc5 zc6 zc7 zc8; refine nxT hK ?_; clear hK K; refine anyT_done (by kernel_rfl) ?_ _; generalize hw6 : (((((((((w5.setCell ⟨kb, 0, none⟩ (.int .i64 z0)).setCell ⟨kb, 1, none⟩ (.string z1)).setCell ⟨kb, 2, none⟩ (.bool z2)).setCell ⟨kb, 3, none⟩ (.slice Qa Qc Qb)).setCell ⟨kb, 4, none⟩ (.int .i64 z4)).setCell ⟨kb, 5, none⟩ (.string z5)).setCell ⟨kb, 6, none⟩ (.slice Qd Qf Qe)).setCell ⟨kb, 7, none⟩ (.slice Qg Qi Qh)).setCell ⟨kb, 8, none⟩ (.slice Qj Ql Qk)) = w6; have L8 : Hid (LcPat G M na nc fa fc w kb s w6 s3 (twoP (nextS G.X s2).text nd2 nd3) lv rt) := hid (by have e : w5.setCells kb 0 [.int .i64 z0, .string z1, .bool z2, .slice Qa Qc Qb, .int .i64 z4, .string z5, .slice Qd Qf Qe, .slice Qg Qi Qh, .slice Qj Ql Qk] = w6 := hw6; rw [← e]; exact L7.out); have O8 : Hid (BxC w6 ob #[.int .i64 L0, .bool false]) := hid (by have e : w5.setCells kb 0 [.int .i64 z0, .string z1, .bool z2, .slice Qa Qc Qb, .int .i64 z4, .string z5, .slice Qd Qf Qe, .slice Qg Qi Qh, .slice Qj Ql Qk] = w6 := hw6; rw [← e]; exact O7.out); clear hw6 L7 O7; obtain ⟨o0, o1⟩ := bx2 O8.out.2.2; have kf := L8.out.last.2.1; obtain ⟨l0, l1⟩ := bx2 L8.out.last.2.2
                go_wp2_with fail
                go_roundg m
                case measure => omega
                case rel => exact ⟨s3, twoP (nextS G.X s2).text nd2 nd3, L0, false, H4, hid L8.out.setLast⟩
            | true =>
              have hr : (again L0 true >>= fun b => climbL G.X level must false again twoP m (twoP (nextS G.X s2).text nd2 b) (L0, true) : PM Nd) { s2 with i := s2.i + 1 } = some r := hr; obtain ⟨o0, o1⟩ := bx2 OB.out.2.2
              go_upto_region 15 with fail
              clear c1 fr o0 o1; generalize W5.setCell ⟨G.bp, 1, none⟩ (.int .i64 ((s2.i : Int) + 1)) = W4 at L4 T4 O4 ⊢; clear KN RB TC OB; obtain ⟨x0, x1, x2, Vg, Vi, Vh, x4, x5, Vm, Vo, Vn, Vp, Vr, Vq, Vs, Vu, Vt, hbx, hrx⟩ := L4.out.bx; have HRX := hid hrx; have hcell := hbx.2.2; obtain ⟨b0, b1, b2, b3, b4, b5, b6, b7, b8⟩ := bx9 hcell; have t1 : W4.cell? ⟨tb, 1, none⟩ = some (.string ⟨(nextS G.X s2).text.toArray⟩) := T4.out.2.2 1 (show 1 < 7 by omega); have o1 : W4.cell? ⟨ob, 1, none⟩ = some (.bool true) := O4.out.2.2 1 (show 1 < 2 by omega); clear hcell hbx hrx
              rcases bind_cases hr with ⟨c, q, h3, rfl⟩ | ⟨nd3, s3, h3, h4⟩
              · have H3 := hid h3; clear hr h3; refine region_T (S := fun wx => wx.cell? ⟨kb, 0, none⟩ = some (.int .i64 x0) ∧ wx.cell? ⟨kb, 1, none⟩ = some (.string x1) ∧ wx.cell? ⟨kb, 2, none⟩ = some (.bool x2) ∧ wx.cell? ⟨kb, 3, none⟩ = some (.slice Vg Vi Vh) ∧ wx.cell? ⟨kb, 4, none⟩ = some (.int .i64 x4) ∧ wx.cell? ⟨kb, 5, none⟩ = some (.string x5) ∧ wx.cell? ⟨kb, 6, none⟩ = some (.slice Vm Vo Vn) ∧ wx.cell? ⟨kb, 7, none⟩ = some (.slice Vp Vr Vq) ∧ wx.cell? ⟨kb, 8, none⟩ = some (.slice Vs Vu Vt) ∧ wx.cell? ⟨tb, 1, none⟩ = some (.string ⟨(nextS G.X s2).text.toArray⟩) ∧ wx.cell? ⟨ob, 1, none⟩ = some (.bool true)) (T := fun _j => _j == 13) (by kernel_rfl) ?_; have hS0 := And.intro (b0) (And.intro (b1) (And.intro (b2) (And.intro (b3) (And.intro (b4) (And.intro (b5) (And.intro (b6) (And.intro (b7) (And.intro (b8) (And.intro (t1) (o1)))))))))); refine tq 0 hS0 ?_; refine tq 1 hS0 ?_; refine tq 2 hS0 ?_; refine tq 3 hS0 ?_; refine tq 4 hS0 ?_; refine tq 5 hS0 ?_; refine tq 6 hS0 ?_; refine tq 7 hS0 ?_; refine tq 8 hS0 ?_; refine tq 9 hS0 ?_; refine tq 10 hS0 ?_; refine on1 11 fun K hK => ?_; go_simp; refine (hc _ _ M na nc fa fc _ _ _ (L4.out.ps.drew) H3.out).mono ?_; rintro e w4 ⟨hk4, rfl⟩; unfold thrown; go_simp; exact ⟨rfl, L4.out.kn.drew.go hk4, rfl⟩
              · have H3 := hid h3; have H4 := hid h4; clear hr h3 h4; refine region_T (S := fun wx => wx.cell? ⟨kb, 0, none⟩ = some (.int .i64 x0) ∧ wx.cell? ⟨kb, 1, none⟩ = some (.string x1) ∧ wx.cell? ⟨kb, 2, none⟩ = some (.bool x2) ∧ wx.cell? ⟨kb, 3, none⟩ = some (.slice Vg Vi Vh) ∧ wx.cell? ⟨kb, 4, none⟩ = some (.int .i64 x4) ∧ wx.cell? ⟨kb, 5, none⟩ = some (.string x5) ∧ wx.cell? ⟨kb, 6, none⟩ = some (.slice Vm Vo Vn) ∧ wx.cell? ⟨kb, 7, none⟩ = some (.slice Vp Vr Vq) ∧ wx.cell? ⟨kb, 8, none⟩ = some (.slice Vs Vu Vt) ∧ wx.cell? ⟨tb, 1, none⟩ = some (.string ⟨(nextS G.X s2).text.toArray⟩) ∧ wx.cell? ⟨ob, 1, none⟩ = some (.bool true)) (T := fun _j => _j == 13) (by kernel_rfl) ?_; have hS0 := And.intro (b0) (And.intro (b1) (And.intro (b2) (And.intro (b3) (And.intro (b4) (And.intro (b5) (And.intro (b6) (And.intro (b7) (And.intro (b8) (And.intro (t1) (o1)))))))))); refine tq 0 hS0 ?_; refine tq 1 hS0 ?_; refine tq 2 hS0 ?_; refine tq 3 hS0 ?_; refine tq 4 hS0 ?_; refine tq 5 hS0 ?_; refine tq 6 hS0 ?_; refine tq 7 hS0 ?_; refine tq 8 hS0 ?_; refine tq 9 hS0 ?_; refine tq 10 hS0 ?_; refine on1 11 fun K hK => ?_; go_simp; refine (hc _ _ M na nc fa fc _ _ _ (L4.out.ps.drew) H3.out).mono ?_; rintro e w4 ⟨hk4, hsc4, hi4, hP4, v4, rfl, y0, y1, y2, Ya, Yc, Yb, y4, y5, Yd, Yf, Ye, Yg, Yi, Yh, Yj, Yl, Yk, rfl, hr4⟩; have q4 : ∀ j, j < W4.heap.size → ¬ M j → w4.heap[j]? = W4.drew.heap[j]? := fun j h1 h2 => hk4.blk j h1 h2; have hS1 := And.intro ((World.cell?_of_block (w := W4.drew) (a := ⟨kb, 0, none⟩) (q4 _ (Nat.lt_of_succ_lt L4.out.lt2) L4.out.nkb)).trans (hS0).1) (And.intro ((World.cell?_of_block (w := W4.drew) (a := ⟨kb, 1, none⟩) (q4 _ (Nat.lt_of_succ_lt L4.out.lt2) L4.out.nkb)).trans (hS0).2.1) (And.intro ((World.cell?_of_block (w := W4.drew) (a := ⟨kb, 2, none⟩) (q4 _ (Nat.lt_of_succ_lt L4.out.lt2) L4.out.nkb)).trans (hS0).2.2.1) (And.intro ((World.cell?_of_block (w := W4.drew) (a := ⟨kb, 3, none⟩) (q4 _ (Nat.lt_of_succ_lt L4.out.lt2) L4.out.nkb)).trans (hS0).2.2.2.1) (And.intro ((World.cell?_of_block (w := W4.drew) (a := ⟨kb, 4, none⟩) (q4 _ (Nat.lt_of_succ_lt L4.out.lt2) L4.out.nkb)).trans (hS0).2.2.2.2.1) (And.intro ((World.cell?_of_block (w := W4.drew) (a := ⟨kb, 5, none⟩) (q4 _ (Nat.lt_of_succ_lt L4.out.lt2) L4.out.nkb)).trans (hS0).2.2.2.2.2.1) (And.intro ((World.cell?_of_block (w := W4.drew) (a := ⟨kb, 6, none⟩) (q4 _ (Nat.lt_of_succ_lt L4.out.lt2) L4.out.nkb)).trans (hS0).2.2.2.2.2.2.1) (And.intro ((World.cell?_of_block (w := W4.drew) (a := ⟨kb, 7, none⟩) (q4 _ (Nat.lt_of_succ_lt L4.out.lt2) L4.out.nkb)).trans (hS0).2.2.2.2.2.2.2.1) (And.intro ((World.cell?_of_block (w := W4.drew) (a := ⟨kb, 8, none⟩) (q4 _ (Nat.lt_of_succ_lt L4.out.lt2) L4.out.nkb)).trans (hS0).2.2.2.2.2.2.2.2.1) (And.intro ((World.cell?_of_block (w := W4.drew) (a := ⟨tb, 1, none⟩) (q4 _ T4.out.1 TM.out)).trans (hS0).2.2.2.2.2.2.2.2.2.1) ((World.cell?_of_block (w := W4.drew) (a := ⟨ob, 1, none⟩) (q4 _ O4.out.1 OM.out)).trans (hS0).2.2.2.2.2.2.2.2.2.2)))))))))); have L5 := hid ((L4.out.below (Below.refl _ _).drew).go hk4 hP4 hsc4 hi4); have T5 := hid (T4.out.keep (q4 _ T4.out.1 TM.out) hk4.size); have O5 := hid (O4.out.keep (q4 _ O4.out.1 OM.out) hk4.size); have HRX1 := hid (HRX.out.on (w' := w4) (LC.kb (w := w) (w3 := W4.drew) hk4 L4.out.mw) (fun b hb => LC.up hb hk4.size)); have RL := hid (hr4.on (F' := LC G.B w.heap.size w4.heap.size kb) (Kb.refl _ _) (fun b hb => LC.own hb (by have := L4.out.kn.size; have := L4.out.lt; have := L4.out.lt2; show w.heap.size < W4.heap.size; omega) L4.out.lt2 (Nat.le_refl _))); clear q4 hk4 hP4 hsc4 hi4 hr4; refine nx hK hS1 ?_; clear hK K; refine on1 12 fun K hK => ?_; go_simp; refine (two_Pat hG (nextS G.X s2).text nd2 nd3 w4 (LC G.B w.heap.size w4.heap.size kb) L5.out.ps.low HRX1.out RL.out (fun b hb => hb.elim (fun q => Nat.lt_of_lt_of_le q L5.out.ps.bB) (fun q => q.2.1)) (fun b hb => .inl hb)).mono ?_; rintro e w5 ⟨v5, rfl, hb5, z0, z1, z2, Qa, Qc, Qb, z4, z5, Qd, Qf, Qe, Qg, Qi, Qh, Qj, Ql, Qk, rfl, hr5⟩; have hS2 := hS1; simp only [← (fun o : Nat => hb5.cell (p := ⟨kb, o, none⟩) (Nat.lt_of_succ_lt L5.out.lt2)), ← (fun o : Nat => hb5.cell (p := ⟨tb, o, none⟩) T5.out.1), ← (fun o : Nat => hb5.cell (p := ⟨ob, o, none⟩) O5.out.1)] at hS2; have L6 := hid (L5.out.below hb5); have T6 := hid (T5.out.bl hb5); have O6 := hid (O5.out.bl hb5); have HX : Hid (RepR w5 (LC G.B w.heap.size w5.heap.size kb) (twoP (nextS G.X s2).text nd2 nd3) [.int .i64 z0, .string z1, .bool z2, .slice Qa Qc Qb, .int .i64 z4, .string z5, .slice Qd Qf Qe, .slice Qg Qi Qh, .slice Qj Ql Qk]) := hid (hr5.on (Kb.refl _ _) (fun b hb => hb.elim (fun q => LC.up q hb5.size) (fun q => .inr ⟨by have := L5.out.kn.size; omega, q.2, by have := L5.out.lt2; omega, by have := L5.out.lt2; omega, by have := L5.out.lt2; have := L5.out.lt; omega⟩))); clear hb5 hr5; refine nx hK hS2 ?_; clear hK K; refine on1 13 fun K hK => ?_; obtain ⟨zc0, zc1, zc2, zc3, zc4, zc5, zc6, zc7, zc8, _, _⟩ := hS2; have zf : ∀ o, w5.frozen? ⟨kb, o, none⟩ = false := by obtain ⟨q0, q1, q2, Ua, Uc, Ub, q4, q5, Ud, Uf, Ue, Ug, Ui, Uh, Uj, Ul, Uk, q, _⟩ := L6.out.bx; exact q.2.1
                go_simp; have L7 := hid (L6.out.store HX.out); obtain ⟨q0, q1, q2, Ua, Uc, Ub, q4, q5, Ud, Uf, Ue, Ug, Ui, Uh, Uj, Ul, Uk, qb, _⟩ := L6.out.bx; have SS := qb.store [.int .i64 z0, .string z1, .bool z2, .slice Qa Qc Qb, .int .i64 z4, .string z5, .slice Qd Qf Qe, .slice Qg Qi Qh, .slice Qj Ql Qk] rfl; have O7 := hid (O6.out.keep (SS.2.1 ob (by have := OL.out; omega)) (by rw [SS.2.2.1]; exact Nat.le_refl _)); clear qb SS; clear zf zc0 zc1 zc2 zc3 zc4 zc5 zc6 zc7 zc8; refine nxT hK ?_; clear hK K; refine anyT_done (by kernel_rfl) ?_ _; generalize hw6 : (((((((((w5.setCell ⟨kb, 0, none⟩ (.int .i64 z0)).setCell ⟨kb, 1, none⟩ (.string z1)).setCell ⟨kb, 2, none⟩ (.bool z2)).setCell ⟨kb, 3, none⟩ (.slice Qa Qc Qb)).setCell ⟨kb, 4, none⟩ (.int .i64 z4)).setCell ⟨kb, 5, none⟩ (.string z5)).setCell ⟨kb, 6, none⟩ (.slice Qd Qf Qe)).setCell ⟨kb, 7, none⟩ (.slice Qg Qi Qh)).setCell ⟨kb, 8, none⟩ (.slice Qj Ql Qk)) = w6; have L8 : Hid (LcPat G M na nc fa fc w kb s w6 s3 (twoP (nextS G.X s2).text nd2 nd3) lv rt) := hid (by have e : w5.setCells kb 0 [.int .i64 z0, .string z1, .bool z2, .slice Qa Qc Qb, .int .i64 z4, .string z5, .slice Qd Qf Qe, .slice Qg Qi Qh, .slice Qj Ql Qk] = w6 := hw6; rw [← e]; exact L7.out); have O8 : Hid (BxC w6 ob #[.int .i64 L0, .bool true]) := hid (by have e : w5.setCells kb 0 [.int .i64 z0, .string z1, .bool z2, .slice Qa Qc Qb, .int .i64 z4, .string z5, .slice Qd Qf Qe, .slice Qg Qi Qh, .slice Qj Ql Qk] = w6 := hw6; rw [← e]; exact O7.out); clear hw6 L7 O7; obtain ⟨o0, o1⟩ := bx2 O8.out.2.2; have kf := L8.out.last.2.1; obtain ⟨l0, l1⟩ := bx2 L8.out.last.2.2
                go_wp2_with fail
                go_roundg m
                case measure => omega
                case rel => exact ⟨s3, twoP (nextS G.X s2).text nd2 nd3, L0, true, H4, hid L8.out.setLast⟩
end
end Go.Proofs.YtkblonfmjlopaaaGreatDoor
