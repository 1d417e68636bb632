/-
  app, walked.
-/
import Derived.Test.YtkblonfmjlopaaaGreatDoorSyRet
import Derived.Test.YtkblonfmjlopaaaGreatDoorSyDp
import Derived.Test.YtkblonfmjlopaaaGreatDoorSyOpd
import Derived.Test.YtkblonfmjlopaaaGreatDoorSxT
set_option linter.all false
set_option maxRecDepth 1000000
set_option maxHeartbeats 16000000
namespace Go.Proofs.YtkblonfmjlopaaaGreatDoor
open Go Go.RowKit
theorem appL_yes {X : Tx} {f : Fs} {m : Nat} {a : Nd} {s : PSt} (h : startsS X s = true) : appL X f (m + 1) a s = (atom X f >>= fun b => appL X f m (eKids 8 [a, b])) s := by
  conv => lhs; unfold appL
  simp only [if_pos h]
theorem appL_no {X : Tx} {f : Fs} {m : Nat} {a : Nd} {s : PSt} (h : ¬ startsS X s = true) : appL X f (m + 1) a s = some (.ok (a, s)) := by
  conv => lhs; unfold appL
  simp only [if_neg h]
section
variable {G : Gh} {f : Fs} {n : Nat}
theorem app_any (hG : GOk G) (hat : FN G 218 #[.pointer (some ⟨G.bp, 0, none⟩)] IsExp (atom G.X f)) : FN G 193 #[.pointer (some ⟨G.bp, 0, none⟩)] IsExp (app G.X f n) := by
  intro M na nc fa fc w s r hP hx; have hB := hP.bB; unfold app at hx
  rcases bind_cases hx with ⟨c, q, h1, rfl⟩ | ⟨nd, s1, h1, h2⟩
  · have H1 := hid h1; have HP := hid hP; clear hx h1 hP; go_enter Tryz.func193, Tryz.ntmps193
    go_wp2_with (go_at_call 218; refine (hat M na nc fa fc _ _ _ (HP.out.alloc _) H1.out).mono ?_; rintro e w1 ⟨hk, rfl⟩; unfold thrown)
    go_simp; exact ⟨rfl, (Kn.of (below_alloc _ _) hB).go hk, rfl⟩
  · have H1 := hid h1; have H2 := hid h2; have HP := hid hP; clear hx h1 h2 hP; go_enter Tryz.func193, Tryz.ntmps193
    go_wp2_with (go_at_call 218; refine (hat M na nc fa fc _ _ _ (HP.out.alloc (.cells #[.int .i64 0, .string ⟨#[]⟩, .bool false, .slice none 0 0, .int .i64 0, .int .u64 0, .string ⟨#[]⟩, .slice none 0 0, .slice none 0 0, .slice none 0 0, .slice none 0 0, .slice none 0 0] 87)) H1.out).mono ?_; rintro e w1 ⟨hk, hsc, hi, hP1, v, rfl, x0, x1, x2, Vg, Vi, Vh, x4, x5, x6, Vp, Vr, Vq, Vs, Vu, Vt, Vv, Vx, Vw, Vy, VA, Vz, VB, VD, VC, rfl, hrep⟩; have HR0 := hid (LpExp.start HP.out hk hsc hi hP1 hrep); clear hk hsc hi hP1 hrep)
    generalize w1.alloc (.cells #[.int .i64 x0, .string x1, .bool x2, .slice Vg Vi Vh, .int .i64 x4, .int .u64 x5, .string x6, .slice Vp Vr Vq, .slice Vs Vu Vt, .slice Vv Vx Vw, .slice Vy VA Vz, .slice VB VD VC] 87) = W2 at HR0 ⊢; obtain ⟨kb, hkb⟩ : ∃ kb, w1.heap.size = kb := ⟨_, rfl⟩; rw [hkb] at HR0 ⊢; clear hkb H1
    go_loopg [] n (fun gk wr => ∃ s1 nd, Hid (appL G.X f gk nd s1 = some r) ∧ Hid (LpExp G M na nc fa fc w kb s wr s1 nd))
    case atStart => exact ⟨s1, nd, H2, HR0⟩
    case round =>
      clear H2 HR0; obtain ⟨s2, nd2, HL, HR⟩ := hrel; cases gk with
      | zero => exact absurd HL.out (by simp [appL, PM.none])
      | succ m =>
      by_cases hs : startsS G.X s2 = true
      · have hl := HL.out; rw [appL_yes hs] at hl; have HS := hid hs
        rcases bind_cases hl with ⟨c, q, h1, rfl⟩ | ⟨nd3, s3, h1, h2⟩
        · have H1 := hid h1; clear hl h1 hs HL
          go_wp2_with (go_at_call 219; refine (starts_any hG HR.out.ps).mono ?_; rintro e w3 ⟨rfl, hb3⟩; rw [HS.out]; have R3 := hid (HR.out.below hb3); clear hb3)
          obtain ⟨x0, x1, x2, Vg, Vi, Vh, x4, x5, x6, Vp, Vr, Vq, Vs, Vu, Vt, Vv, Vx, Vw, Vy, VA, Vz, VB, VD, VC, hbx, _⟩ := R3.out.bx; have hcell := hbx.2.2; obtain ⟨b0, b1, b2, b3, b4, b5, b6, b7, b8, b9, b10, b11⟩ := bx12 hcell; clear hcell hbx; refine region_T (S := fun wx => wx.cell? ⟨kb, 0, none⟩ = some (.int .i64 x0) ∧ wx.cell? ⟨kb, 1, none⟩ = some (.string x1) ∧ wx.cell? ⟨kb, 2, none⟩ = some (.bool x2) ∧ wx.cell? ⟨kb, 3, none⟩ = some (.slice Vg Vi Vh) ∧ wx.cell? ⟨kb, 4, none⟩ = some (.int .i64 x4) ∧ wx.cell? ⟨kb, 5, none⟩ = some (.int .u64 x5) ∧ wx.cell? ⟨kb, 6, none⟩ = some (.string x6) ∧ wx.cell? ⟨kb, 7, none⟩ = some (.slice Vp Vr Vq) ∧ wx.cell? ⟨kb, 8, none⟩ = some (.slice Vs Vu Vt) ∧ wx.cell? ⟨kb, 9, none⟩ = some (.slice Vv Vx Vw) ∧ wx.cell? ⟨kb, 10, none⟩ = some (.slice Vy VA Vz) ∧ wx.cell? ⟨kb, 11, none⟩ = some (.slice VB VD VC)) (T := fun _j => false) (by kernel_rfl) ?_; have hS0 := And.intro (b0) (And.intro (b1) (And.intro (b2) (And.intro (b3) (And.intro (b4) (And.intro (b5) (And.intro (b6) (And.intro (b7) (And.intro (b8) (And.intro (b9) (And.intro (b10) (b11))))))))))); refine tq 0 hS0 ?_; refine tq 1 hS0 ?_; refine on1 2 fun K hK => ?_; go_simp; refine (hat M na nc fa fc _ _ _ R3.out.ps.drew H1.out).mono ?_; rintro e w4 ⟨hk4, rfl⟩; unfold thrown; go_simp; exact ⟨rfl, R3.out.kn.drew.go hk4, rfl⟩
        · have H1 := hid h1; have H2 := hid h2; clear hl h1 h2 hs HL
          go_wp2_with (go_at_call 219; refine (starts_any hG HR.out.ps).mono ?_; rintro e w3 ⟨rfl, hb3⟩; rw [HS.out]; have R3 := hid (HR.out.below hb3); clear hb3)
          obtain ⟨x0, x1, x2, Vg, Vi, Vh, x4, x5, x6, Vp, Vr, Vq, Vs, Vu, Vt, Vv, Vx, Vw, Vy, VA, Vz, VB, VD, VC, hbx, hrx⟩ := R3.out.bx; have hcell := hbx.2.2; have HRX := hid hrx; obtain ⟨b0, b1, b2, b3, b4, b5, b6, b7, b8, b9, b10, b11⟩ := bx12 hcell; clear hcell hbx hrx; refine region_T (S := fun wx => wx.cell? ⟨kb, 0, none⟩ = some (.int .i64 x0) ∧ wx.cell? ⟨kb, 1, none⟩ = some (.string x1) ∧ wx.cell? ⟨kb, 2, none⟩ = some (.bool x2) ∧ wx.cell? ⟨kb, 3, none⟩ = some (.slice Vg Vi Vh) ∧ wx.cell? ⟨kb, 4, none⟩ = some (.int .i64 x4) ∧ wx.cell? ⟨kb, 5, none⟩ = some (.int .u64 x5) ∧ wx.cell? ⟨kb, 6, none⟩ = some (.string x6) ∧ wx.cell? ⟨kb, 7, none⟩ = some (.slice Vp Vr Vq) ∧ wx.cell? ⟨kb, 8, none⟩ = some (.slice Vs Vu Vt) ∧ wx.cell? ⟨kb, 9, none⟩ = some (.slice Vv Vx Vw) ∧ wx.cell? ⟨kb, 10, none⟩ = some (.slice Vy VA Vz) ∧ wx.cell? ⟨kb, 11, none⟩ = some (.slice VB VD VC)) (T := fun _j => _j == 5) (by kernel_rfl) ?_; have hS0 := And.intro (b0) (And.intro (b1) (And.intro (b2) (And.intro (b3) (And.intro (b4) (And.intro (b5) (And.intro (b6) (And.intro (b7) (And.intro (b8) (And.intro (b9) (And.intro (b10) (b11))))))))))); refine tq 0 hS0 ?_; refine tq 1 hS0 ?_; refine on1 2 fun K hK => ?_; go_simp; refine (hat M na nc fa fc _ _ _ R3.out.ps.drew H1.out).mono ?_; rintro e w4 ⟨hk4, hsc4, hi4, hP4, v4, rfl, y0, y1, y2, Ya, Yc, Yb, y4, y5, y6, Yg, Yi, Yh, Yj, Yl, Yk, Ym, Yo, Yn, Yp, Yr, Yq, Ys, Yu, Yt, rfl, hr4⟩; have q4 : w4.heap[kb]? = w3.drew.heap[kb]? := hk4.blk kb R3.out.lt2 R3.out.nkb; have hS1 := And.intro ((World.cell?_of_block (w := w3.drew) (a := ⟨kb, 0, none⟩) q4).trans (hS0).1) (And.intro ((World.cell?_of_block (w := w3.drew) (a := ⟨kb, 1, none⟩) q4).trans (hS0).2.1) (And.intro ((World.cell?_of_block (w := w3.drew) (a := ⟨kb, 2, none⟩) q4).trans (hS0).2.2.1) (And.intro ((World.cell?_of_block (w := w3.drew) (a := ⟨kb, 3, none⟩) q4).trans (hS0).2.2.2.1) (And.intro ((World.cell?_of_block (w := w3.drew) (a := ⟨kb, 4, none⟩) q4).trans (hS0).2.2.2.2.1) (And.intro ((World.cell?_of_block (w := w3.drew) (a := ⟨kb, 5, none⟩) q4).trans (hS0).2.2.2.2.2.1) (And.intro ((World.cell?_of_block (w := w3.drew) (a := ⟨kb, 6, none⟩) q4).trans (hS0).2.2.2.2.2.2.1) (And.intro ((World.cell?_of_block (w := w3.drew) (a := ⟨kb, 7, none⟩) q4).trans (hS0).2.2.2.2.2.2.2.1) (And.intro ((World.cell?_of_block (w := w3.drew) (a := ⟨kb, 8, none⟩) q4).trans (hS0).2.2.2.2.2.2.2.2.1) (And.intro ((World.cell?_of_block (w := w3.drew) (a := ⟨kb, 9, none⟩) q4).trans (hS0).2.2.2.2.2.2.2.2.2.1) (And.intro ((World.cell?_of_block (w := w3.drew) (a := ⟨kb, 10, none⟩) q4).trans (hS0).2.2.2.2.2.2.2.2.2.2.1) ((World.cell?_of_block (w := w3.drew) (a := ⟨kb, 11, none⟩) q4).trans (hS0).2.2.2.2.2.2.2.2.2.2.2))))))))))); have R4 := hid ((R3.out.below (Below.refl _ _).drew).go hk4 hP4 hsc4 hi4); have HE := hid (And.intro hr4 (And.intro ((Kn.refl G.B M w3).drew.go hk4) hk4.size)); clear q4 hk4 hP4 hsc4 hi4 hr4; refine nx hK hS1 ?_; clear hK K; refine on1 3 fun K hK => ?_; go_simp; have ba := below_alloc w4 (.cells #[.int .i64 x0, .string x1, .bool x2, .slice Vg Vi Vh, .int .i64 x4, .int .u64 x5, .string x6, .slice Vp Vr Vq, .slice Vs Vu Vt, .slice Vv Vx Vw, .slice Vy VA Vz, .slice VB VD VC, .int .i64 y0, .string y1, .bool y2, .slice Ya Yc Yb, .int .i64 y4, .int .u64 y5, .string y6, .slice Yg Yi Yh, .slice Yj Yl Yk, .slice Ym Yo Yn, .slice Yp Yr Yq, .slice Ys Yu Yt] 87); have hS2 := hS1; simp only [← (fun o : Nat => ba.cell (p := ⟨kb, o, none⟩) R4.out.lt2)] at hS2; clear ba; refine nx hK hS2 ?_; clear hK K; refine tq 4 hS2 ?_; refine on1 5 fun K hK => ?_; have R5 := (R4.out.below (below_alloc w4 (.cells #[.int .i64 x0, .string x1, .bool x2, .slice Vg Vi Vh, .int .i64 x4, .int .u64 x5, .string x6, .slice Vp Vr Vq, .slice Vs Vu Vt, .slice Vv Vx Vw, .slice Vy VA Vz, .slice VB VD VC, .int .i64 y0, .string y1, .bool y2, .slice Ya Yc Yb, .int .i64 y4, .int .u64 y5, .string y6, .slice Yg Yi Yh, .slice Yj Yl Yk, .slice Ym Yo Yn, .slice Yp Yr Yq, .slice Ys Yu Yt] 87))); have zf : ∀ o, (w4.alloc (.cells #[.int .i64 x0, .string x1, .bool x2, .slice Vg Vi Vh, .int .i64 x4, .int .u64 x5, .string x6, .slice Vp Vr Vq, .slice Vs Vu Vt, .slice Vv Vx Vw, .slice Vy VA Vz, .slice VB VD VC, .int .i64 y0, .string y1, .bool y2, .slice Ya Yc Yb, .int .i64 y4, .int .u64 y5, .string y6, .slice Yg Yi Yh, .slice Yj Yl Yk, .slice Ym Yo Yn, .slice Yp Yr Yq, .slice Ys Yu Yt] 87)).frozen? ⟨kb, o, none⟩ = false := by obtain ⟨q0, q1, q2, Ua, Uc, Ub, q4, q5, q6, Ug, Ui, Uh, Uj, Ul, Uk, Um, Uo, Un, Up, Ur, Uq, Ut, Uv, Uu, q, _⟩ := R5.bx; exact q.2.1
          obtain ⟨z0, z1, z2, z3, z4, z5, z6, z7, z8, z9, z10, z11⟩ := hS2; go_simp; clear zf
          have hX : RepR (w4.alloc (.cells #[.int .i64 x0, .string x1, .bool x2, .slice Vg Vi Vh, .int .i64 x4, .int .u64 x5, .string x6, .slice Vp Vr Vq, .slice Vs Vu Vt, .slice Vv Vx Vw, .slice Vy VA Vz, .slice VB VD VC, .int .i64 y0, .string y1, .bool y2, .slice Ya Yc Yb, .int .i64 y4, .int .u64 y5, .string y6, .slice Yg Yi Yh, .slice Yj Yl Yk, .slice Ym Yo Yn, .slice Yp Yr Yq, .slice Ys Yu Yt] 87)) (LF G.B w.heap.size (w4.alloc (.cells #[.int .i64 x0, .string x1, .bool x2, .slice Vg Vi Vh, .int .i64 x4, .int .u64 x5, .string x6, .slice Vp Vr Vq, .slice Vs Vu Vt, .slice Vv Vx Vw, .slice Vy VA Vz, .slice VB VD VC, .int .i64 y0, .string y1, .bool y2, .slice Ya Yc Yb, .int .i64 y4, .int .u64 y5, .string y6, .slice Yg Yi Yh, .slice Yj Yl Yk, .slice Ym Yo Yn, .slice Yp Yr Yq, .slice Ys Yu Yt] 87)).heap.size kb) (eKids 8 [nd2, nd3]) [.int .i64 8, .string ⟨#[]⟩, .bool false, .slice none 0 0, .int .i64 0, .int .u64 0, .string ⟨#[]⟩, .slice none 0 0, .slice (some ⟨w4.heap.size, 0, none⟩) 2 2, .slice none 0 0, .slice none 0 0, .slice none 0 0] := by
            have l2 := R3.out.lt2; have lt := R3.out.lt; have e4 := HE.out.2.2; have e5 : (w4.alloc (.cells #[.int .i64 x0, .string x1, .bool x2, .slice Vg Vi Vh, .int .i64 x4, .int .u64 x5, .string x6, .slice Vp Vr Vq, .slice Vs Vu Vt, .slice Vv Vx Vw, .slice Vy VA Vz, .slice VB VD VC, .int .i64 y0, .string y1, .bool y2, .slice Ya Yc Yb, .int .i64 y4, .int .u64 y5, .string y6, .slice Yg Yi Yh, .slice Yj Yl Yk, .slice Ym Yo Yn, .slice Yp Yr Yq, .slice Ys Yu Yt] 87)).heap.size = w4.heap.size + 1 := by simp
            have l3 := R3.out.kn.size; have e6 : w3.drew.heap.size = w3.heap.size := rfl; have bal := below_alloc w4 (.cells #[.int .i64 x0, .string x1, .bool x2, .slice Vg Vi Vh, .int .i64 x4, .int .u64 x5, .string x6, .slice Vp Vr Vq, .slice Vs Vu Vt, .slice Vv Vx Vw, .slice Vy VA Vz, .slice VB VD VC, .int .i64 y0, .string y1, .bool y2, .slice Ya Yc Yb, .int .i64 y4, .int .u64 y5, .string y6, .slice Yg Yi Yh, .slice Yj Yl Yk, .slice Ym Yo Yn, .slice Yp Yr Yq, .slice Ys Yu Yt] 87); refine mkExp_rep (kids := [nd2, nd3]) (ls := []) (rules := []) (decs := []) (types := []) repZero repNil (repNew2 (cs := [.int .i64 x0, .string x1, .bool x2, .slice Vg Vi Vh, .int .i64 x4, .int .u64 x5, .string x6, .slice Vp Vr Vq, .slice Vs Vu Vt, .slice Vv Vx Vw, .slice Vy VA Vz, .slice VB VD VC]) (ds := [.int .i64 y0, .string y1, .bool y2, .slice Ya Yc Yb, .int .i64 y4, .int .u64 y5, .string y6, .slice Yg Yi Yh, .slice Yj Yl Yk, .slice Ym Yo Yn, .slice Yp Yr Yq, .slice Ys Yu Yt]) rfl (.inr ⟨by omega, by omega, by omega, by omega⟩) ?_ ?_) repNil repNil repNil
            · refine (HRX.out.on (LF.kb (HE.out.2.1) R3.out.mw) (fun b hb => hb.up e4)).on (Kb.of bal fun b hb => ?_) (fun b hb => LF.up hb (by omega))
              rcases hb with q | q
              · have := R3.out.hB; omega
              · exact q.2.1
            · refine HE.out.1.on (Kb.of bal fun b hb => ?_) (fun b hb => LF.own hb (by show w.heap.size < w3.heap.size; omega) l2 (by omega))
              rcases hb with q | q
              · have := R3.out.hB; omega
              · exact q.2.1
          have R6 := hid (R5.store hX); clear R5 hX z0 z1 z2 z3 z4 z5 z6 z7 z8 z9 z10 z11; refine nxT hK ?_; clear hK K; refine anyT_done (by kernel_rfl) ?_ _; generalize hw6 : (w4.alloc (.cells #[.int .i64 x0, .string x1, .bool x2, .slice Vg Vi Vh, .int .i64 x4, .int .u64 x5, .string x6, .slice Vp Vr Vq, .slice Vs Vu Vt, .slice Vv Vx Vw, .slice Vy VA Vz, .slice VB VD VC, .int .i64 y0, .string y1, .bool y2, .slice Ya Yc Yb, .int .i64 y4, .int .u64 y5, .string y6, .slice Yg Yi Yh, .slice Yj Yl Yk, .slice Ym Yo Yn, .slice Yp Yr Yq, .slice Ys Yu Yt] 87)).setCells kb 0 [.int .i64 8, .string ⟨#[]⟩, .bool false, .slice none 0 0, .int .i64 0, .int .u64 0, .string ⟨#[]⟩, .slice none 0 0, .slice (some ⟨w4.heap.size, 0, none⟩) 2 2, .slice none 0 0, .slice none 0 0, .slice none 0 0] = w6 at R6; have hw6 := hid hw6
          go_wp2_with fail
          go_roundg m
          case measure => omega
          case rel =>
            have e6 := hw6.out; clear hw6; subst e6; exact ⟨s3, eKids 8 [nd2, nd3], H2, R6⟩
      · have hl := HL.out; rw [appL_no hs] at hl; obtain rfl := Option.some.inj hl; have HS : Hid (startsS G.X s2 = false) := hid (by simpa using hs); clear hl hs HL
        go_wp2_with (go_at_call 219; refine (starts_any hG HR.out.ps).mono ?_; rintro e w3 ⟨rfl, hb3⟩; rw [HS.out]; have R3 := hid (HR.out.below hb3); clear hb3; obtain ⟨x0, x1, x2, Vg, Vi, Vh, x4, x5, x6, Vp, Vr, Vq, Vs, Vu, Vt, Vv, Vx, Vw, Vy, VA, Vz, VB, VD, VC, hbx, hres, hfin⟩ := R3.out.fin; have hcell := hbx.2.2; have hz := R3.out.res.2.2; have hzf := R3.out.res.2.1; obtain ⟨b0, b1, b2, b3, b4, b5, b6, b7, b8, b9, b10, b11⟩ := bx12 hcell; have HF := hid hfin; have HRS := hid hres; clear hfin hres hcell hbx; obtain ⟨z0, z1, z2, z3, z4, z5, z6, z7, z8, z9, z10, z11⟩ := bx12 hz; clear hz)
        refine fin12 HRS.out (by intros; simp [results, Tryz.results193, go_sem, *]) rfl HF.out
end
def LC (B lo hi kb : Nat) (b : Nat) : Prop := b < B ∨ (lo ≤ b ∧ b < hi ∧ b ≠ kb ∧ b ≠ kb + 1 ∧ b ≠ lo)
theorem LC.kb {G : Gh} {M : Nat → Prop} {w w3 w4 : World} {kb : Nat} (hk : Kn G.B M w3 w4) (mw : ∀ k, M k → k < w.heap.size) : Kb w3 w4 (LC G.B w.heap.size w3.heap.size kb) := fun b hb => by
  rcases hb with q | ⟨q1, q2, _⟩
  · exact hk.bel.block b q
  · exact hk.blk b q2 (fun q => by have := mw _ q; omega)
theorem LC.up {B lo hi hi' kb b : Nat} (h : LC B lo hi kb b) (e : hi ≤ hi') : LC B lo hi' kb b := h.imp id fun q => ⟨q.1, by omega, q.2.2⟩
theorem LC.own {B lo lo' hi hi' kb b : Nat} (h : Own B lo' hi No b) (h1 : lo < lo') (h2 : kb + 1 < lo') (e : hi ≤ hi') : LC B lo hi' kb b := h.imp id fun q => ⟨by omega, by omega, by omega, by omega, by omega⟩
structure LcExp (G : Gh) (M : Nat → Prop) (na : Option Addr) (nc : Nat) (fa : Option Addr) (fc : Nat) (w : World) (kb : Nat) (s : PSt) (wr : World) (s1 : PSt) (nd : Nd) (lv : Int) (rt : Bool) : Prop where
  sc : s1.sc = s.sc
  mono : s.i ≤ s1.i
  ps : PS G M na nc fa fc wr s1
  bx : BxExp wr kb (LC G.B w.heap.size wr.heap.size kb) nd
  res : BxC wr w.heap.size #[.int .i64 0, .string ⟨#[]⟩, .bool false, .slice none 0 0, .int .i64 0, .int .u64 0, .string ⟨#[]⟩, .slice none 0 0, .slice none 0 0, .slice none 0 0, .slice none 0 0, .slice none 0 0]
  last : BxC wr (kb + 1) #[.int .i64 lv, .bool rt]
  kn : Kn G.B M w wr
  mw : ∀ k, M k → k < w.heap.size
  hB : G.B ≤ w.heap.size
  lt : w.heap.size < kb
section
variable {G : Gh} {M : Nat → Prop} {na : Option Addr} {nc : Nat} {fa : Option Addr} {fc : Nat} {w wr w3 w5 : World} {kb : Nat} {s s1 s3 : PSt} {nd nd' : Nd} {lv lv' : Int} {rt rt' : Bool}
theorem LcExp.lt2 (h : LcExp G M na nc fa fc w kb s wr s1 nd lv rt) : kb + 1 < wr.heap.size := h.last.1
theorem LcExp.nkb (h : LcExp G M na nc fa fc w kb s wr s1 nd lv rt) : ¬ M kb := fun q => by have := h.mw _ q; have := h.lt; omega
theorem LcExp.nkl (h : LcExp G M na nc fa fc w kb s wr s1 nd lv rt) : ¬ M (kb + 1) := fun q => by have := h.mw _ q; have := h.lt; omega
theorem LcExp.go (h : LcExp G M na nc fa fc w kb s wr s1 nd lv rt) (hk : Kn G.B M wr w3) (hP : PS G M na nc fa fc w3 s3) (hsc : s3.sc = s1.sc) (hi : s1.i ≤ s3.i) : LcExp G M na nc fa fc w kb s w3 s3 nd lv rt := by
  have l2 := h.lt2; have e := hk.size; have lt := h.lt; have hw := h.kn.size; refine ⟨hsc.trans h.sc, by have := h.mono; omega, hP, h.bx.keep (hk.blk kb (by omega) h.nkb) e (fun b hb => ?_) (fun b hb => hb.imp id fun q => ⟨q.1, by omega, q.2.2⟩), h.res.keep (hk.blk _ (by omega) (fun q => by have := h.mw _ q; omega)) e, h.last.keep (hk.blk _ l2 h.nkl) e, h.kn.go hk, h.mw, h.hB, lt⟩
  rcases hb with q | ⟨q1, q2, q3, q4⟩
  · exact hk.bel.block b q
  · exact hk.blk b q2 (fun q => by have := h.mw _ q; omega)
theorem LcExp.below (h : LcExp G M na nc fa fc w kb s wr s1 nd lv rt) (hb : Below wr.heap.size wr w3) : LcExp G M na nc fa fc w kb s w3 s1 nd lv rt := h.go (Kn.of hb h.ps.bB) (h.ps.new hb) rfl (Nat.le_refl _)
theorem LcExp.store (h : LcExp G M na nc fa fc w kb s w5 s1 nd lv rt) {x0 : Int} {x1 : ByteArray} {x2 : Bool} {Vg : Option Addr} {Vi Vh : Nat} {x4 : Int} {x5 : Int} {x6 : ByteArray} {Vp : Option Addr} {Vr Vq : Nat} {Vs : Option Addr} {Vu Vt : Nat} {Vv : Option Addr} {Vx Vw : Nat} {Vy : Option Addr} {VA Vz : Nat} {VB : Option Addr} {VD VC : Nat} (hr : RepR w5 (LC G.B w.heap.size w5.heap.size kb) nd' [.int .i64 x0, .string x1, .bool x2, .slice Vg Vi Vh, .int .i64 x4, .int .u64 x5, .string x6, .slice Vp Vr Vq, .slice Vs Vu Vt, .slice Vv Vx Vw, .slice Vy VA Vz, .slice VB VD VC]) :
    LcExp G M na nc fa fc w kb s (w5.setCells kb 0 [.int .i64 x0, .string x1, .bool x2, .slice Vg Vi Vh, .int .i64 x4, .int .u64 x5, .string x6, .slice Vp Vr Vq, .slice Vs Vu Vt, .slice Vv Vx Vw, .slice Vy VA Vz, .slice VB VD VC]) s1 nd' lv rt := by
  obtain ⟨y0, y1, y2, Ya, Yc, Yb, y4, y5, y6, Yg, Yi, Yh, Yj, Yl, Yk, Ym, Yo, Yn, Yp, Yr, Yq, Ys, Yu, Yt, q, _⟩ := h.bx; obtain ⟨g1, g2, g3, g4⟩ := q.store [.int .i64 x0, .string x1, .bool x2, .slice Vg Vi Vh, .int .i64 x4, .int .u64 x5, .string x6, .slice Vp Vr Vq, .slice Vs Vu Vt, .slice Vv Vx Vw, .slice Vy VA Vz, .slice VB VD VC] rfl; have lt := h.lt; have hB := h.hB; have hw := h.kn.size; have hM : ∀ k, M k → (w5.setCells kb 0 [.int .i64 x0, .string x1, .bool x2, .slice Vg Vi Vh, .int .i64 x4, .int .u64 x5, .string x6, .slice Vp Vr Vq, .slice Vs Vu Vt, .slice Vv Vx Vw, .slice Vy VA Vz, .slice VB VD VC]).heap[k]? = w5.heap[k]? := fun k hk => g2 k (fun e => h.nkb (e ▸ hk)); have hBk : G.B ≤ kb := by omega
  refine ⟨h.sc, h.mono, h.ps.keep (g4.mono hBk) hM, ⟨x0, x1, x2, Vg, Vi, Vh, x4, x5, x6, Vp, Vr, Vq, Vs, Vu, Vt, Vv, Vx, Vw, Vy, VA, Vz, VB, VD, VC, g1, hr.on (fun b hb => g2 b ?_) (fun b hb => hb.imp id fun q => ⟨q.1, by rw [g3]; exact q.2.1, q.2.2⟩)⟩, h.res.keep (g2 _ (by omega)) (by rw [g3]; exact Nat.le_refl _), h.last.keep (g2 _ (by omega)) (by rw [g3]; exact Nat.le_refl _), h.kn.low g4 hBk (by omega), h.mw, hB, lt⟩
  rcases hb with q | q
  · omega
  · exact q.2.2.1
theorem LcExp.setLast (h : LcExp G M na nc fa fc w kb s w5 s1 nd lv rt) : LcExp G M na nc fa fc w kb s (w5.setCells (kb + 1) 0 [.int .i64 lv', .bool rt']) s1 nd lv' rt' := by
  obtain ⟨x0, x1, x2, Vg, Vi, Vh, x4, x5, x6, Vp, Vr, Vq, Vs, Vu, Vt, Vv, Vx, Vw, Vy, VA, Vz, VB, VD, VC, q, hr⟩ := h.bx; obtain ⟨g1, g2, g3, g4⟩ := h.last.store [.int .i64 lv', .bool rt'] rfl; have lt := h.lt; have hB := h.hB; have hw := h.kn.size; have hM : ∀ k, M k → (w5.setCells (kb + 1) 0 [.int .i64 lv', .bool rt']).heap[k]? = w5.heap[k]? := fun k hk => g2 k (fun e => h.nkl (e ▸ hk)); have hBk : G.B ≤ kb + 1 := by omega
  refine ⟨h.sc, h.mono, h.ps.keep (g4.mono hBk) hM, ⟨x0, x1, x2, Vg, Vi, Vh, x4, x5, x6, Vp, Vr, Vq, Vs, Vu, Vt, Vv, Vx, Vw, Vy, VA, Vz, VB, VD, VC, q.keep (g2 _ (by omega)) (by rw [g3]; exact Nat.le_refl _), hr.on (fun b hb => g2 b ?_) (fun b hb => hb.imp id fun q => ⟨q.1, by rw [g3]; exact q.2.1, q.2.2⟩)⟩, h.res.keep (g2 _ (by omega)) (by rw [g3]; exact Nat.le_refl _), g1, h.kn.low g4 hBk (by omega), h.mw, hB, lt⟩
  rcases hb with q | q
  · omega
  · exact q.2.2.2.1
theorem LcExp.fin (h : LcExp G M na nc fa fc w kb s w5 s1 nd lv rt) : ∃ (x0 : Int) (x1 : ByteArray) (x2 : Bool) (Vg : Option Addr) (Vi Vh : Nat) (x4 : Int) (x5 : Int) (x6 : ByteArray) (Vp : Option Addr) (Vr Vq : Nat) (Vs : Option Addr) (Vu Vt : Nat) (Vv : Option Addr) (Vx Vw : Nat) (Vy : Option Addr) (VA Vz : Nat) (VB : Option Addr) (VD VC : Nat), BxC w5 kb #[.int .i64 x0, .string x1, .bool x2, .slice Vg Vi Vh, .int .i64 x4, .int .u64 x5, .string x6, .slice Vp Vr Vq, .slice Vs Vu Vt, .slice Vv Vx Vw, .slice Vy VA Vz, .slice VB VD VC] ∧ BxC (w5.setCells w.heap.size 0 [.int .i64 x0, .string x1, .bool x2, .slice Vg Vi Vh, .int .i64 x4, .int .u64 x5, .string x6, .slice Vp Vr Vq, .slice Vs Vu Vt, .slice Vv Vx Vw, .slice Vy VA Vz, .slice VB VD VC]) w.heap.size #[.int .i64 x0, .string x1, .bool x2, .slice Vg Vi Vh, .int .i64 x4, .int .u64 x5, .string x6, .slice Vp Vr Vq, .slice Vs Vu Vt, .slice Vv Vx Vw, .slice Vy VA Vz, .slice VB VD VC] ∧
    PN G M na nc fa fc IsExp w s (.ok (nd, s1)) (.returned (.agg #[.int .i64 x0, .string x1, .bool x2, .slice Vg Vi Vh, .int .i64 x4, .int .u64 x5, .string x6, .slice Vp Vr Vq, .slice Vs Vu Vt, .slice Vv Vx Vw, .slice Vy VA Vz, .slice VB VD VC])) (w5.setCells w.heap.size 0 [.int .i64 x0, .string x1, .bool x2, .slice Vg Vi Vh, .int .i64 x4, .int .u64 x5, .string x6, .slice Vp Vr Vq, .slice Vs Vu Vt, .slice Vv Vx Vw, .slice Vy VA Vz, .slice VB VD VC]) := by
  obtain ⟨x0, x1, x2, Vg, Vi, Vh, x4, x5, x6, Vp, Vr, Vq, Vs, Vu, Vt, Vv, Vx, Vw, Vy, VA, Vz, VB, VD, VC, q, hr⟩ := h.bx; obtain ⟨g1, g2, g3, g4⟩ := h.res.store [.int .i64 x0, .string x1, .bool x2, .slice Vg Vi Vh, .int .i64 x4, .int .u64 x5, .string x6, .slice Vp Vr Vq, .slice Vs Vu Vt, .slice Vv Vx Vw, .slice Vy VA Vz, .slice VB VD VC] rfl; have lt := h.lt; have hB := h.hB; have hw := h.kn.size; have hM : ∀ k, M k → (w5.setCells w.heap.size 0 [.int .i64 x0, .string x1, .bool x2, .slice Vg Vi Vh, .int .i64 x4, .int .u64 x5, .string x6, .slice Vp Vr Vq, .slice Vs Vu Vt, .slice Vv Vx Vw, .slice Vy VA Vz, .slice VB VD VC]).heap[k]? = w5.heap[k]? := fun k hk => g2 k (fun e => by have := h.mw _ hk; omega); refine ⟨x0, x1, x2, Vg, Vi, Vh, x4, x5, x6, Vp, Vr, Vq, Vs, Vu, Vt, Vv, Vx, Vw, Vy, VA, Vz, VB, VD, VC, q, g1, h.kn.low g4 hB (Nat.le_refl _), h.sc, h.mono, h.ps.keep (g4.mono hB) hM, _, rfl, x0, x1, x2, Vg, Vi, Vh, x4, x5, x6, Vp, Vr, Vq, Vs, Vu, Vt, Vv, Vx, Vw, Vy, VA, Vz, VB, VD, VC, rfl, hr.on (fun b hb => g2 b ?_) (fun b hb => hb.imp id fun q => ⟨q.1, by rw [g3]; exact q.2.1, fun q => q⟩)⟩
  rcases hb with q | q
  · omega
  · exact q.2.2.2.2
theorem LcExp.start {w1 : World} {x0 : Int} {x1 : ByteArray} {x2 : Bool} {Vg : Option Addr} {Vi Vh : Nat} {x4 : Int} {x5 : Int} {x6 : ByteArray} {Vp : Option Addr} {Vr Vq : Nat} {Vs : Option Addr} {Vu Vt : Nat} {Vv : Option Addr} {Vx Vw : Nat} {Vy : Option Addr} {VA Vz : Nat} {VB : Option Addr} {VD VC : Nat} (hP : PS G M na nc fa fc w s) (hk : Kn G.B M (w.alloc (.cells #[.int .i64 0, .string ⟨#[]⟩, .bool false, .slice none 0 0, .int .i64 0, .int .u64 0, .string ⟨#[]⟩, .slice none 0 0, .slice none 0 0, .slice none 0 0, .slice none 0 0, .slice none 0 0] 87)) w1) (hsc : s1.sc = s.sc) (hi : s.i ≤ s1.i) (hP1 : PS G M na nc fa fc w1 s1) (hr : RepR w1 (Own G.B (w.alloc (.cells #[.int .i64 0, .string ⟨#[]⟩, .bool false, .slice none 0 0, .int .i64 0, .int .u64 0, .string ⟨#[]⟩, .slice none 0 0, .slice none 0 0, .slice none 0 0, .slice none 0 0, .slice none 0 0] 87)).heap.size w1.heap.size No) nd [.int .i64 x0, .string x1, .bool x2, .slice Vg Vi Vh, .int .i64 x4, .int .u64 x5, .string x6, .slice Vp Vr Vq, .slice Vs Vu Vt, .slice Vv Vx Vw, .slice Vy VA Vz, .slice VB VD VC]) :
    LcExp G M na nc fa fc w w1.heap.size s ((w1.alloc (.cells #[.int .i64 x0, .string x1, .bool x2, .slice Vg Vi Vh, .int .i64 x4, .int .u64 x5, .string x6, .slice Vp Vr Vq, .slice Vs Vu Vt, .slice Vv Vx Vw, .slice Vy VA Vz, .slice VB VD VC] 87)).alloc (.cells #[.int .i64 10, .bool false] 66)) s1 nd 10 false := by
  have ba := below_alloc w1 (.cells #[.int .i64 x0, .string x1, .bool x2, .slice Vg Vi Vh, .int .i64 x4, .int .u64 x5, .string x6, .slice Vp Vr Vq, .slice Vs Vu Vt, .slice Vv Vx Vw, .slice Vy VA Vz, .slice VB VD VC] 87); have bb := below_alloc (w1.alloc (.cells #[.int .i64 x0, .string x1, .bool x2, .slice Vg Vi Vh, .int .i64 x4, .int .u64 x5, .string x6, .slice Vp Vr Vq, .slice Vs Vu Vt, .slice Vv Vx Vw, .slice Vy VA Vz, .slice VB VD VC] 87)) (.cells #[.int .i64 10, .bool false] 66); have e1 := hk.size; have hB := hP.bB; have e0 : (w.alloc (.cells #[.int .i64 0, .string ⟨#[]⟩, .bool false, .slice none 0 0, .int .i64 0, .int .u64 0, .string ⟨#[]⟩, .slice none 0 0, .slice none 0 0, .slice none 0 0, .slice none 0 0, .slice none 0 0] 87)).heap.size = w.heap.size + 1 := by simp
  have e2 : (w1.alloc (.cells #[.int .i64 x0, .string x1, .bool x2, .slice Vg Vi Vh, .int .i64 x4, .int .u64 x5, .string x6, .slice Vp Vr Vq, .slice Vs Vu Vt, .slice Vv Vx Vw, .slice Vy VA Vz, .slice VB VD VC] 87)).heap.size = w1.heap.size + 1 := by simp
  have bab := ba.trans (bb.mono (by omega)); refine ⟨hsc, hi, (hP1.alloc _).alloc _, ⟨x0, x1, x2, Vg, Vi, Vh, x4, x5, x6, Vp, Vr, Vq, Vs, Vu, Vt, Vv, Vx, Vw, Vy, VA, Vz, VB, VD, VC, (BxC.new w1 #[.int .i64 x0, .string x1, .bool x2, .slice Vg Vi Vh, .int .i64 x4, .int .u64 x5, .string x6, .slice Vp Vr Vq, .slice Vs Vu Vt, .slice Vv Vx Vw, .slice Vy VA Vz, .slice VB VD VC] 87).bl bb, hr.on (Kb.of bab fun b hb => ?_) fun b hb => ?_⟩, (((BxC.new w #[.int .i64 0, .string ⟨#[]⟩, .bool false, .slice none 0 0, .int .i64 0, .int .u64 0, .string ⟨#[]⟩, .slice none 0 0, .slice none 0 0, .slice none 0 0, .slice none 0 0, .slice none 0 0] 87).keep (hk.blk _ (by simp) (fun hm => by have := (hP.mB _ hm).2; omega)) hk.size).bl ba).bl bb, BxC.new' _ _ _ _ (by simp), ((Kn.of (below_alloc w (.cells #[.int .i64 0, .string ⟨#[]⟩, .bool false, .slice none 0 0, .int .i64 0, .int .u64 0, .string ⟨#[]⟩, .slice none 0 0, .slice none 0 0, .slice none 0 0, .slice none 0 0, .slice none 0 0] 87)) hB).go hk).low bab (by omega) (by omega), fun k hm => (hP.mB k hm).2, hB, by omega⟩
  · rcases hb with q | ⟨_, q, _⟩ <;> omega
  · rcases hb with q | ⟨q1, q2, _⟩
    · exact .inl q
    · exact .inr ⟨by omega, by simp; omega, by omega, by omega, by omega⟩
end
structure LcPat (G : Gh) (M : Nat → Prop) (na : Option Addr) (nc : Nat) (fa : Option Addr) (fc : Nat) (w : World) (kb : Nat) (s : PSt) (wr : World) (s1 : PSt) (nd : Nd) (lv : Int) (rt : Bool) : Prop where
  sc : s1.sc = s.sc
  mono : s.i ≤ s1.i
  ps : PS G M na nc fa fc wr s1
  bx : BxPat wr kb (LC G.B w.heap.size wr.heap.size kb) nd
  res : BxC wr w.heap.size #[.int .i64 0, .string ⟨#[]⟩, .bool false, .slice none 0 0, .int .i64 0, .string ⟨#[]⟩, .slice none 0 0, .slice none 0 0, .slice none 0 0]
  last : BxC wr (kb + 1) #[.int .i64 lv, .bool rt]
  kn : Kn G.B M w wr
  mw : ∀ k, M k → k < w.heap.size
  hB : G.B ≤ w.heap.size
  lt : w.heap.size < kb
section
variable {G : Gh} {M : Nat → Prop} {na : Option Addr} {nc : Nat} {fa : Option Addr} {fc : Nat} {w wr w3 w5 : World} {kb : Nat} {s s1 s3 : PSt} {nd nd' : Nd} {lv lv' : Int} {rt rt' : Bool}
theorem LcPat.lt2 (h : LcPat G M na nc fa fc w kb s wr s1 nd lv rt) : kb + 1 < wr.heap.size := h.last.1
theorem LcPat.nkb (h : LcPat G M na nc fa fc w kb s wr s1 nd lv rt) : ¬ M kb := fun q => by have := h.mw _ q; have := h.lt; omega
theorem LcPat.nkl (h : LcPat G M na nc fa fc w kb s wr s1 nd lv rt) : ¬ M (kb + 1) := fun q => by have := h.mw _ q; have := h.lt; omega
theorem LcPat.go (h : LcPat G M na nc fa fc w kb s wr s1 nd lv rt) (hk : Kn G.B M wr w3) (hP : PS G M na nc fa fc w3 s3) (hsc : s3.sc = s1.sc) (hi : s1.i ≤ s3.i) : LcPat G M na nc fa fc w kb s w3 s3 nd lv rt := by
  have l2 := h.lt2; have e := hk.size; have lt := h.lt; have hw := h.kn.size; refine ⟨hsc.trans h.sc, by have := h.mono; omega, hP, h.bx.keep (hk.blk kb (by omega) h.nkb) e (fun b hb => ?_) (fun b hb => hb.imp id fun q => ⟨q.1, by omega, q.2.2⟩), h.res.keep (hk.blk _ (by omega) (fun q => by have := h.mw _ q; omega)) e, h.last.keep (hk.blk _ l2 h.nkl) e, h.kn.go hk, h.mw, h.hB, lt⟩
  rcases hb with q | ⟨q1, q2, q3, q4⟩
  · exact hk.bel.block b q
  · exact hk.blk b q2 (fun q => by have := h.mw _ q; omega)
theorem LcPat.below (h : LcPat G M na nc fa fc w kb s wr s1 nd lv rt) (hb : Below wr.heap.size wr w3) : LcPat G M na nc fa fc w kb s w3 s1 nd lv rt := h.go (Kn.of hb h.ps.bB) (h.ps.new hb) rfl (Nat.le_refl _)
theorem LcPat.store (h : LcPat G M na nc fa fc w kb s w5 s1 nd lv rt) {x0 : Int} {x1 : ByteArray} {x2 : Bool} {Vg : Option Addr} {Vi Vh : Nat} {x4 : Int} {x5 : ByteArray} {Vm : Option Addr} {Vo Vn : Nat} {Vp : Option Addr} {Vr Vq : Nat} {Vs : Option Addr} {Vu Vt : Nat} (hr : RepR w5 (LC G.B w.heap.size w5.heap.size kb) nd' [.int .i64 x0, .string x1, .bool x2, .slice Vg Vi Vh, .int .i64 x4, .string x5, .slice Vm Vo Vn, .slice Vp Vr Vq, .slice Vs Vu Vt]) :
    LcPat G M na nc fa fc w kb s (w5.setCells kb 0 [.int .i64 x0, .string x1, .bool x2, .slice Vg Vi Vh, .int .i64 x4, .string x5, .slice Vm Vo Vn, .slice Vp Vr Vq, .slice Vs Vu Vt]) s1 nd' lv rt := by
  obtain ⟨y0, y1, y2, Ya, Yc, Yb, y4, y5, Yd, Yf, Ye, Yg, Yi, Yh, Yj, Yl, Yk, q, _⟩ := h.bx; obtain ⟨g1, g2, g3, g4⟩ := q.store [.int .i64 x0, .string x1, .bool x2, .slice Vg Vi Vh, .int .i64 x4, .string x5, .slice Vm Vo Vn, .slice Vp Vr Vq, .slice Vs Vu Vt] rfl; have lt := h.lt; have hB := h.hB; have hw := h.kn.size; have hM : ∀ k, M k → (w5.setCells kb 0 [.int .i64 x0, .string x1, .bool x2, .slice Vg Vi Vh, .int .i64 x4, .string x5, .slice Vm Vo Vn, .slice Vp Vr Vq, .slice Vs Vu Vt]).heap[k]? = w5.heap[k]? := fun k hk => g2 k (fun e => h.nkb (e ▸ hk)); have hBk : G.B ≤ kb := by omega
  refine ⟨h.sc, h.mono, h.ps.keep (g4.mono hBk) hM, ⟨x0, x1, x2, Vg, Vi, Vh, x4, x5, Vm, Vo, Vn, Vp, Vr, Vq, Vs, Vu, Vt, g1, hr.on (fun b hb => g2 b ?_) (fun b hb => hb.imp id fun q => ⟨q.1, by rw [g3]; exact q.2.1, q.2.2⟩)⟩, h.res.keep (g2 _ (by omega)) (by rw [g3]; exact Nat.le_refl _), h.last.keep (g2 _ (by omega)) (by rw [g3]; exact Nat.le_refl _), h.kn.low g4 hBk (by omega), h.mw, hB, lt⟩
  rcases hb with q | q
  · omega
  · exact q.2.2.1
theorem LcPat.setLast (h : LcPat G M na nc fa fc w kb s w5 s1 nd lv rt) : LcPat G M na nc fa fc w kb s (w5.setCells (kb + 1) 0 [.int .i64 lv', .bool rt']) s1 nd lv' rt' := by
  obtain ⟨x0, x1, x2, Vg, Vi, Vh, x4, x5, Vm, Vo, Vn, Vp, Vr, Vq, Vs, Vu, Vt, q, hr⟩ := h.bx; obtain ⟨g1, g2, g3, g4⟩ := h.last.store [.int .i64 lv', .bool rt'] rfl; have lt := h.lt; have hB := h.hB; have hw := h.kn.size; have hM : ∀ k, M k → (w5.setCells (kb + 1) 0 [.int .i64 lv', .bool rt']).heap[k]? = w5.heap[k]? := fun k hk => g2 k (fun e => h.nkl (e ▸ hk)); have hBk : G.B ≤ kb + 1 := by omega
  refine ⟨h.sc, h.mono, h.ps.keep (g4.mono hBk) hM, ⟨x0, x1, x2, Vg, Vi, Vh, x4, x5, Vm, Vo, Vn, Vp, Vr, Vq, Vs, Vu, Vt, q.keep (g2 _ (by omega)) (by rw [g3]; exact Nat.le_refl _), hr.on (fun b hb => g2 b ?_) (fun b hb => hb.imp id fun q => ⟨q.1, by rw [g3]; exact q.2.1, q.2.2⟩)⟩, h.res.keep (g2 _ (by omega)) (by rw [g3]; exact Nat.le_refl _), g1, h.kn.low g4 hBk (by omega), h.mw, hB, lt⟩
  rcases hb with q | q
  · omega
  · exact q.2.2.2.1
theorem LcPat.fin (h : LcPat G M na nc fa fc w kb s w5 s1 nd lv rt) : ∃ (x0 : Int) (x1 : ByteArray) (x2 : Bool) (Vg : Option Addr) (Vi Vh : Nat) (x4 : Int) (x5 : ByteArray) (Vm : Option Addr) (Vo Vn : Nat) (Vp : Option Addr) (Vr Vq : Nat) (Vs : Option Addr) (Vu Vt : Nat), BxC w5 kb #[.int .i64 x0, .string x1, .bool x2, .slice Vg Vi Vh, .int .i64 x4, .string x5, .slice Vm Vo Vn, .slice Vp Vr Vq, .slice Vs Vu Vt] ∧ BxC (w5.setCells w.heap.size 0 [.int .i64 x0, .string x1, .bool x2, .slice Vg Vi Vh, .int .i64 x4, .string x5, .slice Vm Vo Vn, .slice Vp Vr Vq, .slice Vs Vu Vt]) w.heap.size #[.int .i64 x0, .string x1, .bool x2, .slice Vg Vi Vh, .int .i64 x4, .string x5, .slice Vm Vo Vn, .slice Vp Vr Vq, .slice Vs Vu Vt] ∧
    PN G M na nc fa fc IsPat w s (.ok (nd, s1)) (.returned (.agg #[.int .i64 x0, .string x1, .bool x2, .slice Vg Vi Vh, .int .i64 x4, .string x5, .slice Vm Vo Vn, .slice Vp Vr Vq, .slice Vs Vu Vt])) (w5.setCells w.heap.size 0 [.int .i64 x0, .string x1, .bool x2, .slice Vg Vi Vh, .int .i64 x4, .string x5, .slice Vm Vo Vn, .slice Vp Vr Vq, .slice Vs Vu Vt]) := by
  obtain ⟨x0, x1, x2, Vg, Vi, Vh, x4, x5, Vm, Vo, Vn, Vp, Vr, Vq, Vs, Vu, Vt, q, hr⟩ := h.bx; obtain ⟨g1, g2, g3, g4⟩ := h.res.store [.int .i64 x0, .string x1, .bool x2, .slice Vg Vi Vh, .int .i64 x4, .string x5, .slice Vm Vo Vn, .slice Vp Vr Vq, .slice Vs Vu Vt] rfl; have lt := h.lt; have hB := h.hB; have hw := h.kn.size; have hM : ∀ k, M k → (w5.setCells w.heap.size 0 [.int .i64 x0, .string x1, .bool x2, .slice Vg Vi Vh, .int .i64 x4, .string x5, .slice Vm Vo Vn, .slice Vp Vr Vq, .slice Vs Vu Vt]).heap[k]? = w5.heap[k]? := fun k hk => g2 k (fun e => by have := h.mw _ hk; omega); refine ⟨x0, x1, x2, Vg, Vi, Vh, x4, x5, Vm, Vo, Vn, Vp, Vr, Vq, Vs, Vu, Vt, q, g1, h.kn.low g4 hB (Nat.le_refl _), h.sc, h.mono, h.ps.keep (g4.mono hB) hM, _, rfl, x0, x1, x2, Vg, Vi, Vh, x4, x5, Vm, Vo, Vn, Vp, Vr, Vq, Vs, Vu, Vt, rfl, hr.on (fun b hb => g2 b ?_) (fun b hb => hb.imp id fun q => ⟨q.1, by rw [g3]; exact q.2.1, fun q => q⟩)⟩
  rcases hb with q | q
  · omega
  · exact q.2.2.2.2
theorem LcPat.start {w1 : World} {x0 : Int} {x1 : ByteArray} {x2 : Bool} {Vg : Option Addr} {Vi Vh : Nat} {x4 : Int} {x5 : ByteArray} {Vm : Option Addr} {Vo Vn : Nat} {Vp : Option Addr} {Vr Vq : Nat} {Vs : Option Addr} {Vu Vt : Nat} (hP : PS G M na nc fa fc w s) (hk : Kn G.B M (w.alloc (.cells #[.int .i64 0, .string ⟨#[]⟩, .bool false, .slice none 0 0, .int .i64 0, .string ⟨#[]⟩, .slice none 0 0, .slice none 0 0, .slice none 0 0] 82)) w1) (hsc : s1.sc = s.sc) (hi : s.i ≤ s1.i) (hP1 : PS G M na nc fa fc w1 s1) (hr : RepR w1 (Own G.B (w.alloc (.cells #[.int .i64 0, .string ⟨#[]⟩, .bool false, .slice none 0 0, .int .i64 0, .string ⟨#[]⟩, .slice none 0 0, .slice none 0 0, .slice none 0 0] 82)).heap.size w1.heap.size No) nd [.int .i64 x0, .string x1, .bool x2, .slice Vg Vi Vh, .int .i64 x4, .string x5, .slice Vm Vo Vn, .slice Vp Vr Vq, .slice Vs Vu Vt]) :
    LcPat G M na nc fa fc w w1.heap.size s ((w1.alloc (.cells #[.int .i64 x0, .string x1, .bool x2, .slice Vg Vi Vh, .int .i64 x4, .string x5, .slice Vm Vo Vn, .slice Vp Vr Vq, .slice Vs Vu Vt] 82)).alloc (.cells #[.int .i64 10, .bool false] 66)) s1 nd 10 false := by
  have ba := below_alloc w1 (.cells #[.int .i64 x0, .string x1, .bool x2, .slice Vg Vi Vh, .int .i64 x4, .string x5, .slice Vm Vo Vn, .slice Vp Vr Vq, .slice Vs Vu Vt] 82); have bb := below_alloc (w1.alloc (.cells #[.int .i64 x0, .string x1, .bool x2, .slice Vg Vi Vh, .int .i64 x4, .string x5, .slice Vm Vo Vn, .slice Vp Vr Vq, .slice Vs Vu Vt] 82)) (.cells #[.int .i64 10, .bool false] 66); have e1 := hk.size; have hB := hP.bB; have e0 : (w.alloc (.cells #[.int .i64 0, .string ⟨#[]⟩, .bool false, .slice none 0 0, .int .i64 0, .string ⟨#[]⟩, .slice none 0 0, .slice none 0 0, .slice none 0 0] 82)).heap.size = w.heap.size + 1 := by simp
  have e2 : (w1.alloc (.cells #[.int .i64 x0, .string x1, .bool x2, .slice Vg Vi Vh, .int .i64 x4, .string x5, .slice Vm Vo Vn, .slice Vp Vr Vq, .slice Vs Vu Vt] 82)).heap.size = w1.heap.size + 1 := by simp
  have bab := ba.trans (bb.mono (by omega)); refine ⟨hsc, hi, (hP1.alloc _).alloc _, ⟨x0, x1, x2, Vg, Vi, Vh, x4, x5, Vm, Vo, Vn, Vp, Vr, Vq, Vs, Vu, Vt, (BxC.new w1 #[.int .i64 x0, .string x1, .bool x2, .slice Vg Vi Vh, .int .i64 x4, .string x5, .slice Vm Vo Vn, .slice Vp Vr Vq, .slice Vs Vu Vt] 82).bl bb, hr.on (Kb.of bab fun b hb => ?_) fun b hb => ?_⟩, (((BxC.new w #[.int .i64 0, .string ⟨#[]⟩, .bool false, .slice none 0 0, .int .i64 0, .string ⟨#[]⟩, .slice none 0 0, .slice none 0 0, .slice none 0 0] 82).keep (hk.blk _ (by simp) (fun hm => by have := (hP.mB _ hm).2; omega)) hk.size).bl ba).bl bb, BxC.new' _ _ _ _ (by simp), ((Kn.of (below_alloc w (.cells #[.int .i64 0, .string ⟨#[]⟩, .bool false, .slice none 0 0, .int .i64 0, .string ⟨#[]⟩, .slice none 0 0, .slice none 0 0, .slice none 0 0] 82)) hB).go hk).low bab (by omega) (by omega), fun k hm => (hP.mB k hm).2, hB, by omega⟩
  · rcases hb with q | ⟨_, q, _⟩ <;> omega
  · rcases hb with q | ⟨q1, q2, _⟩
    · exact .inl q
    · exact .inr ⟨by omega, by simp; omega, by omega, by omega, by omega⟩
end
def opB (X : Tx) (eq : Bool) (s : PSt) : Bool := (nextS X s).kind == 1 || (nextS X s).kind == 2 || (eq && seesS X [[61]] s)
def cfl (level : Int) (must : Bool) (last : Int × Bool) (L0 : Int) (R0 : Bool) : Bool := decide (L0 = last.1 ∧ R0 ≠ last.2 ∨ must = true ∧ L0 = level ∧ R0 = false)
theorem opB_in {X : Tx} {eq : Bool} {s : PSt} (h : opB X eq s = true) : s.i < X.ts.length := by
  unfold opB at h; simp only [Bool.or_eq_true, beq_iff_eq, Bool.and_eq_true] at h
  rcases h with (h | h) | ⟨_, h⟩
  · exact nextS_in (by omega)
  · exact nextS_in (by omega)
  · exact sees_in h
theorem climbL_go {X : Tx} {level : Int} {must eq : Bool} {again : Int → Bool → PM Nd} {two : List UInt8 → Nd → Nd → Nd} {n : Nat} {a : Nd} {last : Int × Bool} {s : PSt} {r : Except (Nat × Nat) (Nd × PSt)}
    (h : climbL X level must eq again two (n + 1) a last s = some r) :
    (opB X eq s = false ∧ r = .ok (a, s)) ∨ (opB X eq s = true ∧ ∃ L0 R0 F0, fxV s.sc (nextS X s).text = (L0, R0, F0) ∧
      (((F0 = false ∨ L0 < level) ∧ r = .ok (a, s)) ∨ (F0 = true ∧ ¬ L0 < level ∧ (0 ≤ L0 ∧ L0 < 1000) ∧ ((cfl level must last L0 R0 = true ∧ r = .error (41, (nextS X s).pos)) ∨
        (cfl level must last L0 R0 = false ∧
          (again (if R0 then L0 else L0 + 1) R0 >>= fun b => climbL X level must eq again two n (two (nextS X s).text a b) (L0, R0) : PM Nd) { s with i := s.i + 1 } = some r))))) := by
  have e : opB X eq s = decide ((nextS X s).kind = 1 ∨ (nextS X s).kind = 2 ∨ eq = true ∧ seesS X [[61]] s = true) := by
    unfold opB; rw [Bool.eq_iff_iff]; simp only [Bool.or_eq_true, beq_iff_eq, Bool.and_eq_true, decide_eq_true_eq, or_assoc]
  conv at h => lhs; unfold climbL
  simp only [] at h
  by_cases ho : (nextS X s).kind = 1 ∨ (nextS X s).kind = 2 ∨ eq = true ∧ seesS X [[61]] s = true
  · rw [if_neg (fun q => q ho)] at h; refine .inr ⟨by rw [e]; exact decide_eq_true ho, ?_⟩; unfold fxV
    rcases hg : findS s.sc (nextS X s).text with _ | g
    · rw [hg] at h; exact ⟨0, false, false, rfl, .inl ⟨.inl rfl, (Option.some.inj h).symm⟩⟩
    · rw [hg] at h; refine ⟨g.level, g.right, decide (0 ≤ g.level), rfl, ?_⟩; simp only [] at h
      by_cases h1 : g.level < 0 ∨ g.level < level
      · rw [if_pos h1] at h; refine .inl ⟨h1.imp (fun q => decide_eq_false (by omega)) id, (Option.some.inj h).symm⟩
      · rw [if_neg h1] at h; have h2 : ¬ g.level < 0 := fun q => h1 (.inl q); have h3 : ¬ g.level < level := fun q => h1 (.inr q)
        by_cases h4 : 1000 ≤ g.level
        · rw [if_pos h4] at h; cases h
        · rw [if_neg h4] at h
          by_cases h5 : g.level = last.1 ∧ g.right ≠ last.2 ∨ must = true ∧ g.level = level ∧ g.right = false
          · rw [if_pos h5] at h; exact .inr ⟨decide_eq_true (by omega), h3, ⟨by omega, by omega⟩, .inl ⟨decide_eq_true h5, (Option.some.inj h).symm⟩⟩
          · rw [if_neg h5] at h; exact .inr ⟨decide_eq_true (by omega), h3, ⟨by omega, by omega⟩, .inr ⟨decide_eq_false h5, h⟩⟩
  · rw [if_pos ho] at h; exact .inl ⟨by rw [e]; exact decide_eq_false ho, (Option.some.inj h).symm⟩
end Go.Proofs.YtkblonfmjlopaaaGreatDoor
