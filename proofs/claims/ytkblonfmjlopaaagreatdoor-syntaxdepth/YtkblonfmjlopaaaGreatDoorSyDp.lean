/-
  atomic, starts.
-/
import Derived.Test.YtkblonfmjlopaaaGreatDoorSyOpd
import Derived.Test.YtkblonfmjlopaaaGreatDoorSyMk
import Derived.Test.YtkblonfmjlopaaaGreatDoorSyE
set_option linter.all false
set_option maxRecDepth 1000000
set_option maxHeartbeats 16000000
namespace Go.Proofs.YtkblonfmjlopaaaGreatDoor
open Go Go.RowKit
section
variable {G : Gh} {M : Nat → Prop} {na : Option Addr} {nc : Nat} {fa : Option Addr} {fc : Nat} {w : World} {s : PSt}
theorem atomic_any (hG : GOk G) (h : PS G M na nc fa fc w s) :
    Calls Tryz.prog 107 #[.pointer (some ⟨G.bp, 0, none⟩)] w fun e w' => e = .returned (.bool (atomicS G.X s)) ∧ Below w.heap.size w w' := by
  have hfk := field_kind
  by_cases k4 : (nextS G.X s).kind = 4
  · have e4 : (((nextS G.X s).kind : Int) == 4) = true := by rw [k4]; rfl
    have hr : Hid (atomicS G.X s = true) := hid (by unfold atomicS; rw [k4]; rfl); clear k4; go_enter Tryz.func107, Tryz.ntmps107
    go_wp2_with (go_at_call 63; refine (next_any hG h).mono ?_; rintro e w1 ⟨sg, am, nm, cm, rfl, hm, hb⟩; have HB := hid hb; clear hb hm)
    go_ret; exact ⟨by rw [hr.out]; rfl, HB.out⟩
  · have e4 : (((nextS G.X s).kind : Int) == 4) = false := by simp; omega
    have a4 : ((nextS G.X s).kind == 4) = false := by simpa using k4
    by_cases k6 : (nextS G.X s).kind = 6
    · have e6 : (((nextS G.X s).kind : Int) == 6) = true := by rw [k6]; rfl
      have hr : Hid (atomicS G.X s = true) := hid (by unfold atomicS; rw [k6]; rfl); clear k4 k6; go_enter Tryz.func107, Tryz.ntmps107
      go_wp2_with (go_at_call 63; refine (next_any hG h).mono ?_; rintro e w1 ⟨sg, am, nm, cm, rfl, hm, hb⟩; have HB := hid hb; clear hb hm)
      go_ret; exact ⟨by rw [hr.out]; rfl, HB.out⟩
    · have e6 : (((nextS G.X s).kind : Int) == 6) = false := by simp; omega
      have a6 : ((nextS G.X s).kind == 6) = false := by simpa using k6
      by_cases k7 : (nextS G.X s).kind = 7
      · have e7 : (((nextS G.X s).kind : Int) == 7) = true := by rw [k7]; rfl
        have hr : Hid (atomicS G.X s = true) := hid (by unfold atomicS; rw [k7]; rfl); clear k4 k6 k7; go_enter Tryz.func107, Tryz.ntmps107
        go_wp2_with (go_at_call 63; refine (next_any hG h).mono ?_; rintro e w1 ⟨sg, am, nm, cm, rfl, hm, hb⟩; have HB := hid hb; clear hb hm)
        go_ret; exact ⟨by rw [hr.out]; rfl, HB.out⟩
      · have e7 : (((nextS G.X s).kind : Int) == 7) = false := by simp; omega
        have a7 : ((nextS G.X s).kind == 7) = false := by simpa using k7
        have HA : Hid (atomicS G.X s = (operandS G.X s || seesS G.X [[95], [40], [91], [123], [111, 112]] s)) := hid (by unfold atomicS; rw [a4, a6, a7]; rfl); clear k4 a4 k6 a6 k7 a7
        rcases ho : operandS G.X s with _ | _
        · have HO := hid ho; have HR : Hid (atomicS G.X s = seesS G.X [[95], [40], [91], [123], [111, 112]] s) := hid (by rw [HA.out, ho]; rfl); clear ho HA; go_enter Tryz.func107, Tryz.ntmps107
          go_wp2_with (first
            | (go_at_call 63; refine (next_any hG h).mono ?_; rintro e w1 ⟨sg, am, nm, cm, rfl, hm, hb⟩; have HB := hid hb; clear hb hm)
            | (go_at_call 141; refine (operand_any hG (h.new HB.out)).mono ?_; rintro e w2 ⟨rfl, hb⟩; rw [HO.out]; have HC := hid (HB.out.trans (hb.mono HB.out.size)); clear hb)
            | (go_at_call 22; refine (sees_any hG ((h.new HC.out).alloc _) w2.heap.size 5 [⟨([95] : List UInt8).toArray⟩, ⟨([40] : List UInt8).toArray⟩, ⟨([91] : List UInt8).toArray⟩, ⟨([123] : List UInt8).toArray⟩, ⟨([111, 112] : List UInt8).toArray⟩] rfl (by omega) (StrB.made' _ _ [⟨([95] : List UInt8).toArray⟩, ⟨([40] : List UInt8).toArray⟩, ⟨([91] : List UInt8).toArray⟩, ⟨([123] : List UInt8).toArray⟩, ⟨([111, 112] : List UInt8).toArray⟩] _ _ rfl rfl)).mono ?_; rintro e w3 ⟨rfl, hb3⟩; have HD := hid hb3; clear hb3))
          go_ret; refine ⟨by rw [HR.out]; rfl, (HC.out.alloc HC.out.size _).trans (HD.out.mono (by have := HC.out.size; simp; omega))⟩
        · have HO := hid ho; have HR : Hid (atomicS G.X s = true) := hid (by rw [HA.out, ho]; rfl); clear ho HA; go_enter Tryz.func107, Tryz.ntmps107
          go_wp2_with (first
            | (go_at_call 63; refine (next_any hG h).mono ?_; rintro e w1 ⟨sg, am, nm, cm, rfl, hm, hb⟩; have HB := hid hb; clear hb hm)
            | (go_at_call 141; refine (operand_any hG (h.new HB.out)).mono ?_; rintro e w2 ⟨rfl, hb⟩; rw [HO.out]; have HC := hid (HB.out.trans (hb.mono HB.out.size)); clear hb))
          go_ret; exact ⟨by rw [HR.out]; rfl, HC.out⟩
theorem starts_any (hG : GOk G) (h : PS G M na nc fa fc w s) :
    Calls Tryz.prog 219 #[.pointer (some ⟨G.bp, 0, none⟩)] w fun e w' => e = .returned (.bool (startsS G.X s)) ∧ Below w.heap.size w w' := by
  have hfk := field_kind
  by_cases k4 : (nextS G.X s).kind = 4
  · have e4 : (((nextS G.X s).kind : Int) == 4) = true := by rw [k4]; rfl
    have hr : Hid (startsS G.X s = true) := hid (by unfold startsS; rw [k4]; rfl); clear k4; go_enter Tryz.func219, Tryz.ntmps219
    go_wp2_with (go_at_call 63; refine (next_any hG h).mono ?_; rintro e w1 ⟨sg, am, nm, cm, rfl, hm, hb⟩; have HB := hid hb; clear hb hm)
    go_ret; exact ⟨by rw [hr.out]; rfl, HB.out⟩
  · have e4 : (((nextS G.X s).kind : Int) == 4) = false := by simp; omega
    have a4 : ((nextS G.X s).kind == 4) = false := by simpa using k4
    by_cases k5 : (nextS G.X s).kind = 5
    · have e5 : (((nextS G.X s).kind : Int) == 5) = true := by rw [k5]; rfl
      have hr : Hid (startsS G.X s = true) := hid (by unfold startsS; rw [k5]; rfl); clear k4 k5; go_enter Tryz.func219, Tryz.ntmps219
      go_wp2_with (go_at_call 63; refine (next_any hG h).mono ?_; rintro e w1 ⟨sg, am, nm, cm, rfl, hm, hb⟩; have HB := hid hb; clear hb hm)
      go_ret; exact ⟨by rw [hr.out]; rfl, HB.out⟩
    · have e5 : (((nextS G.X s).kind : Int) == 5) = false := by simp; omega
      have a5 : ((nextS G.X s).kind == 5) = false := by simpa using k5
      by_cases k6 : (nextS G.X s).kind = 6
      · have e6 : (((nextS G.X s).kind : Int) == 6) = true := by rw [k6]; rfl
        have hr : Hid (startsS G.X s = true) := hid (by unfold startsS; rw [k6]; rfl); clear k4 k5 k6; go_enter Tryz.func219, Tryz.ntmps219
        go_wp2_with (go_at_call 63; refine (next_any hG h).mono ?_; rintro e w1 ⟨sg, am, nm, cm, rfl, hm, hb⟩; have HB := hid hb; clear hb hm)
        go_ret; exact ⟨by rw [hr.out]; rfl, HB.out⟩
      · have e6 : (((nextS G.X s).kind : Int) == 6) = false := by simp; omega
        have a6 : ((nextS G.X s).kind == 6) = false := by simpa using k6
        by_cases k7 : (nextS G.X s).kind = 7
        · have e7 : (((nextS G.X s).kind : Int) == 7) = true := by rw [k7]; rfl
          have hr : Hid (startsS G.X s = true) := hid (by unfold startsS; rw [k7]; rfl); clear k4 k5 k6 k7; go_enter Tryz.func219, Tryz.ntmps219
          go_wp2_with (go_at_call 63; refine (next_any hG h).mono ?_; rintro e w1 ⟨sg, am, nm, cm, rfl, hm, hb⟩; have HB := hid hb; clear hb hm)
          go_ret; exact ⟨by rw [hr.out]; rfl, HB.out⟩
        · have e7 : (((nextS G.X s).kind : Int) == 7) = false := by simp; omega
          have a7 : ((nextS G.X s).kind == 7) = false := by simpa using k7
          have HA : Hid (startsS G.X s = (operandS G.X s || seesS G.X [[40], [91], [123], [111, 112], [108, 101, 116], [35]] s)) := hid (by unfold startsS; rw [a4, a5, a6, a7]; rfl); clear k4 a4 k5 a5 k6 a6 k7 a7
          rcases ho : operandS G.X s with _ | _
          · have HO := hid ho; have HR : Hid (startsS G.X s = seesS G.X [[40], [91], [123], [111, 112], [108, 101, 116], [35]] s) := hid (by rw [HA.out, ho]; rfl); clear ho HA; go_enter Tryz.func219, Tryz.ntmps219
            go_wp2_with (first
              | (go_at_call 63; refine (next_any hG h).mono ?_; rintro e w1 ⟨sg, am, nm, cm, rfl, hm, hb⟩; have HB := hid hb; clear hb hm)
              | (go_at_call 141; refine (operand_any hG (h.new HB.out)).mono ?_; rintro e w2 ⟨rfl, hb⟩; rw [HO.out]; have HC := hid (HB.out.trans (hb.mono HB.out.size)); clear hb)
              | (go_at_call 22; refine (sees_any hG ((h.new HC.out).alloc _) w2.heap.size 6 [⟨([40] : List UInt8).toArray⟩, ⟨([91] : List UInt8).toArray⟩, ⟨([123] : List UInt8).toArray⟩, ⟨([111, 112] : List UInt8).toArray⟩, ⟨([108, 101, 116] : List UInt8).toArray⟩, ⟨([35] : List UInt8).toArray⟩] rfl (by omega) (StrB.made' _ _ [⟨([40] : List UInt8).toArray⟩, ⟨([91] : List UInt8).toArray⟩, ⟨([123] : List UInt8).toArray⟩, ⟨([111, 112] : List UInt8).toArray⟩, ⟨([108, 101, 116] : List UInt8).toArray⟩, ⟨([35] : List UInt8).toArray⟩] _ _ rfl rfl)).mono ?_; rintro e w3 ⟨rfl, hb3⟩; have HD := hid hb3; clear hb3))
            go_ret; refine ⟨by rw [HR.out]; rfl, (HC.out.alloc HC.out.size _).trans (HD.out.mono (by have := HC.out.size; simp; omega))⟩
          · have HO := hid ho; have HR : Hid (startsS G.X s = true) := hid (by rw [HA.out, ho]; rfl); clear ho HA; go_enter Tryz.func219, Tryz.ntmps219
            go_wp2_with (first
              | (go_at_call 63; refine (next_any hG h).mono ?_; rintro e w1 ⟨sg, am, nm, cm, rfl, hm, hb⟩; have HB := hid hb; clear hb hm)
              | (go_at_call 141; refine (operand_any hG (h.new HB.out)).mono ?_; rintro e w2 ⟨rfl, hb⟩; rw [HO.out]; have HC := hid (HB.out.trans (hb.mono HB.out.size)); clear hb))
            go_ret; exact ⟨by rw [HR.out]; rfl, HC.out⟩
end
section
variable {G : Gh} {na : Option Addr} {nc : Nat} {fa : Option Addr} {fc : Nat} {σ Γ : Type} {pr : Γ → σ} {Mx : Γ → Nat → Prop} {St : World → Γ → Prop}
theorem list_Pat (hG : GOk G) (hst : StOk G Mx St) (k : Nat) (fb cp : Array Value) (eg : ∀ args w, (callFunc k args).run Tryz.prog w = .ok (.enter k args) w) (by_ : List UInt8) (one : σ → PM (Nd × σ)) (hc : CloOK G na nc fa fc IsPat k fb cp one pr Mx St) (n : Nat) (w : World) (s : PSt) (g : Γ) (r : Except (Nat × Nat) ((List Nd × σ) × PSt))
    (hP : PS G (Mx g) na nc fa fc w s) (hS : St w g) (hx : list G.X n by_ one (pr g) s = some r) :
    Calls Tryz.prog 171 #[.pointer (some ⟨G.bp, 0, none⟩), .string ⟨by_.toArray⟩, .func (.func k) fb cp] w fun e w' => PostL G na nc fa fc pr Mx St w s g r e w' := by
  unfold list at hx; have hB := hP.bB
  rcases bind_cases hx with ⟨c, q, h1, rfl⟩ | ⟨⟨nd, x⟩, s1, h1, h2⟩
  · have HC := hid (hc w s g _ hP hS h1); clear hx h1 hP hS hc hst; go_enter Tryz.func171, Tryz.ntmps171
    go_wp2_with (go_at_fn k; refine HC.out.mono ?_; rintro e w1 ⟨hk, rfl⟩; unfold thrown)
    go_simp; exact ⟨rfl, hk, rfl⟩
  · have HC := hid (hc w s g _ hP hS h1); have HCl := hid hc; have HSt := hid hst; have HE := hid h2; clear hx h1 h2 hP hS hc hst; go_enter Tryz.func171, Tryz.ntmps171
    go_wp2_with (go_at_fn k; refine HC.out.mono ?_; rintro e w1 ⟨hk, hsc, hi, g1, v, rfl, hpr, hP1, hS1, hm, hn, x0, x1, x2, Vg, Vi, Vh, x4, x5, Vm, Vo, Vn, Vp, Vr, Vq, Vs, Vu, Vt, rfl, hrep⟩; have HQ := hid (And.intro hk (And.intro hsc (And.intro hi (And.intro hpr (And.intro hP1 (And.intro hS1 (And.intro hm hn))))))); have HR := hid (hrep); clear hk hsc hi hpr hP1 hS1 hm hn)
    have R0 : LRel G na nc fa fc pr Mx St 9 w s g (w1.alloc (.cells #[.int .i64 x0, .string x1, .bool x2, .slice Vg Vi Vh, .int .i64 x4, .string x5, .slice Vm Vo Vn, .slice Vp Vr Vq, .slice Vs Vu Vt] 82)) s1 g1 [nd] w1.heap.size 1 := by
      obtain ⟨hk, hsc, hi, hpr, hP1, hS1, hm, hn⟩ := HQ.out; have hM := fun j hj => (hP1.mB j hj).2; have ba := below_alloc w1 (.cells #[.int .i64 x0, .string x1, .bool x2, .slice Vg Vi Vh, .int .i64 x4, .string x5, .slice Vm Vo Vn, .slice Vp Vr Vq, .slice Vs Vu Vt] 82); refine ⟨hsc, hi, by simp, hP1.alloc _, HSt.out _ _ _ hS1 (fun j hj _ => ba.block j (hM j hj)), hm, hn, fun h => by have := hM _ h; omega, ?_, hk.low ba (by have := hP1.bB; omega) hk.size⟩; refine LsA.one (cs := [.int .i64 x0, .string x1, .bool x2, .slice Vg Vi Vh, .int .i64 x4, .string x5, .slice Vm Vo Vn, .slice Vp Vr Vq, .slice Vs Vu Vt]) hk.size (by simp) (fun h => h.elim (fun h => by have := hP1.bB; omega) (fun h => h.2.2.2 rfl)) (fun j hj => ?_) (fun j _ => World.frozen?_alloc_new _ _ _ _) (RepR.on HR.out (Kb.of ba fun b hb => ?_) (fun b hb => ?_))
      · rw [World.cell?_alloc_new]; simp
      · rcases hb with hb | ⟨_, hb, _⟩
        · have := hP1.bB; omega
        · exact hb
      · rcases hb with hb | ⟨h1, h2, h3⟩
        · exact .inl hb
        · exact .inr ⟨h1, by simp; omega, h3, by omega⟩
    generalize w1.alloc (.cells #[.int .i64 x0, .string x1, .bool x2, .slice Vg Vi Vh, .int .i64 x4, .string x5, .slice Vm Vo Vn, .slice Vp Vr Vq, .slice Vs Vu Vt] 82) = W2 at R0 ⊢; have HR0 := hid R0; have HE2 : Hid (listL G.X by_ one n [nd] (pr g1) s1 = some r) := hid (by have h := HE.out; have e := HQ.out.2.2.2.1; rw [e]; exact h); clear R0 HE HC HQ HR
    go_loopg [7] n (fun gk lv wr => ∃ s1 g1 acc A c, lv = .slice (some ⟨A, 0, none⟩) acc.length c ∧ Hid (listL G.X by_ one gk acc (pr g1) s1 = some r) ∧ Hid (LRel G na nc fa fc pr Mx St 9 w s g wr s1 g1 acc A c))
    case atStart => exact ⟨s1, g1, [nd], w1.heap.size, 1, rfl, HE2, HR0⟩
    case round =>
      clear HE2 HR0; obtain ⟨s2, g2, acc, A, c, rfl, HL, HR⟩ := hrel; cases gk with
      | zero => exact absurd HL.out (by rw [listL_zero]; simp)
      | succ m =>
      have hP2 : PS G (Mx g2) na nc fa fc wr s2 := HR.out.2.2.2.1; have hS2 : St wr g2 := HR.out.2.2.2.2.1
      by_cases hs : seesS G.X [by_] s2 = true
      · have hl := HL.out; rw [listL_yes hs] at hl; have HS := hid hs
        rcases bind_cases hl with ⟨c1, q1, h1, rfl⟩ | ⟨⟨nd2, x2⟩, s3, h1, h2⟩
        · have H1 := hid h1; have HP2 := hid (And.intro hP2 hS2); clear hl h1 hs HL hP2 hS2
          go_wp2_with (first
            | (go_at_call 21; refine (takes_yes hG HP2.out.1 by_ HS.out).mono ?_; rintro e w3 ⟨rfl, hp3, hk3⟩; have HC3 := hid (HCl.out w3 _ g2 _ hp3 (HSt.out _ _ _ HP2.out.2 (fun j hj hn => hk3.blk j (HP2.out.1.mB j hj).2 hn)) H1.out); have HK3 := hid hk3; clear hp3 hk3)
            | (go_at_fn k; refine HC3.out.mono ?_; rintro e w4 ⟨hk4, rfl⟩; have HK4 := hid hk4; clear hk4; unfold thrown))
          go_simp; exact ⟨rfl, HR.out.kn HK3.out HK4.out, rfl⟩
        · have H1 := hid h1; have H2 := hid h2; have HP2 := hid (And.intro hP2 hS2); clear hl h1 h2 hs HL hP2 hS2
          go_wp2_with (first
            | (go_at_call 21; refine (takes_yes hG HP2.out.1 by_ HS.out).mono ?_; rintro e w3 ⟨rfl, hp3, hk3⟩; have HC3 := hid (HCl.out w3 _ g2 _ hp3 (HSt.out _ _ _ HP2.out.2 (fun j hj hn => hk3.blk j (HP2.out.1.mB j hj).2 hn)) H1.out); have HK3 := hid hk3; clear hp3 hk3)
            | (go_at_fn k; refine HC3.out.mono ?_; rintro e w4 ⟨hk4, hsc, hi, g3, v, rfl, hpr, hP3, hS3, hm, hn, x0, x1, x2, Vg, Vi, Vh, x4, x5, Vm, Vo, Vn, Vp, Vr, Vq, Vs, Vu, Vt, rfl, hrep⟩; obtain ⟨hh, la, lN, lB, lc, lK⟩ := HR.out.round (cs := #[.int .i64 x0, .string x1, .bool x2, .slice Vg Vi Vh, .int .i64 x4, .string x5, .slice Vm Vo Vn, .slice Vp Vr Vq, .slice Vs Vu Vt]) (T := 82) (z := zPat) hG HSt.out hB HK3.out hk4 hsc hi hP3 hS3 hm hn (hrep) rfl (by omega); have HN := hid (And.intro la (And.intro lN (And.intro lB lK))); have HPR := hid hpr; clear hk4 hsc hi hpr hP3 hS3 hm hn la lN lB lK hrep)
            | (at_builtin; refine wpList_append_q _ rfl _ _ 34 34 rfl 82 82 zPat 9 152 Tryz.underlying34 Tryz.underlying34 Tryz.info82 rfl (by omega) w.heap.size HN.out.2.2.1 (some ⟨A, 0, none⟩) acc.length c hh (cellAt #[.int .i64 x0, .string x1, .bool x2, .slice Vg Vi Vh, .int .i64 x4, .string x5, .slice Vm Vo Vn, .slice Vp Vr Vq, .slice Vs Vu Vt]) w4.heap.size 0 1 rfl rfl HN.out.1 HN.out.2.1 ?hg ?hone (by omega) (by omega) ?_))
          case hg => exact new_cells w4 #[.int .i64 x0, .string x1, .bool x2, .slice Vg Vi Vh, .int .i64 x4, .string x5, .slice Vm Vo Vn, .slice Vp Vr Vq, .slice Vs Vu Vt] 82
          case hone =>
            intro j hj
            match j, hj with
            | 0, _ => rfl
            | 1, _ => rfl
            | 2, _ => rfl
            | 3, _ => rfl
            | 4, _ => rfl
            | 5, _ => rfl
            | 6, _ => rfl
            | 7, _ => rfl
            | 8, _ => rfl
          intro a' c' rr w5 hcase A5 N5 b5 kq; obtain ⟨A', rfl, hR5⟩ := HN.out.2.2.2 a' c' rr w5 (by rw [World.size_alloc]; exact hcase) A5 N5 b5 kq; have HR5 := hid hR5; clear hR5 hcase A5 N5 b5 kq
          go_wp2_with fail
          go_roundg m
          case measure => omega
          case rel => exact ⟨s3, g3, acc ++ [nd2], A', c', by rw [List.length_append]; rfl, hid (by rw [HPR.out]; exact H2.out), HR5⟩
      · have hl := HL.out; rw [listL_no hs] at hl; obtain rfl := Option.some.inj hl; have HS := hid hs; have HP2 := hid hP2; clear hl hs HL hP2 hS2
        go_wp2_with (go_at_call 21; refine (takes_no hG HP2.out by_ HS.out).mono ?_; rintro e w3 ⟨rfl, hb3⟩; have HB3 := hid hb3; clear hb3)
        go_ret; exact LRel.fin HSt.out HR.out HB3.out
end
section
open Go Go.RowKit
end
section
variable {G : Gh} {na : Option Addr} {nc : Nat} {fa : Option Addr} {fc : Nat} {σ Γ : Type} {pr : Γ → σ} {Mx : Γ → Nat → Prop} {St : World → Γ → Prop}
theorem upTo_Pat (hG : GOk G) (hst : StOk G Mx St) (k : Nat) (fb cp : Array Value) (eg : ∀ args w, (callFunc k args).run Tryz.prog w = .ok (.enter k args) w) (fin : List UInt8) (one : σ → PM (Nd × σ)) (hc : CloOK G na nc fa fc IsPat k fb cp one pr Mx St) (n : Nat) (w : World) (s : PSt) (g : Γ) (r : Except (Nat × Nat) ((List Nd × σ) × PSt))
    (hP : PS G (Mx g) na nc fa fc w s) (hS : St w g) (hx : upTo G.X n fin one (pr g) s = some r) :
    Calls Tryz.prog 143 #[.pointer (some ⟨G.bp, 0, none⟩), .string ⟨fin.toArray⟩, .func (.func k) fb cp] w fun e w' => PostL G na nc fa fc pr Mx St w s g r e w' := by
  have hB := hP.bB; have hbp := hP.mp; have HP := hid (And.intro hP hS); have HCl := hid hc; have HSt := hid hst
  by_cases hs : seesS G.X [fin] s = true
  · rw [upTo_yes hs] at hx; obtain rfl := Option.some.inj hx; have HS := hid hs; clear hx hs hP hS hc hst; go_enter Tryz.func143, Tryz.ntmps143
    go_wp2_with (go_at_call 21; refine (takes_yes hG HP.out.1 fin HS.out).mono ?_; rintro e w3 ⟨rfl, hp3, hk3⟩; have H3 := hid (And.intro hp3 hk3); clear hp3 hk3)
    go_ret; exact ⟨H3.out.2.jp hbp, rfl, Nat.le_succ _, g, _, rfl, rfl, H3.out.1, HSt.out _ _ _ HP.out.2 (fun j hj hn => H3.out.2.blk j (HP.out.1.mB j hj).2 hn), fun _ h => h, fun _ h => .inl h, none, 0, rfl, repNil⟩
  · rw [upTo_no hs] at hx; have HS := hid hs
    rcases bind_cases hx with ⟨c, q, h1, rfl⟩ | ⟨⟨l, x⟩, s1, h1, h2⟩
    · have H1 := hid h1; clear hx h1 hs hP hS hc hst; go_enter Tryz.func143, Tryz.ntmps143
      go_wp2_with (first
        | (go_at_call 21; refine (takes_no hG HP.out.1 fin HS.out).mono ?_; rintro e w3 ⟨rfl, hb3⟩; have HB3 := hid hb3; clear hb3)
        | (go_at_call 171; refine (list_Pat hG HSt.out k fb cp eg [44] one HCl.out n w3 s g _ (HP.out.1.new HB3.out) (HSt.out _ _ _ HP.out.2 (fun j hj _ => HB3.out.block j (HP.out.1.mB j hj).2)) H1.out).mono ?_; rintro e w4 ⟨hk4, rfl⟩; have HK4 := hid hk4; clear hk4; unfold thrown))
      go_simp; exact ⟨rfl, (Kn.of HB3.out hB).go HK4.out, rfl⟩
    · have H1 := hid h1
      by_cases hs2 : seesS G.X [fin] s1 = true
      · obtain rfl : r = .ok ((l, x), { s1 with i := s1.i + 1 }) := by
          have h2 : (needs G.X fin >>= fun _ => pure (l, x) : PM (List Nd × σ)) s1 = some r := h2; rw [needs_bind hs2] at h2; exact pure_inv h2
        have HS2 := hid hs2; clear hx h1 h2 hs hs2 hP hS hc hst; go_enter Tryz.func143, Tryz.ntmps143
        go_wp2_with (first
          | (go_at_call 21; refine (takes_no hG HP.out.1 fin HS.out).mono ?_; rintro e w3 ⟨rfl, hb3⟩; have HB3 := hid hb3; clear hb3)
          | (go_at_call 171; refine (list_Pat hG HSt.out k fb cp eg [44] one HCl.out n w3 s g _ (HP.out.1.new HB3.out) (HSt.out _ _ _ HP.out.2 (fun j hj _ => HB3.out.block j (HP.out.1.mB j hj).2)) H1.out).mono ?_; rintro e w4 ⟨hk4, hsc, hi, g4, v, rfl, hpr, hP4, hS4, hm, hn, a4, c4, rfl, hrep⟩; have HQ := hid (And.intro hk4 (And.intro hsc (And.intro hi (And.intro hpr (And.intro hP4 (And.intro hS4 (And.intro hm (And.intro hn hrep)))))))); clear hk4 hsc hi hpr hP4 hS4 hm hn hrep)
          | (go_at_call 66; refine (needs_yes hG HQ.out.2.2.2.2.1 fin HS2.out).mono ?_; rintro e w5 ⟨rfl, hp5, hk5⟩; have H5 := hid (And.intro hp5 hk5); clear hp5 hk5))
        go_ret; obtain ⟨hk4, hsc, hi, hpr, hP4, hS4, hm, hn, hrep⟩ := HQ.out; have hb3 := HB3.out; have e4 := hk4.size; have e5 := H5.out.2.size; have e3 := hb3.size; refine ⟨((Kn.of hb3 hB).go hk4).go (H5.out.2.jp hbp), hsc, by simp only; omega, g4, _, rfl, hpr, H5.out.1, HSt.out _ _ _ hS4 (fun j hj hne => H5.out.2.blk j (hP4.mB j hj).2 hne), hm, fun j hj => (hn j hj).imp id (fun q => by omega), a4, c4, rfl, ?_⟩; refine hrep.on (fun b hb => ?_) (fun b hb => hb.imp id (fun q => ⟨by omega, by omega, q.2.2⟩))
        rcases hb with q | ⟨q1, q2, q3⟩
        · exact H5.out.2.bel.block b q
        · exact H5.out.2.blk b q2 (fun e => q3 (by rw [show b = G.bp from e]; exact hm _ hbp))
      · obtain rfl : r = .error (wrongE G.X s1) := by
          have h2 : (needs G.X fin >>= fun _ => pure (l, x) : PM (List Nd × σ)) s1 = some r := h2; rw [needs_bind_no hs2] at h2; exact (Option.some.inj h2).symm
        have HS2 := hid hs2; clear hx h1 h2 hs hs2 hP hS hc hst; go_enter Tryz.func143, Tryz.ntmps143
        go_wp2_with (first
          | (go_at_call 21; refine (takes_no hG HP.out.1 fin HS.out).mono ?_; rintro e w3 ⟨rfl, hb3⟩; have HB3 := hid hb3; clear hb3)
          | (go_at_call 171; refine (list_Pat hG HSt.out k fb cp eg [44] one HCl.out n w3 s g _ (HP.out.1.new HB3.out) (HSt.out _ _ _ HP.out.2 (fun j hj _ => HB3.out.block j (HP.out.1.mB j hj).2)) H1.out).mono ?_; rintro e w4 ⟨hk4, hsc, hi, g4, v, rfl, hpr, hP4, hS4, hm, hn, a4, c4, rfl, hrep⟩; have HQ := hid (And.intro hk4 hP4); clear hk4 hsc hi hpr hP4 hS4 hm hn hrep)
          | (go_at_call 66; refine (needs_no hG HQ.out.2 fin HS2.out).mono ?_; rintro e w5 ⟨rfl, hb5⟩; have HB5 := hid hb5; clear hb5; unfold thrown))
        go_simp; exact ⟨rfl, ((Kn.of HB3.out hB).go HQ.out.1).low HB5.out (by have := HQ.out.2.bB; omega) (by have := HQ.out.1.size; have := HB3.out.size; omega), rfl⟩
end
def deL (one : Nd → Option Nat) : List Nd → Nat → Option Nat
  | [], n => some n
  | x :: r, n => match one x with
    | some k => deL one r (max n k)
    | none => none
def depP : Nat → Nd → Option Nat
  | 0, _ => none
  | n + 1, nd => match nd with
    | [.v (.int .i64 p0), .v (.string p1), .big p2, .v (.int .i64 p3), .v (.string p4), .sl p5, .sl kids, .sl []] => (deL (depP n) kids 0).map (1 + ·)
    | _ => none
def depE : Nat → Nd → Option Nat
  | 0, _ => none
  | n + 1, nd => match nd with
    | [.v (.int .i64 p0), .v (.string p1), .big p2, .v (.int .i64 p3), .v (.int .u64 p4), .v (.string p5), .sl p6, .sl kids, .sl [], .sl [], .sl []] => (deL (depE n) kids 0).map (1 + ·)
    | _ => none
def depC (n : Nat) (nd : Nd) : Option Nat := match nd with
  | .sl pats :: e => match deL (depP n) pats 0, depE n e with
    | some a, some b => some (max a b)
    | _, _ => none
  | _ => none
def depF (n : Nat) (nd : Nd) : Option Nat := match nd with
  | [.v (.string p0), .v (.int .i64 p1), .sl cl] => deL (depC n) cl 0
  | _ => none
def depD (n : Nat) (nd : Nd) : Option Nat := match nd with
  | [.v (.int .i64 p0), .v (.string p1), .sl p2, .v (.int .i64 p3), .v (.bool p4), .v (.bool p5), .sl pats, .sl exps, .sl funs, .sl [], .sl [], .sl [], .sl [], .sl []] => match deL (depP n) pats 0, deL (depE n) exps 0, deL (depF n) funs 0 with
    | some a, some b, some c => some (1 + max (max a b) c)
    | _, _, _ => none
  | _ => none
theorem deL_cons {one : Nd → Option Nat} {x : Nd} {r : List Nd} {n m : Nat} (h : deL one (x :: r) n = some m) : ∃ k, one x = some k ∧ deL one r (max n k) = some m := by
  unfold deL at h
  split at h
  · rename_i k e; exact ⟨k, e, h⟩
  · cases h
theorem deL_ge {one : Nd → Option Nat} : ∀ {l : List Nd} {n m : Nat}, deL one l n = some m → n ≤ m
  | [], n, m, h => by unfold deL at h; exact Nat.le_of_eq (Option.some.inj h)
  | x :: r, n, m, h => by
    obtain ⟨k, _, h2⟩ := deL_cons h; have := deL_ge h2; omega
theorem deL_all {one : Nd → Option Nat} : ∀ {l : List Nd} {n m : Nat}, deL one l n = some m → ∀ x ∈ l, ∃ k, one x = some k
  | [], n, m, h, x, hx => by cases hx
  | y :: r, n, m, h, x, hx => by
    obtain ⟨k, e, h2⟩ := deL_cons h
    rcases List.mem_cons.1 hx with rfl | hx
    · exact ⟨k, e⟩
    · exact deL_all h2 x hx
theorem deL_at {one : Nd → Option Nat} {l : List Nd} {i n m : Nat} (hi : i < l.length) (h : deL one (l.drop i) n = some m) : ∃ nd k, l[i]? = some nd ∧ one nd = some k ∧ deL one (l.drop (i + 1)) (max n k) = some m ∧ k ≤ m := by
  rw [List.drop_eq_getElem_cons hi] at h; obtain ⟨k, e, h2⟩ := deL_cons h; have := deL_ge h2; exact ⟨l[i], k, List.getElem?_eq_getElem hi, e, h2, by omega⟩
theorem depP_inv {n : Nat} {nd : Nd} {d : Nat} (h : depP (n + 1) nd = some d) : ∃ p0 p1 p2 p3 p4 p5 kids k, nd = [.v (.int .i64 p0), .v (.string p1), .big p2, .v (.int .i64 p3), .v (.string p4), .sl p5, .sl kids, .sl []] ∧ deL (depP n) kids 0 = some k ∧ d = 1 + k := by
  unfold depP at h
  split at h
  · obtain ⟨k, h1, h2⟩ := Option.map_eq_some_iff.1 h; exact ⟨_, _, _, _, _, _, _, k, rfl, h1, h2.symm⟩
  · cases h
theorem depE_inv {n : Nat} {nd : Nd} {d : Nat} (h : depE (n + 1) nd = some d) : ∃ p0 p1 p2 p3 p4 p5 p6 kids k, nd = [.v (.int .i64 p0), .v (.string p1), .big p2, .v (.int .i64 p3), .v (.int .u64 p4), .v (.string p5), .sl p6, .sl kids, .sl [], .sl [], .sl []] ∧ deL (depE n) kids 0 = some k ∧ d = 1 + k := by
  unfold depE at h
  split at h
  · obtain ⟨k, h1, h2⟩ := Option.map_eq_some_iff.1 h; exact ⟨_, _, _, _, _, _, _, _, k, rfl, h1, h2.symm⟩
  · cases h
theorem depC_inv {n : Nat} {nd : Nd} {d : Nat} (h : depC n nd = some d) : ∃ pats e a b, nd = .sl pats :: e ∧ deL (depP n) pats 0 = some a ∧ depE n e = some b ∧ d = max a b := by
  unfold depC at h
  split at h
  · rename_i pats e
    split at h
    · rename_i a b h1 h2; exact ⟨pats, e, a, b, rfl, h1, h2, (Option.some.inj h).symm⟩
    · cases h
  · cases h
theorem depF_inv {n : Nat} {nd : Nd} {d : Nat} (h : depF n nd = some d) : ∃ p0 p1 cl, nd = [.v (.string p0), .v (.int .i64 p1), .sl cl] ∧ deL (depC n) cl 0 = some d := by
  unfold depF at h
  split at h
  · exact ⟨_, _, _, rfl, h⟩
  · cases h
theorem depD_inv {n : Nat} {nd : Nd} {d : Nat} (h : depD n nd = some d) : ∃ p0 p1 p2 p3 p4 p5 pats exps funs a b c, nd = [.v (.int .i64 p0), .v (.string p1), .sl p2, .v (.int .i64 p3), .v (.bool p4), .v (.bool p5), .sl pats, .sl exps, .sl funs, .sl [], .sl [], .sl [], .sl [], .sl []] ∧ deL (depP n) pats 0 = some a ∧ deL (depE n) exps 0 = some b ∧ deL (depF n) funs 0 = some c ∧ d = 1 + max (max a b) c := by
  unfold depD at h
  split at h
  · split at h
    · rename_i a b c h1 h2 h3; exact ⟨_, _, _, _, _, _, _, _, _, a, b, c, rfl, h1, h2, h3, (Option.some.inj h).symm⟩
    · cases h
  · cases h
/-! ### Fields, one by one -/
theorem RepR.v {w : World} {F : Nat → Prop} {x : Value} {r : List Tr} {cs : List Value} (h : RepR w F (.v x :: r) cs) : ∃ ds, cs = x :: ds ∧ RepR w F r ds := by
  unfold RepR at h; obtain ⟨c1, c2, rfl, h1, h2⟩ := h; unfold RepT at h1; exact ⟨c2, by rw [h1]; rfl, h2⟩
theorem RepR.bg {w : World} {F : Nat → Prop} {z : Int} {r : List Tr} {cs : List Value} (h : RepR w F (.big z :: r) cs) : ∃ sg a n c ds, cs = .bool sg :: .slice a n c :: ds ∧ RepR w F r ds := by
  unfold RepR at h; obtain ⟨c1, c2, rfl, h1, h2⟩ := h; unfold RepT at h1; obtain ⟨sg, a, n, c, f, e, _⟩ := h1; exact ⟨sg, a, n, c, c2, by rw [e]; rfl, h2⟩
theorem RepR.ls {w : World} {F : Nat → Prop} {es : List Nd} {r : List Tr} {cs : List Value} (h : RepR w F (.sl es :: r) cs) : ∃ a c ds, cs = .slice a es.length c :: ds ∧ RepR w F r ds ∧ IsSl w F es (.slice a es.length c) := by
  unfold RepR at h; obtain ⟨c1, c2, rfl, h1, h2⟩ := h; have h3 := h1; unfold RepT at h1; obtain ⟨a, c, e, _⟩ := h1; subst e; exact ⟨a, c, c2, rfl, h2, a, c, rfl, h3⟩
theorem RepR.nl {w : World} {F : Nat → Prop} {cs : List Value} (h : RepR w F [] cs) : cs = [] := by unfold RepR at h; exact h
theorem sh_Pat {w : World} {F : Nat → Prop} {p0 : Int} {p1 : ByteArray} {p2 : Int} {p3 : Int} {p4 : ByteArray} {p5 : List Nd} {p6 : List Nd} {p7 : List Nd} {cs : List Value} (h : RepR w F [.v (.int .i64 p0), .v (.string p1), .big p2, .v (.int .i64 p3), .v (.string p4), .sl p5, .sl p6, .sl p7] cs) : ∃ (s2 : Bool) (a2 : Option Addr) (n2 c2 : Nat) (a5 : Option Addr) (c5 : Nat) (a6 : Option Addr) (c6 : Nat) (a7 : Option Addr) (c7 : Nat), cs = [.int .i64 p0, .string p1, .bool s2, .slice a2 n2 c2, .int .i64 p3, .string p4, .slice a5 p5.length c5, .slice a6 p6.length c6, .slice a7 p7.length c7] ∧ IsSl w F p5 (.slice a5 p5.length c5) ∧ IsSl w F p6 (.slice a6 p6.length c6) ∧ IsSl w F p7 (.slice a7 p7.length c7) := by
  have h0 := h; clear h; obtain ⟨d0, e0, h1⟩ := h0.v; obtain ⟨d1, e1, h2⟩ := h1.v; obtain ⟨s2, a2, n2, c2, d2, e2, h3⟩ := h2.bg; obtain ⟨d3, e3, h4⟩ := h3.v; obtain ⟨d4, e4, h5⟩ := h4.v; obtain ⟨a5, c5, d5, e5, h6, l5⟩ := h5.ls; obtain ⟨a6, c6, d6, e6, h7, l6⟩ := h6.ls; obtain ⟨a7, c7, d7, e7, h8, l7⟩ := h7.ls; have e8 := h8.nl; rw [e0, e1, e2, e3, e4, e5, e6, e7, e8]; exact ⟨s2, a2, n2, c2, a5, c5, a6, c6, a7, c7, rfl, l5, l6, l7⟩
theorem is_Pat {w : World} {F : Nat → Prop} {p0 : Int} {p1 : ByteArray} {p2 : Int} {p3 : Int} {p4 : ByteArray} {p5 : List Nd} {p6 : List Nd} {p7 : List Nd} {cs : List Value} (h : RepR w F [.v (.int .i64 p0), .v (.string p1), .big p2, .v (.int .i64 p3), .v (.string p4), .sl p5, .sl p6, .sl p7] cs) : IsPat w F [.v (.int .i64 p0), .v (.string p1), .big p2, .v (.int .i64 p3), .v (.string p4), .sl p5, .sl p6, .sl p7] (.agg cs.toArray) := by
  obtain ⟨s2, a2, n2, c2, a5, c5, a6, c6, a7, c7, rfl, _, _, _⟩ := sh_Pat h; exact ⟨p0, p1, s2, a2, n2, c2, p3, p4, a5, p5.length, c5, a6, p6.length, c6, a7, p7.length, c7, rfl, h⟩
theorem sh_Exp {w : World} {F : Nat → Prop} {p0 : Int} {p1 : ByteArray} {p2 : Int} {p3 : Int} {p4 : Int} {p5 : ByteArray} {p6 : List Nd} {p7 : List Nd} {p8 : List Nd} {p9 : List Nd} {p10 : List Nd} {cs : List Value} (h : RepR w F [.v (.int .i64 p0), .v (.string p1), .big p2, .v (.int .i64 p3), .v (.int .u64 p4), .v (.string p5), .sl p6, .sl p7, .sl p8, .sl p9, .sl p10] cs) : ∃ (s2 : Bool) (a2 : Option Addr) (n2 c2 : Nat) (a6 : Option Addr) (c6 : Nat) (a7 : Option Addr) (c7 : Nat) (a8 : Option Addr) (c8 : Nat) (a9 : Option Addr) (c9 : Nat) (a10 : Option Addr) (c10 : Nat), cs = [.int .i64 p0, .string p1, .bool s2, .slice a2 n2 c2, .int .i64 p3, .int .u64 p4, .string p5, .slice a6 p6.length c6, .slice a7 p7.length c7, .slice a8 p8.length c8, .slice a9 p9.length c9, .slice a10 p10.length c10] ∧ IsSl w F p6 (.slice a6 p6.length c6) ∧ IsSl w F p7 (.slice a7 p7.length c7) ∧ IsSl w F p8 (.slice a8 p8.length c8) ∧ IsSl w F p9 (.slice a9 p9.length c9) ∧ IsSl w F p10 (.slice a10 p10.length c10) := by
  have h0 := h; clear h; obtain ⟨d0, e0, h1⟩ := h0.v; obtain ⟨d1, e1, h2⟩ := h1.v; obtain ⟨s2, a2, n2, c2, d2, e2, h3⟩ := h2.bg; obtain ⟨d3, e3, h4⟩ := h3.v; obtain ⟨d4, e4, h5⟩ := h4.v; obtain ⟨d5, e5, h6⟩ := h5.v; obtain ⟨a6, c6, d6, e6, h7, l6⟩ := h6.ls; obtain ⟨a7, c7, d7, e7, h8, l7⟩ := h7.ls; obtain ⟨a8, c8, d8, e8, h9, l8⟩ := h8.ls; obtain ⟨a9, c9, d9, e9, h10, l9⟩ := h9.ls; obtain ⟨a10, c10, d10, e10, h11, l10⟩ := h10.ls; have e11 := h11.nl; rw [e0, e1, e2, e3, e4, e5, e6, e7, e8, e9, e10, e11]; exact ⟨s2, a2, n2, c2, a6, c6, a7, c7, a8, c8, a9, c9, a10, c10, rfl, l6, l7, l8, l9, l10⟩
theorem is_Exp {w : World} {F : Nat → Prop} {p0 : Int} {p1 : ByteArray} {p2 : Int} {p3 : Int} {p4 : Int} {p5 : ByteArray} {p6 : List Nd} {p7 : List Nd} {p8 : List Nd} {p9 : List Nd} {p10 : List Nd} {cs : List Value} (h : RepR w F [.v (.int .i64 p0), .v (.string p1), .big p2, .v (.int .i64 p3), .v (.int .u64 p4), .v (.string p5), .sl p6, .sl p7, .sl p8, .sl p9, .sl p10] cs) : IsExp w F [.v (.int .i64 p0), .v (.string p1), .big p2, .v (.int .i64 p3), .v (.int .u64 p4), .v (.string p5), .sl p6, .sl p7, .sl p8, .sl p9, .sl p10] (.agg cs.toArray) := by
  obtain ⟨s2, a2, n2, c2, a6, c6, a7, c7, a8, c8, a9, c9, a10, c10, rfl, _, _, _, _, _⟩ := sh_Exp h; exact ⟨p0, p1, s2, a2, n2, c2, p3, p4, p5, a6, p6.length, c6, a7, p7.length, c7, a8, p8.length, c8, a9, p9.length, c9, a10, p10.length, c10, rfl, h⟩
theorem sh_Clause {w : World} {F : Nat → Prop} {p0 : List Nd} {p1 : Int} {p2 : ByteArray} {p3 : Int} {p4 : Int} {p5 : Int} {p6 : ByteArray} {p7 : List Nd} {p8 : List Nd} {p9 : List Nd} {p10 : List Nd} {p11 : List Nd} {cs : List Value} (h : RepR w F [.sl p0, .v (.int .i64 p1), .v (.string p2), .big p3, .v (.int .i64 p4), .v (.int .u64 p5), .v (.string p6), .sl p7, .sl p8, .sl p9, .sl p10, .sl p11] cs) : ∃ (a0 : Option Addr) (c0 : Nat) (s3 : Bool) (a3 : Option Addr) (n3 c3 : Nat) (a7 : Option Addr) (c7 : Nat) (a8 : Option Addr) (c8 : Nat) (a9 : Option Addr) (c9 : Nat) (a10 : Option Addr) (c10 : Nat) (a11 : Option Addr) (c11 : Nat), cs = [.slice a0 p0.length c0, .int .i64 p1, .string p2, .bool s3, .slice a3 n3 c3, .int .i64 p4, .int .u64 p5, .string p6, .slice a7 p7.length c7, .slice a8 p8.length c8, .slice a9 p9.length c9, .slice a10 p10.length c10, .slice a11 p11.length c11] ∧ IsSl w F p0 (.slice a0 p0.length c0) ∧ IsSl w F p7 (.slice a7 p7.length c7) ∧ IsSl w F p8 (.slice a8 p8.length c8) ∧ IsSl w F p9 (.slice a9 p9.length c9) ∧ IsSl w F p10 (.slice a10 p10.length c10) ∧ IsSl w F p11 (.slice a11 p11.length c11) := by
  have h0 := h; clear h; obtain ⟨a0, c0, d0, e0, h1, l0⟩ := h0.ls; obtain ⟨d1, e1, h2⟩ := h1.v; obtain ⟨d2, e2, h3⟩ := h2.v; obtain ⟨s3, a3, n3, c3, d3, e3, h4⟩ := h3.bg; obtain ⟨d4, e4, h5⟩ := h4.v; obtain ⟨d5, e5, h6⟩ := h5.v; obtain ⟨d6, e6, h7⟩ := h6.v; obtain ⟨a7, c7, d7, e7, h8, l7⟩ := h7.ls; obtain ⟨a8, c8, d8, e8, h9, l8⟩ := h8.ls; obtain ⟨a9, c9, d9, e9, h10, l9⟩ := h9.ls; obtain ⟨a10, c10, d10, e10, h11, l10⟩ := h10.ls; obtain ⟨a11, c11, d11, e11, h12, l11⟩ := h11.ls; have e12 := h12.nl; rw [e0, e1, e2, e3, e4, e5, e6, e7, e8, e9, e10, e11, e12]; exact ⟨a0, c0, s3, a3, n3, c3, a7, c7, a8, c8, a9, c9, a10, c10, a11, c11, rfl, l0, l7, l8, l9, l10, l11⟩
theorem is_Clause {w : World} {F : Nat → Prop} {p0 : List Nd} {p1 : Int} {p2 : ByteArray} {p3 : Int} {p4 : Int} {p5 : Int} {p6 : ByteArray} {p7 : List Nd} {p8 : List Nd} {p9 : List Nd} {p10 : List Nd} {p11 : List Nd} {cs : List Value} (h : RepR w F [.sl p0, .v (.int .i64 p1), .v (.string p2), .big p3, .v (.int .i64 p4), .v (.int .u64 p5), .v (.string p6), .sl p7, .sl p8, .sl p9, .sl p10, .sl p11] cs) : IsClause w F [.sl p0, .v (.int .i64 p1), .v (.string p2), .big p3, .v (.int .i64 p4), .v (.int .u64 p5), .v (.string p6), .sl p7, .sl p8, .sl p9, .sl p10, .sl p11] (.agg cs.toArray) := by
  obtain ⟨a0, c0, s3, a3, n3, c3, a7, c7, a8, c8, a9, c9, a10, c10, a11, c11, rfl, _, _, _, _, _, _⟩ := sh_Clause h; exact ⟨a0, p0.length, c0, p1, p2, s3, a3, n3, c3, p4, p5, p6, a7, p7.length, c7, a8, p8.length, c8, a9, p9.length, c9, a10, p10.length, c10, a11, p11.length, c11, rfl, h⟩
theorem sh_Fun {w : World} {F : Nat → Prop} {p0 : ByteArray} {p1 : Int} {p2 : List Nd} {cs : List Value} (h : RepR w F [.v (.string p0), .v (.int .i64 p1), .sl p2] cs) : ∃ (a2 : Option Addr) (c2 : Nat), cs = [.string p0, .int .i64 p1, .slice a2 p2.length c2] ∧ IsSl w F p2 (.slice a2 p2.length c2) := by
  have h0 := h; clear h; obtain ⟨d0, e0, h1⟩ := h0.v; obtain ⟨d1, e1, h2⟩ := h1.v; obtain ⟨a2, c2, d2, e2, h3, l2⟩ := h2.ls; have e3 := h3.nl; rw [e0, e1, e2, e3]; exact ⟨a2, c2, rfl, l2⟩
theorem is_Fun {w : World} {F : Nat → Prop} {p0 : ByteArray} {p1 : Int} {p2 : List Nd} {cs : List Value} (h : RepR w F [.v (.string p0), .v (.int .i64 p1), .sl p2] cs) : IsFun w F [.v (.string p0), .v (.int .i64 p1), .sl p2] (.agg cs.toArray) := by
  obtain ⟨a2, c2, rfl, _⟩ := sh_Fun h; exact ⟨p0, p1, a2, p2.length, c2, rfl, h⟩
theorem sh_Dec {w : World} {F : Nat → Prop} {p0 : Int} {p1 : ByteArray} {p2 : List Nd} {p3 : Int} {p4 : Bool} {p5 : Bool} {p6 : List Nd} {p7 : List Nd} {p8 : List Nd} {p9 : List Nd} {p10 : List Nd} {p11 : List Nd} {p12 : List Nd} {p13 : List Nd} {cs : List Value} (h : RepR w F [.v (.int .i64 p0), .v (.string p1), .sl p2, .v (.int .i64 p3), .v (.bool p4), .v (.bool p5), .sl p6, .sl p7, .sl p8, .sl p9, .sl p10, .sl p11, .sl p12, .sl p13] cs) : ∃ (a2 : Option Addr) (c2 : Nat) (a6 : Option Addr) (c6 : Nat) (a7 : Option Addr) (c7 : Nat) (a8 : Option Addr) (c8 : Nat) (a9 : Option Addr) (c9 : Nat) (a10 : Option Addr) (c10 : Nat) (a11 : Option Addr) (c11 : Nat) (a12 : Option Addr) (c12 : Nat) (a13 : Option Addr) (c13 : Nat), cs = [.int .i64 p0, .string p1, .slice a2 p2.length c2, .int .i64 p3, .bool p4, .bool p5, .slice a6 p6.length c6, .slice a7 p7.length c7, .slice a8 p8.length c8, .slice a9 p9.length c9, .slice a10 p10.length c10, .slice a11 p11.length c11, .slice a12 p12.length c12, .slice a13 p13.length c13] ∧ IsSl w F p2 (.slice a2 p2.length c2) ∧ IsSl w F p6 (.slice a6 p6.length c6) ∧ IsSl w F p7 (.slice a7 p7.length c7) ∧ IsSl w F p8 (.slice a8 p8.length c8) ∧ IsSl w F p9 (.slice a9 p9.length c9) ∧ IsSl w F p10 (.slice a10 p10.length c10) ∧ IsSl w F p11 (.slice a11 p11.length c11) ∧ IsSl w F p12 (.slice a12 p12.length c12) ∧ IsSl w F p13 (.slice a13 p13.length c13) := by
  have h0 := h; clear h; obtain ⟨d0, e0, h1⟩ := h0.v; obtain ⟨d1, e1, h2⟩ := h1.v; obtain ⟨a2, c2, d2, e2, h3, l2⟩ := h2.ls; obtain ⟨d3, e3, h4⟩ := h3.v; obtain ⟨d4, e4, h5⟩ := h4.v; obtain ⟨d5, e5, h6⟩ := h5.v; obtain ⟨a6, c6, d6, e6, h7, l6⟩ := h6.ls; obtain ⟨a7, c7, d7, e7, h8, l7⟩ := h7.ls; obtain ⟨a8, c8, d8, e8, h9, l8⟩ := h8.ls; obtain ⟨a9, c9, d9, e9, h10, l9⟩ := h9.ls; obtain ⟨a10, c10, d10, e10, h11, l10⟩ := h10.ls; obtain ⟨a11, c11, d11, e11, h12, l11⟩ := h11.ls; obtain ⟨a12, c12, d12, e12, h13, l12⟩ := h12.ls; obtain ⟨a13, c13, d13, e13, h14, l13⟩ := h13.ls; have e14 := h14.nl; rw [e0, e1, e2, e3, e4, e5, e6, e7, e8, e9, e10, e11, e12, e13, e14]; exact ⟨a2, c2, a6, c6, a7, c7, a8, c8, a9, c9, a10, c10, a11, c11, a12, c12, a13, c13, rfl, l2, l6, l7, l8, l9, l10, l11, l12, l13⟩
theorem is_Dec {w : World} {F : Nat → Prop} {p0 : Int} {p1 : ByteArray} {p2 : List Nd} {p3 : Int} {p4 : Bool} {p5 : Bool} {p6 : List Nd} {p7 : List Nd} {p8 : List Nd} {p9 : List Nd} {p10 : List Nd} {p11 : List Nd} {p12 : List Nd} {p13 : List Nd} {cs : List Value} (h : RepR w F [.v (.int .i64 p0), .v (.string p1), .sl p2, .v (.int .i64 p3), .v (.bool p4), .v (.bool p5), .sl p6, .sl p7, .sl p8, .sl p9, .sl p10, .sl p11, .sl p12, .sl p13] cs) : IsDec w F [.v (.int .i64 p0), .v (.string p1), .sl p2, .v (.int .i64 p3), .v (.bool p4), .v (.bool p5), .sl p6, .sl p7, .sl p8, .sl p9, .sl p10, .sl p11, .sl p12, .sl p13] (.agg cs.toArray) := by
  obtain ⟨a2, c2, a6, c6, a7, c7, a8, c8, a9, c9, a10, c10, a11, c11, a12, c12, a13, c13, rfl, _, _, _, _, _, _, _, _, _⟩ := sh_Dec h; exact ⟨p0, p1, a2, p2.length, c2, p3, p4, p5, a6, p6.length, c6, a7, p7.length, c7, a8, p8.length, c8, a9, p9.length, c9, a10, p10.length, c10, a11, p11.length, c11, a12, p12.length, c12, a13, p13.length, c13, rfl, h⟩
end Go.Proofs.YtkblonfmjlopaaaGreatDoor
