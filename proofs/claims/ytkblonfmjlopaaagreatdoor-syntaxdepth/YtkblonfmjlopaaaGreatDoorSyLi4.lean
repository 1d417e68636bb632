/-
  decs, walked.
-/
import Derived.Test.YtkblonfmjlopaaaGreatDoorRegTIn
import Derived.Test.YtkblonfmjlopaaaGreatDoorSyLn
import Derived.Test.YtkblonfmjlopaaaGreatDoorSyLs
import Derived.Test.YtkblonfmjlopaaaGreatDoorSyLi5
import Derived.Test.YtkblonfmjlopaaaGreatDoorSxT
import Derived.Test.YtkblonfmjlopaaaGreatDoorSyOpd
import Derived.Test.YtkblonfmjlopaaaGreatDoorSyMk
set_option linter.all false
set_option maxRecDepth 1000000
set_option maxHeartbeats 16000000
namespace Go.Proofs.YtkblonfmjlopaaaGreatDoor
open Go Go.RowKit
theorem semis_err {X : Tx} : ∀ (n : Nat) (s : PSt) (e : Nat × Nat), semis X n s ≠ some (.error e)
  | 0, s, e => fun h => by cases h
  | n + 1, s, e => fun h => by
    by_cases hs : seesS X [[59]] s = true
    · unfold semis at h; rw [takes_bind hs, if_pos rfl] at h; exact semis_err n _ e h
    · unfold semis at h; rw [takes_bind_no hs, if_neg (by decide)] at h; cases h
theorem semis_step {X : Tx} {n : Nat} {s s4 : PSt} (h : semis X (n + 1) s = some (.ok ((), s4))) : (seesS X [[59]] s = true ∧ semis X n { s with i := s.i + 1 } = some (.ok ((), s4))) ∨ (¬ seesS X [[59]] s = true ∧ s = s4) := by
  by_cases hs : seesS X [[59]] s = true
  · unfold semis at h; rw [takes_bind hs, if_pos rfl] at h; exact .inl ⟨hs, h⟩
  · unfold semis at h; rw [takes_bind_no hs, if_neg (by decide)] at h; exact .inr ⟨hs, by cases h; rfl⟩
theorem decsL_go {X : Tx} {f : Fs} {n m : Nat} {top : Bool} {acc : List Nd} {s : PSt} {r : Except (Nat × Nat) (List Nd × PSt)} (hdcl : ∀ w, f.dcl w = PM.none) (h : decsL X f n top (m + 1) acc s = some r) :
    ∃ s4, semis X n s = some (.ok ((), s4)) ∧ ((seesS X [[118, 97, 108], [102, 117, 110], [100, 97, 116, 97, 116, 121, 112, 101], [116, 121, 112, 101], [101, 120, 99, 101, 112, 116, 105, 111, 110], [105, 110, 102, 105, 120], [105, 110, 102, 105, 120, 114], [110, 111, 110, 102, 105, 120]] s4 = false ∧ (top && seesS X [[115, 116, 114, 117, 99, 116, 117, 114, 101], [115, 105, 103, 110, 97, 116, 117, 114, 101]] s4) = false ∧ r = .ok (acc, s4)) ∨ (seesS X [[118, 97, 108], [102, 117, 110], [100, 97, 116, 97, 116, 121, 112, 101], [116, 121, 112, 101], [101, 120, 99, 101, 112, 116, 105, 111, 110], [105, 110, 102, 105, 120], [105, 110, 102, 105, 120, 114], [110, 111, 110, 102, 105, 120]] s4 = true ∧ (decS X f n (nextS X s4).text >>= fun d => decsL X f n top m (acc ++ [d])) { s4 with i := s4.i + 1 } = some r)) := by
  conv at h => lhs; unfold decsL
  rcases bind_cases h with ⟨c, q, h1, _⟩ | ⟨u, s4, h1, h2⟩
  · exact absurd h1 (semis_err _ _ _)
  · refine ⟨s4, h1, ?_⟩; rw [sees_bind, sees_bind] at h2; cases ha : seesS X [[118, 97, 108], [102, 117, 110], [100, 97, 116, 97, 116, 121, 112, 101], [116, 121, 112, 101], [101, 120, 99, 101, 112, 116, 105, 111, 110], [105, 110, 102, 105, 120], [105, 110, 102, 105, 120, 114], [110, 111, 110, 102, 105, 120]] s4 with
    | true =>
      rw [ha, if_neg (by simp)] at h2; rw [next_bind] at h2; exact .inr ⟨rfl, h2⟩
    | false =>
      rw [ha] at h2; cases hb : (top && seesS X [[115, 116, 114, 117, 99, 116, 117, 114, 101], [115, 105, 103, 110, 97, 116, 117, 114, 101]] s4) with
      | false =>
        rw [if_pos (by rintro (q | ⟨q1, q2⟩); cases q; rw [q1, q2] at hb; cases hb)] at h2; exact .inl ⟨rfl, rfl, pure_inv h2⟩
      | true =>
        exfalso; simp only [Bool.and_eq_true] at hb; rw [if_neg (by intro q; exact q (.inr hb)), next_bind] at h2; have h2 : (decS X f n (nextS X s4).text >>= fun d => decsL X f n top m (acc ++ [d])) { s4 with i := s4.i + 1 } = some r := h2
        have ht : (nextS X s4).text = [115, 116, 114, 117, 99, 116, 117, 114, 101] ∨ (nextS X s4).text = [115, 105, 103, 110, 97, 116, 117, 114, 101] := by
          have := hb.2; unfold seesS at this; simp only [Bool.and_eq_true, List.contains, List.elem_eq_true_of_mem, beq_iff_eq] at this; have h3 := this.2
          simpa [List.elem_iff] using h3
        have hd : decS X f n (nextS X s4).text { s4 with i := s4.i + 1 } = none := by
          rcases ht with e | e
          · rw [e]; show f.dcl _ _ = none; rw [hdcl]; rfl
          · rw [e]; show f.dcl _ _ = none; rw [hdcl]; rfl
        have : PM.bind (decS X f n (nextS X s4).text) (fun d => decsL X f n top m (acc ++ [d])) { s4 with i := s4.i + 1 } = some r := h2; unfold PM.bind at this; rw [hd] at this; cases this
section
variable {G : Gh} {f : Fs} {n : Nat}
theorem decs_any (hG : GOk G) (hn : n ≤ 1000000) (top : Bool) (hdcl : ∀ w, f.dcl w = PM.none) (hdec : ∀ wd : List UInt8, FN G 23 #[.pointer (some ⟨G.bp, 0, none⟩), .string ⟨wd.toArray⟩] IsDec (decS G.X f n wd)) : FLs G 12 #[.pointer (some ⟨G.bp, 0, none⟩), .bool top] (decsS G.X f n top) := by
  intro M na nc fa fc w s r hP hx; have hB := hP.bB; have HX := hid hx; have HN6 := hid hn; have HL0 : Hid (LN G M na nc fa fc w.heap.size 14 s w s [] none 0) := hid (LN.start hP rfl (Nat.le_refl _) hP.bB (fun k hk => (hP.mB k hk).2) (Nat.le_refl _)); clear hx hP hn; go_enter Tryz.func12, Tryz.ntmps12
  go_wp2_with fail
  go_loopg [5] n (fun gk lv wr => ∃ s1 acc a c, lv = .slice a acc.length c ∧ Hid (decsL G.X f n top gk acc s1 = some r) ∧ Hid (LN G M na nc fa fc w.heap.size 14 s wr s1 acc a c) ∧ Hid (Kn G.B M w wr) ∧ Hid (acc.length + gk ≤ n))
  case atStart => exact ⟨s, [], none, 0, rfl, HX, HL0, hid (Kn.refl _ _ _), hid (by simp)⟩
  case round =>
    clear HX HL0; obtain ⟨s1, acc, a, c, rfl, HX, HL1, HK1, HLE⟩ := hrel; cases gk with
    | zero => exact absurd HX.out (by simp [decsL, PM.none])
    | succ m =>
    obtain ⟨s4, hse, hway⟩ := decsL_go hdcl HX.out; have HSE := hid hse; have HWY := hid hway; clear hse hway HX
    go_wp2_with fail
    go_loopg [] n (fun gk2 wr2 => ∃ s3, Hid (semis G.X gk2 s3 = some (.ok ((), s4))) ∧ Hid (LN G M na nc fa fc w.heap.size 14 s wr2 s3 acc a c) ∧ Hid (Kn G.B M w wr2))
    case atStart => exact ⟨s1, HSE, HL1, HK1⟩
    case round =>
      clear HSE HL1 HK1; obtain ⟨s3, HSE, HL3, HK3⟩ := hrel; cases gk with
      | zero => exact absurd HSE.out (by simp [semis, PM.none])
      | succ k =>
      rcases semis_step HSE.out with ⟨hs, hse2⟩ | ⟨hs, rfl⟩
      · have HS := hid hs; have HE2 := hid hse2; clear hs hse2 HSE HWY
        go_wp2_with (go_at_call 21; refine (takes_yes hG HL3.out.ps [59] HS.out).mono ?_; rintro e w4 ⟨rfl, hp, hk⟩; have HL4 := hid (HL3.out.go (hk.jp HL3.out.ps.mp) hp rfl (Nat.le_succ _)); have HK4 := hid (HK3.out.go (hk.jp HL3.out.ps.mp)); clear hp hk)
        go_roundg k
        case measure => omega
        case rel => exact ⟨_, HE2, HL4, HK4⟩
      · have HS := hid hs; clear hs HSE
        go_upto_region 3 with (go_at_call 21; refine (takes_no hG HL3.out.ps [59] HS.out).mono ?_; rintro e w4 ⟨rfl, hb⟩; have HL4 := hid (HL3.out.below hb); have HK4 := hid (HK3.out.go (Kn.of hb HL3.out.ps.bB)); clear hb)
        clear HL3 HK3
        rcases HWY.out with ⟨ha, hb, rfl⟩ | ⟨ha, hr⟩
        · have HA := hid ha; clear ha HWY; cases top with
          | false =>
            clear hb
            go_wp2_with (go_at_call 22; refine (sees_any hG (HL4.out.ps.alloc _) w4.heap.size 8 [⟨([118, 97, 108] : List UInt8).toArray⟩, ⟨([102, 117, 110] : List UInt8).toArray⟩, ⟨([100, 97, 116, 97, 116, 121, 112, 101] : List UInt8).toArray⟩, ⟨([116, 121, 112, 101] : List UInt8).toArray⟩, ⟨([101, 120, 99, 101, 112, 116, 105, 111, 110] : List UInt8).toArray⟩, ⟨([105, 110, 102, 105, 120] : List UInt8).toArray⟩, ⟨([105, 110, 102, 105, 120, 114] : List UInt8).toArray⟩, ⟨([110, 111, 110, 102, 105, 120] : List UInt8).toArray⟩] rfl (by omega) (StrB.made' _ _ [⟨([118, 97, 108] : List UInt8).toArray⟩, ⟨([102, 117, 110] : List UInt8).toArray⟩, ⟨([100, 97, 116, 97, 116, 121, 112, 101] : List UInt8).toArray⟩, ⟨([116, 121, 112, 101] : List UInt8).toArray⟩, ⟨([101, 120, 99, 101, 112, 116, 105, 111, 110] : List UInt8).toArray⟩, ⟨([105, 110, 102, 105, 120] : List UInt8).toArray⟩, ⟨([105, 110, 102, 105, 120, 114] : List UInt8).toArray⟩, ⟨([110, 111, 110, 102, 105, 120] : List UInt8).toArray⟩] _ _ rfl rfl)).mono ?_; rintro e w5 ⟨rfl, hb⟩; rw [show seesS G.X (([⟨([118, 97, 108] : List UInt8).toArray⟩, ⟨([102, 117, 110] : List UInt8).toArray⟩, ⟨([100, 97, 116, 97, 116, 121, 112, 101] : List UInt8).toArray⟩, ⟨([116, 121, 112, 101] : List UInt8).toArray⟩, ⟨([101, 120, 99, 101, 112, 116, 105, 111, 110] : List UInt8).toArray⟩, ⟨([105, 110, 102, 105, 120] : List UInt8).toArray⟩, ⟨([105, 110, 102, 105, 120, 114] : List UInt8).toArray⟩, ⟨([110, 111, 110, 102, 105, 120] : List UInt8).toArray⟩] : List ByteArray).map fun z => z.data.toList) s3 = false from HA.out]; have HL5 := hid (HL4.out.below ((below_alloc _ _).trans (hb.mono (by simp)))); have HK5 := hid (HK4.out.go (Kn.of ((below_alloc _ _).trans (hb.mono (by simp))) HL4.out.ps.bB)); clear hb)
            refine bodyPost_ret (v := .slice a acc.length c) (by simp [results, Tryz.results12, go_sem]) rfl ?_; exact ⟨HK5.out, HL5.out.sc, HL5.out.mono, HL5.out.ps, _, rfl, HL5.out.fin.on (Kb.refl _ _) (fun b hb => hb.imp id fun q => ⟨q.1, q.2, fun q => q⟩)⟩
          | true =>
            have HB := hid (by simpa using hb : seesS G.X [[115, 116, 114, 117, 99, 116, 117, 114, 101], [115, 105, 103, 110, 97, 116, 117, 114, 101]] s3 = false); clear hb
            go_wp2_with (first
              | (go_at_call 22; refine (sees_any hG (HL5.out.ps.alloc _) w5.heap.size 2 [⟨([115, 116, 114, 117, 99, 116, 117, 114, 101] : List UInt8).toArray⟩, ⟨([115, 105, 103, 110, 97, 116, 117, 114, 101] : List UInt8).toArray⟩] rfl (by omega) (StrB.made' _ _ [⟨([115, 116, 114, 117, 99, 116, 117, 114, 101] : List UInt8).toArray⟩, ⟨([115, 105, 103, 110, 97, 116, 117, 114, 101] : List UInt8).toArray⟩] _ _ rfl rfl)).mono ?_; rintro e w6 ⟨rfl, hb⟩; rw [show seesS G.X (([⟨([115, 116, 114, 117, 99, 116, 117, 114, 101] : List UInt8).toArray⟩, ⟨([115, 105, 103, 110, 97, 116, 117, 114, 101] : List UInt8).toArray⟩] : List ByteArray).map fun z => z.data.toList) s3 = false from HB.out]; have HL6 := hid (HL5.out.below ((below_alloc _ _).trans (hb.mono (by simp)))); have HK6 := hid (HK5.out.go (Kn.of ((below_alloc _ _).trans (hb.mono (by simp))) HL5.out.ps.bB)); clear hb)
              | (go_at_call 22; refine (sees_any hG (HL4.out.ps.alloc _) w4.heap.size 8 [⟨([118, 97, 108] : List UInt8).toArray⟩, ⟨([102, 117, 110] : List UInt8).toArray⟩, ⟨([100, 97, 116, 97, 116, 121, 112, 101] : List UInt8).toArray⟩, ⟨([116, 121, 112, 101] : List UInt8).toArray⟩, ⟨([101, 120, 99, 101, 112, 116, 105, 111, 110] : List UInt8).toArray⟩, ⟨([105, 110, 102, 105, 120] : List UInt8).toArray⟩, ⟨([105, 110, 102, 105, 120, 114] : List UInt8).toArray⟩, ⟨([110, 111, 110, 102, 105, 120] : List UInt8).toArray⟩] rfl (by omega) (StrB.made' _ _ [⟨([118, 97, 108] : List UInt8).toArray⟩, ⟨([102, 117, 110] : List UInt8).toArray⟩, ⟨([100, 97, 116, 97, 116, 121, 112, 101] : List UInt8).toArray⟩, ⟨([116, 121, 112, 101] : List UInt8).toArray⟩, ⟨([101, 120, 99, 101, 112, 116, 105, 111, 110] : List UInt8).toArray⟩, ⟨([105, 110, 102, 105, 120] : List UInt8).toArray⟩, ⟨([105, 110, 102, 105, 120, 114] : List UInt8).toArray⟩, ⟨([110, 111, 110, 102, 105, 120] : List UInt8).toArray⟩] _ _ rfl rfl)).mono ?_; rintro e w5 ⟨rfl, hb⟩; rw [show seesS G.X (([⟨([118, 97, 108] : List UInt8).toArray⟩, ⟨([102, 117, 110] : List UInt8).toArray⟩, ⟨([100, 97, 116, 97, 116, 121, 112, 101] : List UInt8).toArray⟩, ⟨([116, 121, 112, 101] : List UInt8).toArray⟩, ⟨([101, 120, 99, 101, 112, 116, 105, 111, 110] : List UInt8).toArray⟩, ⟨([105, 110, 102, 105, 120] : List UInt8).toArray⟩, ⟨([105, 110, 102, 105, 120, 114] : List UInt8).toArray⟩, ⟨([110, 111, 110, 102, 105, 120] : List UInt8).toArray⟩] : List ByteArray).map fun z => z.data.toList) s3 = false from HA.out]; have HL5 := hid (HL4.out.below ((below_alloc _ _).trans (hb.mono (by simp)))); have HK5 := hid (HK4.out.go (Kn.of ((below_alloc _ _).trans (hb.mono (by simp))) HL4.out.ps.bB)); clear hb))
            refine bodyPost_ret (v := .slice a acc.length c) (by simp [results, Tryz.results12, go_sem]) rfl ?_; exact ⟨HK6.out, HL6.out.sc, HL6.out.mono, HL6.out.ps, _, rfl, HL6.out.fin.on (Kb.refl _ _) (fun b hb => hb.imp id fun q => ⟨q.1, q.2, fun q => q⟩)⟩
        · have HA := hid ha; have HI := hid (sees_in ha)
          rcases bind_cases hr with ⟨cc, q, hd, rfl⟩ | ⟨nd, s5, hd, hr2⟩
          · have HD := hid hd; clear hr hd ha HWY
            go_upto_region 5 with (go_at_call 22; refine (sees_any hG (HL4.out.ps.alloc _) w4.heap.size 8 [⟨([118, 97, 108] : List UInt8).toArray⟩, ⟨([102, 117, 110] : List UInt8).toArray⟩, ⟨([100, 97, 116, 97, 116, 121, 112, 101] : List UInt8).toArray⟩, ⟨([116, 121, 112, 101] : List UInt8).toArray⟩, ⟨([101, 120, 99, 101, 112, 116, 105, 111, 110] : List UInt8).toArray⟩, ⟨([105, 110, 102, 105, 120] : List UInt8).toArray⟩, ⟨([105, 110, 102, 105, 120, 114] : List UInt8).toArray⟩, ⟨([110, 111, 110, 102, 105, 120] : List UInt8).toArray⟩] rfl (by omega) (StrB.made' _ _ [⟨([118, 97, 108] : List UInt8).toArray⟩, ⟨([102, 117, 110] : List UInt8).toArray⟩, ⟨([100, 97, 116, 97, 116, 121, 112, 101] : List UInt8).toArray⟩, ⟨([116, 121, 112, 101] : List UInt8).toArray⟩, ⟨([101, 120, 99, 101, 112, 116, 105, 111, 110] : List UInt8).toArray⟩, ⟨([105, 110, 102, 105, 120] : List UInt8).toArray⟩, ⟨([105, 110, 102, 105, 120, 114] : List UInt8).toArray⟩, ⟨([110, 111, 110, 102, 105, 120] : List UInt8).toArray⟩] _ _ rfl rfl)).mono ?_; rintro e w5 ⟨rfl, hb⟩; rw [show seesS G.X (([⟨([118, 97, 108] : List UInt8).toArray⟩, ⟨([102, 117, 110] : List UInt8).toArray⟩, ⟨([100, 97, 116, 97, 116, 121, 112, 101] : List UInt8).toArray⟩, ⟨([116, 121, 112, 101] : List UInt8).toArray⟩, ⟨([101, 120, 99, 101, 112, 116, 105, 111, 110] : List UInt8).toArray⟩, ⟨([105, 110, 102, 105, 120] : List UInt8).toArray⟩, ⟨([105, 110, 102, 105, 120, 114] : List UInt8).toArray⟩, ⟨([110, 111, 110, 102, 105, 120] : List UInt8).toArray⟩] : List ByteArray).map fun z => z.data.toList) s3 = true from HA.out]; have HL5 := hid (HL4.out.below ((below_alloc _ _).trans (hb.mono (by simp)))); have HK5 := hid (HK4.out.go (Kn.of ((below_alloc _ _).trans (hb.mono (by simp))) HL4.out.ps.bB)); clear hb)
            have c1 := HL5.out.ps.c1; have fr := HL5.out.ps.fr; have hlen := HI.out; have hfew := hG.few
            go_upto_region 6 with fail
            have KN := ((Kn.refl G.B (Jp G) w5).step HL5.out.ps rfl (.int .i64 ((s3.i : Int) + 1))).jp HL5.out.ps.mp; have HK8 := hid (HK5.out.go KN); have HL8 := hid (HL5.out.go KN (HL5.out.ps.step1 HI.out) rfl (Nat.le_succ _)); clear KN c1 fr; generalize w5.setCell ⟨G.bp, 1, none⟩ (.int .i64 ((s3.i : Int) + 1)) = W8 at HK8 HL8 ⊢; obtain ⟨t, ht⟩ : ∃ t, G.X.ts[s3.i]? = some t := ⟨_, List.getElem?_eq_getElem HI.out⟩; obtain ⟨xx, xo, sg, am, nm, cm, ela, hxB, ⟨_, k1, _⟩, _⟩ := HL8.out.ps.tok hG ht; have f1 : W8.cell? ⟨xx, xo + s3.i * 7 + 1, none⟩ = some (.string ⟨(nextS G.X s3).text.toArray⟩) := by rw [k1, ← nextS_at ht]
            have f0 := HL8.out.ps.c0; rw [ela] at f0; have f2 : W8.cell? ⟨G.bp, 1, none⟩ = some (.int .i64 ((s3.i : Int) + 1)) := HL8.out.ps.c1; have hw1 : IntKind.i64.wrap ((s3.i : Int) + 1 - 1) = (s3.i : Int) := by rw [Int.add_sub_cancel]; exact IntWalk.i64_in _ (by omega)
            have hw2 : IntKind.i64.wrap (s3.i : Int) = (s3.i : Int) := IntWalk.i64_in _ (by omega); have hlt : (s3.i : Int) < (G.X.ts.length : Int) := by omega
            have hnn : (0 : Int) ≤ (s3.i : Int) := by omega
            have ELA := hid ela; have HXB := hid hxB
            have HAW : Hid (∀ A, a = some ⟨A, 0, none⟩ → A < W8.drew.heap.size) := hid (fun A e => by
              rcases HL8.out.row with ⟨_, e2, _⟩ | ⟨A2, e2, q⟩
              · rw [e2] at e; cases e
              · rw [e2] at e; cases e; obtain ⟨_, _, q, _⟩ := q; exact q)
            clear k1 ht ela hxB; refine region_T (S := fun wx => wx.cell? ⟨G.bp, 0, none⟩ = some (.slice (some ⟨xx, xo, none⟩) G.X.ts.length G.lc) ∧ wx.cell? ⟨xx, xo + s3.i * 7 + 1, none⟩ = some (.string ⟨(nextS G.X s3).text.toArray⟩)) (T := fun _j => false) (by kernel_rfl) ?_; have hS0 := And.intro (f0) (f1); refine tq 0 hS0 ?_; refine tq 1 hS0 ?_; refine tq 2 hS0 ?_; refine tq 3 hS0 ?_; refine tq 4 hS0 ?_; refine tq 5 hS0 ?_; refine tq 6 hS0 ?_; refine tq 7 hS0 ?_; refine tq 8 hS0 ?_; refine on1 9 fun K hK => ?_; go_simp; have hS1 := hS0; refine nx hK hS1 ?_; clear hK K; refine tq 10 hS1 ?_; refine tq 11 hS1 ?_; refine tq 12 hS1 ?_; refine tq 13 hS1 ?_; refine on1 14 fun K hK => ?_; go_simp; refine (hdec (nextS G.X s3).text M na nc fa fc _ _ _ HL8.out.ps.drew HD.out).mono ?_; rintro e w9 ⟨hk, rfl⟩; unfold thrown; go_simp; exact ⟨rfl, (HK8.out.go (Kn.refl G.B M W8).drew).go hk, rfl⟩
          · have HD := hid hd; have HR := hid hr2; clear hr hd hr2 ha HWY
            go_upto_region 5 with (go_at_call 22; refine (sees_any hG (HL4.out.ps.alloc _) w4.heap.size 8 [⟨([118, 97, 108] : List UInt8).toArray⟩, ⟨([102, 117, 110] : List UInt8).toArray⟩, ⟨([100, 97, 116, 97, 116, 121, 112, 101] : List UInt8).toArray⟩, ⟨([116, 121, 112, 101] : List UInt8).toArray⟩, ⟨([101, 120, 99, 101, 112, 116, 105, 111, 110] : List UInt8).toArray⟩, ⟨([105, 110, 102, 105, 120] : List UInt8).toArray⟩, ⟨([105, 110, 102, 105, 120, 114] : List UInt8).toArray⟩, ⟨([110, 111, 110, 102, 105, 120] : List UInt8).toArray⟩] rfl (by omega) (StrB.made' _ _ [⟨([118, 97, 108] : List UInt8).toArray⟩, ⟨([102, 117, 110] : List UInt8).toArray⟩, ⟨([100, 97, 116, 97, 116, 121, 112, 101] : List UInt8).toArray⟩, ⟨([116, 121, 112, 101] : List UInt8).toArray⟩, ⟨([101, 120, 99, 101, 112, 116, 105, 111, 110] : List UInt8).toArray⟩, ⟨([105, 110, 102, 105, 120] : List UInt8).toArray⟩, ⟨([105, 110, 102, 105, 120, 114] : List UInt8).toArray⟩, ⟨([110, 111, 110, 102, 105, 120] : List UInt8).toArray⟩] _ _ rfl rfl)).mono ?_; rintro e w5 ⟨rfl, hb⟩; rw [show seesS G.X (([⟨([118, 97, 108] : List UInt8).toArray⟩, ⟨([102, 117, 110] : List UInt8).toArray⟩, ⟨([100, 97, 116, 97, 116, 121, 112, 101] : List UInt8).toArray⟩, ⟨([116, 121, 112, 101] : List UInt8).toArray⟩, ⟨([101, 120, 99, 101, 112, 116, 105, 111, 110] : List UInt8).toArray⟩, ⟨([105, 110, 102, 105, 120] : List UInt8).toArray⟩, ⟨([105, 110, 102, 105, 120, 114] : List UInt8).toArray⟩, ⟨([110, 111, 110, 102, 105, 120] : List UInt8).toArray⟩] : List ByteArray).map fun z => z.data.toList) s3 = true from HA.out]; have HL5 := hid (HL4.out.below ((below_alloc _ _).trans (hb.mono (by simp)))); have HK5 := hid (HK4.out.go (Kn.of ((below_alloc _ _).trans (hb.mono (by simp))) HL4.out.ps.bB)); clear hb)
            have c1 := HL5.out.ps.c1; have fr := HL5.out.ps.fr; have hlen := HI.out; have hfew := hG.few
            go_upto_region 6 with fail
            have KN := ((Kn.refl G.B (Jp G) w5).step HL5.out.ps rfl (.int .i64 ((s3.i : Int) + 1))).jp HL5.out.ps.mp; have HK8 := hid (HK5.out.go KN); have HL8 := hid (HL5.out.go KN (HL5.out.ps.step1 HI.out) rfl (Nat.le_succ _)); clear KN c1 fr; generalize w5.setCell ⟨G.bp, 1, none⟩ (.int .i64 ((s3.i : Int) + 1)) = W8 at HK8 HL8 ⊢; obtain ⟨t, ht⟩ : ∃ t, G.X.ts[s3.i]? = some t := ⟨_, List.getElem?_eq_getElem HI.out⟩; obtain ⟨xx, xo, sg, am, nm, cm, ela, hxB, ⟨_, k1, _⟩, _⟩ := HL8.out.ps.tok hG ht; have f1 : W8.cell? ⟨xx, xo + s3.i * 7 + 1, none⟩ = some (.string ⟨(nextS G.X s3).text.toArray⟩) := by rw [k1, ← nextS_at ht]
            have f0 := HL8.out.ps.c0; rw [ela] at f0; have f2 : W8.cell? ⟨G.bp, 1, none⟩ = some (.int .i64 ((s3.i : Int) + 1)) := HL8.out.ps.c1; have hw1 : IntKind.i64.wrap ((s3.i : Int) + 1 - 1) = (s3.i : Int) := by rw [Int.add_sub_cancel]; exact IntWalk.i64_in _ (by omega)
            have hw2 : IntKind.i64.wrap (s3.i : Int) = (s3.i : Int) := IntWalk.i64_in _ (by omega); have hlt : (s3.i : Int) < (G.X.ts.length : Int) := by omega
            have hnn : (0 : Int) ≤ (s3.i : Int) := by omega
            have ELA := hid ela; have HXB := hid hxB
            have HAW : Hid (∀ A, a = some ⟨A, 0, none⟩ → A < W8.drew.heap.size) := hid (fun A e => by
              rcases HL8.out.row with ⟨_, e2, _⟩ | ⟨A2, e2, q⟩
              · rw [e2] at e; cases e
              · rw [e2] at e; cases e; obtain ⟨_, _, q, _⟩ := q; exact q)
            clear k1 ht ela hxB; refine region_T (S := fun wx => wx.cell? ⟨G.bp, 0, none⟩ = some (.slice (some ⟨xx, xo, none⟩) G.X.ts.length G.lc) ∧ wx.cell? ⟨xx, xo + s3.i * 7 + 1, none⟩ = some (.string ⟨(nextS G.X s3).text.toArray⟩)) (T := fun _j => false) (by kernel_rfl) ?_; have hS0 := And.intro (f0) (f1); refine tq 0 hS0 ?_; refine tq 1 hS0 ?_; refine tq 2 hS0 ?_; refine tq 3 hS0 ?_; refine tq 4 hS0 ?_; refine tq 5 hS0 ?_; refine tq 6 hS0 ?_; refine tq 7 hS0 ?_; refine tq 8 hS0 ?_; refine on1 9 fun K hK => ?_; go_simp; have hS1 := hS0; refine nx hK hS1 ?_; clear hK K; refine tq 10 hS1 ?_; refine tq 11 hS1 ?_; refine tq 12 hS1 ?_; refine tq 13 hS1 ?_; refine on1 14 fun K hK => ?_; go_simp; refine (hdec (nextS G.X s3).text M na nc fa fc _ _ _ HL8.out.ps.drew HD.out).mono ?_; rintro e w9 ⟨hk, hsc, hi, hP9, v, rfl, x0, x1, Vd, Vf, Ve, x3, x4, x5, Vm, Vo, Vn, Vp, Vr, Vq, Vs, Vu, Vt, Vv, Vx, Vw, Vy, VA, Vz, VB, VD, VC, VE, VG, VF, VH, VJ, VI, rfl, hrep⟩; have hS8 : w9.cell? ⟨G.bp, 0, none⟩ = some (.slice (some ⟨xx, xo, none⟩) G.X.ts.length G.lc) := by rw [← ELA.out]; exact hP9.c0
            have hS2 := And.intro hS8 ((hk.bel.cell (p := ⟨xx, xo + s3.i * 7 + 1, none⟩) HXB.out).trans (hS1).2); clear hS8; have HL9 := hid ((HL8.out.below (Below.refl _ _).drew).go hk hP9 hsc hi); have HK9 := hid ((HK8.out.go (Kn.refl G.B M W8).drew).go hk); have HREP := hid hrep; have HS9 := hid hk.size; clear hk hsc hi hP9 hrep; refine nx hK hS2 ?_; clear hK K; refine on1 15 fun K hK => ?_; go_simp; have ba := below_alloc w9 (.cells #[.int .i64 x0, .string x1, .slice Vd Vf Ve, .int .i64 x3, .bool x4, .bool x5, .slice Vm Vo Vn, .slice Vp Vr Vq, .slice Vs Vu Vt, .slice Vv Vx Vw, .slice Vy VA Vz, .slice VB VD VC, .slice VE VG VF, .slice VH VJ VI] 42); have hS3 := And.intro ((ba.cell (p := ⟨G.bp, 0, none⟩) HL9.out.ps.lt).trans (hS2).1) ((ba.cell (p := ⟨xx, xo + s3.i * 7 + 1, none⟩) (Nat.lt_of_lt_of_le HXB.out HL9.out.ps.bB)).trans (hS2).2); clear ba; refine nx hK hS3 ?_; clear hK K; refine on1 16 fun K hK => ?_; obtain ⟨hh, hA, hN, hlo, hfin⟩ := LN.round (z := zDec) (T := 42) (cs := #[.int .i64 x0, .string x1, .slice Vd Vf Ve, .int .i64 x3, .bool x4, .bool x5, .slice Vm Vo Vn, .slice Vp Vr Vq, .slice Vs Vu Vt, .slice Vv Vx Vw, .slice Vy VA Vz, .slice VB VD VC, .slice VE VG VF, .slice VH VJ VI]) (nd := nd) (lo' := W8.drew.heap.size) HL9.out HL8.out.lw HAW.out HREP.out rfl (by omega); have HAP := hid (And.intro hA (And.intro hN hlo)); have HFI := hid hfin; have HXC := hid (new_cells w9 #[.int .i64 x0, .string x1, .slice Vd Vf Ve, .int .i64 x3, .bool x4, .bool x5, .slice Vm Vo Vn, .slice Vp Vr Vq, .slice Vs Vu Vt, .slice Vv Vx Vw, .slice Vy VA Vz, .slice VB VD VC, .slice VE VG VF, .slice VH VJ VI] 42); clear hA hN hlo hfin; rw [if_pos (by rfl)]; refine oper_append_q (w9.alloc (.cells #[.int .i64 x0, .string x1, .slice Vd Vf Ve, .int .i64 x3, .bool x4, .bool x5, .slice Vm Vo Vn, .slice Vp Vr Vq, .slice Vs Vu Vt, .slice Vv Vx Vw, .slice Vy VA Vz, .slice VB VD VC, .slice VE VG VF, .slice VH VJ VI] 42)) (some 45) rfl _ _ 23 23 rfl 42 42 zDec 14 256 Tryz.underlying23 Tryz.underlying23 Tryz.info42 rfl (by omega) w.heap.size HAP.out.2.2 a acc.length c hh (cellAt #[.int .i64 x0, .string x1, .slice Vd Vf Ve, .int .i64 x3, .bool x4, .bool x5, .slice Vm Vo Vn, .slice Vp Vr Vq, .slice Vs Vu Vt, .slice Vv Vx Vw, .slice Vy VA Vz, .slice VB VD VC, .slice VE VG VF, .slice VH VJ VI]) w9.heap.size 0 1 rfl rfl HAP.out.1 HAP.out.2.1 HXC.out (cellAt_one #[.int .i64 x0, .string x1, .slice Vd Vf Ve, .int .i64 x3, .bool x4, .bool x5, .slice Vm Vo Vn, .slice Vp Vr Vq, .slice Vs Vu Vt, .slice Vv Vx Vw, .slice Vy VA Vz, .slice VB VD VC, .slice VE VG VF, .slice VH VJ VI] (by rfl)) (by have := HLE.out; have := HN6.out; omega) (by have := HLE.out; have := HN6.out; omega) ?_; intro a' c' rr w10 hc A5 N5 b5 kq; obtain ⟨hL, hb⟩ := HFI.out a' c' rr w10 hc A5 N5 b5 kq; have hS4 := And.intro ((b5.cell (p := ⟨G.bp, 0, none⟩) (HL8.out.mlo _ HL8.out.ps.mp)).trans (hS3).1) ((b5.cell (p := ⟨xx, xo + s3.i * 7 + 1, none⟩) (Nat.lt_of_lt_of_le HXB.out HL8.out.lB)).trans (hS3).2); have HL10 := hid hL; have HK10 := hid (HK9.out.low hb HL8.out.lB (Nat.le_refl _)); clear hc A5 N5 b5 kq hL hb hh HAP HFI HXC; refine nx hK hS4 ?_; clear hK K; refine tq 17 hS4 ?_; refine anyT_done (by kernel_rfl) ?_ _
            go_wp2_with fail
            go_roundg m
            case measure => omega
            case rel => exact ⟨s5, acc ++ [nd], a', c', by simp, HR.out, HL10, HK10, hid (by have := HLE.out; simp; omega)⟩
end
section
variable {G : Gh} {na : Option Addr} {nc : Nat} {fa : Option Addr} {fc : Nat} {σ Γ : Type} {pr : Γ → σ} {Mx : Γ → Nat → Prop} {St : World → Γ → Prop}
theorem list_Fun (hG : GOk G) (hst : StOk G Mx St) (k : Nat) (fb cp : Array Value) (eg : ∀ args w, (callFunc k args).run Tryz.prog w = .ok (.enter k args) w) (by_ : List UInt8) (one : σ → PM (Nd × σ)) (hc : CloOK G na nc fa fc IsFun k fb cp one pr Mx St) (n : Nat) (w : World) (s : PSt) (g : Γ) (r : Except (Nat × Nat) ((List Nd × σ) × PSt))
    (hP : PS G (Mx g) na nc fa fc w s) (hS : St w g) (hx : list G.X n by_ one (pr g) s = some r) :
    Calls Tryz.prog 68 #[.pointer (some ⟨G.bp, 0, none⟩), .string ⟨by_.toArray⟩, .func (.func k) fb cp] w fun e w' => PostL G na nc fa fc pr Mx St w s g r e w' := by
  unfold list at hx; have hB := hP.bB
  rcases bind_cases hx with ⟨c, q, h1, rfl⟩ | ⟨⟨nd, x⟩, s1, h1, h2⟩
  · have HC := hid (hc w s g _ hP hS h1); clear hx h1 hP hS hc hst; go_enter Tryz.func68, Tryz.ntmps68
    go_wp2_with (go_at_fn k; refine HC.out.mono ?_; rintro e w1 ⟨hk, rfl⟩; unfold thrown)
    go_simp; exact ⟨rfl, hk, rfl⟩
  · have HC := hid (hc w s g _ hP hS h1); have HCl := hid hc; have HSt := hid hst; have HE := hid h2; clear hx h1 h2 hP hS hc hst; go_enter Tryz.func68, Tryz.ntmps68
    go_wp2_with (go_at_fn k; refine HC.out.mono ?_; rintro e w1 ⟨hk, hsc, hi, g1, v, rfl, hpr, hP1, hS1, hm, hn, x0, x1, Vd, Vf, Ve, rfl, hrep⟩; have HQ := hid (And.intro hk (And.intro hsc (And.intro hi (And.intro hpr (And.intro hP1 (And.intro hS1 (And.intro hm hn))))))); have HR := hid (hrep); clear hk hsc hi hpr hP1 hS1 hm hn)
    have R0 : LRel G na nc fa fc pr Mx St 3 w s g (w1.alloc (.cells #[.string x0, .int .i64 x1, .slice Vd Vf Ve] 45)) s1 g1 [nd] w1.heap.size 1 := by
      obtain ⟨hk, hsc, hi, hpr, hP1, hS1, hm, hn⟩ := HQ.out; have hM := fun j hj => (hP1.mB j hj).2; have ba := below_alloc w1 (.cells #[.string x0, .int .i64 x1, .slice Vd Vf Ve] 45); refine ⟨hsc, hi, by simp, hP1.alloc _, HSt.out _ _ _ hS1 (fun j hj _ => ba.block j (hM j hj)), hm, hn, fun h => by have := hM _ h; omega, ?_, hk.low ba (by have := hP1.bB; omega) hk.size⟩; refine LsA.one (cs := [.string x0, .int .i64 x1, .slice Vd Vf Ve]) hk.size (by simp) (fun h => h.elim (fun h => by have := hP1.bB; omega) (fun h => h.2.2.2 rfl)) (fun j hj => ?_) (fun j _ => World.frozen?_alloc_new _ _ _ _) (RepR.on HR.out (Kb.of ba fun b hb => ?_) (fun b hb => ?_))
      · rw [World.cell?_alloc_new]; simp
      · rcases hb with hb | ⟨_, hb, _⟩
        · have := hP1.bB; omega
        · exact hb
      · rcases hb with hb | ⟨h1, h2, h3⟩
        · exact .inl hb
        · exact .inr ⟨h1, by simp; omega, h3, by omega⟩
    generalize w1.alloc (.cells #[.string x0, .int .i64 x1, .slice Vd Vf Ve] 45) = W2 at R0 ⊢; have HR0 := hid R0; have HE2 : Hid (listL G.X by_ one n [nd] (pr g1) s1 = some r) := hid (by have h := HE.out; have e := HQ.out.2.2.2.1; rw [e]; exact h); clear R0 HE HC HQ HR
    go_loopg [7] n (fun gk lv wr => ∃ s1 g1 acc A c, lv = .slice (some ⟨A, 0, none⟩) acc.length c ∧ Hid (listL G.X by_ one gk acc (pr g1) s1 = some r) ∧ Hid (LRel G na nc fa fc pr Mx St 3 w s g wr s1 g1 acc A c))
    case atStart => exact ⟨s1, g1, [nd], w1.heap.size, 1, rfl, HE2, HR0⟩
    case round =>
      clear HE2 HR0; obtain ⟨s2, g2, acc, A, c, rfl, HL, HR⟩ := hrel; cases gk with
      | zero => exact absurd HL.out (by rw [listL_zero]; simp)
      | succ m =>
      have hP2 : PS G (Mx g2) na nc fa fc wr s2 := HR.out.2.2.2.1; have hS2 : St wr g2 := HR.out.2.2.2.2.1
      by_cases hs : seesS G.X [by_] s2 = true
      · have hl := HL.out; rw [listL_yes hs] at hl; have HS := hid hs
        rcases bind_cases hl with ⟨c1, q1, h1, rfl⟩ | ⟨⟨nd2, x2⟩, s3, h1, h2⟩
        · have H1 := hid h1; have HP2 := hid (And.intro hP2 hS2); clear hl h1 hs HL hP2 hS2
          go_wp2_with (first
            | (go_at_call 21; refine (takes_yes hG HP2.out.1 by_ HS.out).mono ?_; rintro e w3 ⟨rfl, hp3, hk3⟩; have HC3 := hid (HCl.out w3 _ g2 _ hp3 (HSt.out _ _ _ HP2.out.2 (fun j hj hn => hk3.blk j (HP2.out.1.mB j hj).2 hn)) H1.out); have HK3 := hid hk3; clear hp3 hk3)
            | (go_at_fn k; refine HC3.out.mono ?_; rintro e w4 ⟨hk4, rfl⟩; have HK4 := hid hk4; clear hk4; unfold thrown))
          go_simp; exact ⟨rfl, HR.out.kn HK3.out HK4.out, rfl⟩
        · have H1 := hid h1; have H2 := hid h2; have HP2 := hid (And.intro hP2 hS2); clear hl h1 h2 hs HL hP2 hS2
          go_wp2_with (first
            | (go_at_call 21; refine (takes_yes hG HP2.out.1 by_ HS.out).mono ?_; rintro e w3 ⟨rfl, hp3, hk3⟩; have HC3 := hid (HCl.out w3 _ g2 _ hp3 (HSt.out _ _ _ HP2.out.2 (fun j hj hn => hk3.blk j (HP2.out.1.mB j hj).2 hn)) H1.out); have HK3 := hid hk3; clear hp3 hk3)
            | (go_at_fn k; refine HC3.out.mono ?_; rintro e w4 ⟨hk4, hsc, hi, g3, v, rfl, hpr, hP3, hS3, hm, hn, x0, x1, Vd, Vf, Ve, rfl, hrep⟩; obtain ⟨hh, la, lN, lB, lc, lK⟩ := HR.out.round (cs := #[.string x0, .int .i64 x1, .slice Vd Vf Ve]) (T := 45) (z := zFun) hG HSt.out hB HK3.out hk4 hsc hi hP3 hS3 hm hn (hrep) rfl (by omega); have HN := hid (And.intro la (And.intro lN (And.intro lB lK))); have HPR := hid hpr; clear hk4 hsc hi hpr hP3 hS3 hm hn la lN lB lK hrep)
            | (at_builtin; refine wpList_append_q _ rfl _ _ 36 36 rfl 45 45 zFun 3 48 Tryz.underlying36 Tryz.underlying36 Tryz.info45 rfl (by omega) w.heap.size HN.out.2.2.1 (some ⟨A, 0, none⟩) acc.length c hh (cellAt #[.string x0, .int .i64 x1, .slice Vd Vf Ve]) w4.heap.size 0 1 rfl rfl HN.out.1 HN.out.2.1 ?hg ?hone (by omega) (by omega) ?_))
          case hg => exact new_cells w4 #[.string x0, .int .i64 x1, .slice Vd Vf Ve] 45
          case hone =>
            intro j hj
            match j, hj with
            | 0, _ => rfl
            | 1, _ => rfl
            | 2, _ => rfl
          intro a' c' rr w5 hcase A5 N5 b5 kq; obtain ⟨A', rfl, hR5⟩ := HN.out.2.2.2 a' c' rr w5 (by rw [World.size_alloc]; exact hcase) A5 N5 b5 kq; have HR5 := hid hR5; clear hR5 hcase A5 N5 b5 kq
          go_wp2_with fail
          go_roundg m
          case measure => omega
          case rel => exact ⟨s3, g3, acc ++ [nd2], A', c', by rw [List.length_append]; rfl, hid (by rw [HPR.out]; exact H2.out), HR5⟩
      · have hl := HL.out; rw [listL_no hs] at hl; obtain rfl := Option.some.inj hl; have HS := hid hs; have HP2 := hid hP2; clear hl hs HL hP2 hS2
        go_wp2_with (go_at_call 21; refine (takes_no hG HP2.out by_ HS.out).mono ?_; rintro e w3 ⟨rfl, hb3⟩; have HB3 := hid hb3; clear hb3)
        go_ret; exact LRel.fin HSt.out HR.out HB3.out
theorem list_Clause (hG : GOk G) (hst : StOk G Mx St) (k : Nat) (fb cp : Array Value) (eg : ∀ args w, (callFunc k args).run Tryz.prog w = .ok (.enter k args) w) (by_ : List UInt8) (one : σ → PM (Nd × σ)) (hc : CloOK G na nc fa fc IsClause k fb cp one pr Mx St) (n : Nat) (w : World) (s : PSt) (g : Γ) (r : Except (Nat × Nat) ((List Nd × σ) × PSt))
    (hP : PS G (Mx g) na nc fa fc w s) (hS : St w g) (hx : list G.X n by_ one (pr g) s = some r) :
    Calls Tryz.prog 105 #[.pointer (some ⟨G.bp, 0, none⟩), .string ⟨by_.toArray⟩, .func (.func k) fb cp] w fun e w' => PostL G na nc fa fc pr Mx St w s g r e w' := by
  unfold list at hx; have hB := hP.bB
  rcases bind_cases hx with ⟨c, q, h1, rfl⟩ | ⟨⟨nd, x⟩, s1, h1, h2⟩
  · have HC := hid (hc w s g _ hP hS h1); clear hx h1 hP hS hc hst; go_enter Tryz.func105, Tryz.ntmps105
    go_wp2_with (go_at_fn k; refine HC.out.mono ?_; rintro e w1 ⟨hk, rfl⟩; unfold thrown)
    go_simp; exact ⟨rfl, hk, rfl⟩
  · have HC := hid (hc w s g _ hP hS h1); have HCl := hid hc; have HSt := hid hst; have HE := hid h2; clear hx h1 h2 hP hS hc hst; go_enter Tryz.func105, Tryz.ntmps105
    go_wp2_with (go_at_fn k; refine HC.out.mono ?_; rintro e w1 ⟨hk, hsc, hi, g1, v, rfl, hpr, hP1, hS1, hm, hn, Va, Vc, Vb, x1, x2, x3, Vj, Vl, Vk, x5, x6, x7, Vs, Vu, Vt, Vv, Vx, Vw, Vy, VA, Vz, VB, VD, VC, VE, VG, VF, rfl, hrep⟩; have HQ := hid (And.intro hk (And.intro hsc (And.intro hi (And.intro hpr (And.intro hP1 (And.intro hS1 (And.intro hm hn))))))); have HR := hid (hrep); clear hk hsc hi hpr hP1 hS1 hm hn)
    have R0 : LRel G na nc fa fc pr Mx St 13 w s g (w1.alloc (.cells #[.slice Va Vc Vb, .int .i64 x1, .string x2, .bool x3, .slice Vj Vl Vk, .int .i64 x5, .int .u64 x6, .string x7, .slice Vs Vu Vt, .slice Vv Vx Vw, .slice Vy VA Vz, .slice VB VD VC, .slice VE VG VF] 105)) s1 g1 [nd] w1.heap.size 1 := by
      obtain ⟨hk, hsc, hi, hpr, hP1, hS1, hm, hn⟩ := HQ.out; have hM := fun j hj => (hP1.mB j hj).2; have ba := below_alloc w1 (.cells #[.slice Va Vc Vb, .int .i64 x1, .string x2, .bool x3, .slice Vj Vl Vk, .int .i64 x5, .int .u64 x6, .string x7, .slice Vs Vu Vt, .slice Vv Vx Vw, .slice Vy VA Vz, .slice VB VD VC, .slice VE VG VF] 105); refine ⟨hsc, hi, by simp, hP1.alloc _, HSt.out _ _ _ hS1 (fun j hj _ => ba.block j (hM j hj)), hm, hn, fun h => by have := hM _ h; omega, ?_, hk.low ba (by have := hP1.bB; omega) hk.size⟩; refine LsA.one (cs := [.slice Va Vc Vb, .int .i64 x1, .string x2, .bool x3, .slice Vj Vl Vk, .int .i64 x5, .int .u64 x6, .string x7, .slice Vs Vu Vt, .slice Vv Vx Vw, .slice Vy VA Vz, .slice VB VD VC, .slice VE VG VF]) hk.size (by simp) (fun h => h.elim (fun h => by have := hP1.bB; omega) (fun h => h.2.2.2 rfl)) (fun j hj => ?_) (fun j _ => World.frozen?_alloc_new _ _ _ _) (RepR.on HR.out (Kb.of ba fun b hb => ?_) (fun b hb => ?_))
      · rw [World.cell?_alloc_new]; simp
      · rcases hb with hb | ⟨_, hb, _⟩
        · have := hP1.bB; omega
        · exact hb
      · rcases hb with hb | ⟨h1, h2, h3⟩
        · exact .inl hb
        · exact .inr ⟨h1, by simp; omega, h3, by omega⟩
    generalize w1.alloc (.cells #[.slice Va Vc Vb, .int .i64 x1, .string x2, .bool x3, .slice Vj Vl Vk, .int .i64 x5, .int .u64 x6, .string x7, .slice Vs Vu Vt, .slice Vv Vx Vw, .slice Vy VA Vz, .slice VB VD VC, .slice VE VG VF] 105) = W2 at R0 ⊢; have HR0 := hid R0; have HE2 : Hid (listL G.X by_ one n [nd] (pr g1) s1 = some r) := hid (by have h := HE.out; have e := HQ.out.2.2.2.1; rw [e]; exact h); clear R0 HE HC HQ HR
    go_loopg [7] n (fun gk lv wr => ∃ s1 g1 acc A c, lv = .slice (some ⟨A, 0, none⟩) acc.length c ∧ Hid (listL G.X by_ one gk acc (pr g1) s1 = some r) ∧ Hid (LRel G na nc fa fc pr Mx St 13 w s g wr s1 g1 acc A c))
    case atStart => exact ⟨s1, g1, [nd], w1.heap.size, 1, rfl, HE2, HR0⟩
    case round =>
      clear HE2 HR0; obtain ⟨s2, g2, acc, A, c, rfl, HL, HR⟩ := hrel; cases gk with
      | zero => exact absurd HL.out (by rw [listL_zero]; simp)
      | succ m =>
      have hP2 : PS G (Mx g2) na nc fa fc wr s2 := HR.out.2.2.2.1; have hS2 : St wr g2 := HR.out.2.2.2.2.1
      by_cases hs : seesS G.X [by_] s2 = true
      · have hl := HL.out; rw [listL_yes hs] at hl; have HS := hid hs
        rcases bind_cases hl with ⟨c1, q1, h1, rfl⟩ | ⟨⟨nd2, x2⟩, s3, h1, h2⟩
        · have H1 := hid h1; have HP2 := hid (And.intro hP2 hS2); clear hl h1 hs HL hP2 hS2
          go_wp2_with (first
            | (go_at_call 21; refine (takes_yes hG HP2.out.1 by_ HS.out).mono ?_; rintro e w3 ⟨rfl, hp3, hk3⟩; have HC3 := hid (HCl.out w3 _ g2 _ hp3 (HSt.out _ _ _ HP2.out.2 (fun j hj hn => hk3.blk j (HP2.out.1.mB j hj).2 hn)) H1.out); have HK3 := hid hk3; clear hp3 hk3)
            | (go_at_fn k; refine HC3.out.mono ?_; rintro e w4 ⟨hk4, rfl⟩; have HK4 := hid hk4; clear hk4; unfold thrown))
          go_simp; exact ⟨rfl, HR.out.kn HK3.out HK4.out, rfl⟩
        · have H1 := hid h1; have H2 := hid h2; have HP2 := hid (And.intro hP2 hS2); clear hl h1 h2 hs HL hP2 hS2
          go_wp2_with (first
            | (go_at_call 21; refine (takes_yes hG HP2.out.1 by_ HS.out).mono ?_; rintro e w3 ⟨rfl, hp3, hk3⟩; have HC3 := hid (HCl.out w3 _ g2 _ hp3 (HSt.out _ _ _ HP2.out.2 (fun j hj hn => hk3.blk j (HP2.out.1.mB j hj).2 hn)) H1.out); have HK3 := hid hk3; clear hp3 hk3)
            | (go_at_fn k; refine HC3.out.mono ?_; rintro e w4 ⟨hk4, hsc, hi, g3, v, rfl, hpr, hP3, hS3, hm, hn, Va, Vc, Vb, x1, x2, x3, Vj, Vl, Vk, x5, x6, x7, Vs, Vu, Vt, Vv, Vx, Vw, Vy, VA, Vz, VB, VD, VC, VE, VG, VF, rfl, hrep⟩; obtain ⟨hh, la, lN, lB, lc, lK⟩ := HR.out.round (cs := #[.slice Va Vc Vb, .int .i64 x1, .string x2, .bool x3, .slice Vj Vl Vk, .int .i64 x5, .int .u64 x6, .string x7, .slice Vs Vu Vt, .slice Vv Vx Vw, .slice Vy VA Vz, .slice VB VD VC, .slice VE VG VF]) (T := 105) (z := zClause) hG HSt.out hB HK3.out hk4 hsc hi hP3 hS3 hm hn (hrep) rfl (by omega); have HN := hid (And.intro la (And.intro lN (And.intro lB lK))); have HPR := hid hpr; clear hk4 hsc hi hpr hP3 hS3 hm hn la lN lB lK hrep)
            | (at_builtin; refine wpList_append_q _ rfl _ _ 43 43 rfl 105 105 zClause 13 232 Tryz.underlying43 Tryz.underlying43 Tryz.info105 rfl (by omega) w.heap.size HN.out.2.2.1 (some ⟨A, 0, none⟩) acc.length c hh (cellAt #[.slice Va Vc Vb, .int .i64 x1, .string x2, .bool x3, .slice Vj Vl Vk, .int .i64 x5, .int .u64 x6, .string x7, .slice Vs Vu Vt, .slice Vv Vx Vw, .slice Vy VA Vz, .slice VB VD VC, .slice VE VG VF]) w4.heap.size 0 1 rfl rfl HN.out.1 HN.out.2.1 ?hg ?hone (by omega) (by omega) ?_))
          case hg => exact new_cells w4 #[.slice Va Vc Vb, .int .i64 x1, .string x2, .bool x3, .slice Vj Vl Vk, .int .i64 x5, .int .u64 x6, .string x7, .slice Vs Vu Vt, .slice Vv Vx Vw, .slice Vy VA Vz, .slice VB VD VC, .slice VE VG VF] 105
          case hone =>
            intro j hj
            match j, hj with
            | 0, _ => rfl
            | 1, _ => rfl
            | 2, _ => rfl
            | 3, _ => rfl
            | 4, _ => rfl
            | 5, _ => rfl
            | 6, _ => rfl
            | 7, _ => rfl
            | 8, _ => rfl
            | 9, _ => rfl
            | 10, _ => rfl
            | 11, _ => rfl
            | 12, _ => rfl
          intro a' c' rr w5 hcase A5 N5 b5 kq; obtain ⟨A', rfl, hR5⟩ := HN.out.2.2.2 a' c' rr w5 (by rw [World.size_alloc]; exact hcase) A5 N5 b5 kq; have HR5 := hid hR5; clear hR5 hcase A5 N5 b5 kq
          go_wp2_with fail
          go_roundg m
          case measure => omega
          case rel => exact ⟨s3, g3, acc ++ [nd2], A', c', by rw [List.length_append]; rfl, hid (by rw [HPR.out]; exact H2.out), HR5⟩
      · have hl := HL.out; rw [listL_no hs] at hl; obtain rfl := Option.some.inj hl; have HS := hid hs; have HP2 := hid hP2; clear hl hs HL hP2 hS2
        go_wp2_with (go_at_call 21; refine (takes_no hG HP2.out by_ HS.out).mono ?_; rintro e w3 ⟨rfl, hb3⟩; have HB3 := hid hb3; clear hb3)
        go_ret; exact LRel.fin HSt.out HR.out HB3.out
end
end Go.Proofs.YtkblonfmjlopaaaGreatDoor
