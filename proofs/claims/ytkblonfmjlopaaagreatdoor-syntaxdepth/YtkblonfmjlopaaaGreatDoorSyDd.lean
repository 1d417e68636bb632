/-
  Depths of patterns and expressions, walked.
-/
import Derived.Test.YtkblonfmjlopaaaGreatDoorSyDeep
import Derived.Test.YtkblonfmjlopaaaGreatDoorRegTIn
set_option linter.all false
set_option maxRecDepth 1000000
set_option maxHeartbeats 16000000
namespace Go.Proofs.YtkblonfmjlopaaaGreatDoor
open Go Go.RowKit
theorem deep_Pat (one : Nd → Option Nat) (k : Nat) (eg : ∀ args w, (callFunc k args).run Tryz.prog w = .ok (.enter k args) w) (hs : ∀ nd d, one nd = some d → widN nd = 9) (hi : ∀ w F nd d cs, one nd = some d → RepR w F nd cs → IsPat w F nd (.agg cs.toArray)) (hone : DpF k IsPat one)
    (w : World) (F : Nat → Prop) (l : List Nd) (v : Value) (m : Nat) (hl : IsSl w F l v) (hF : ∀ b, F b → b < w.heap.size) (hm : deL one l 0 = some m) (hM : m ≤ 1000000000) :
    Calls Tryz.prog 26 #[v, .func (.func k) #[] #[]] w fun e w' => e = .returned (.int .i64 (m : Nat)) ∧ Below w.heap.size w w' := by
  obtain ⟨a, c, rfl, hr⟩ := hl; unfold RepT at hr; obtain ⟨_, _, hv, hlc, hcm, hr⟩ := hr; cases hv; have hmax : c ≤ 9223372036854775807 := by unfold maxLen at hcm; omega
  have hll : l.length ≤ 9223372036854775807 := Nat.le_trans hlc hmax; have hx : ∀ x ∈ l, widN x = 9 := fun x hx => by obtain ⟨q, hq⟩ := deL_all hm x hx; exact hs x q hq
  have HM := hid hm; have HX := hid hx; have HR := hid hr; have HF := hid hF; have HH := hid hone; clear hm hx hr hF hone; have HIS := hid hi; clear hi; go_enter Tryz.func26, Tryz.ntmps26
  go_wp2_with fail
  go_loopg [5, 10] l.length (fun g nv iv wr => ∃ i x : Nat, nv = .int .i64 (x : Nat) ∧ iv = .int .i64 (i : Nat) ∧ g + i = l.length ∧ Hid (deL one (l.drop i) x = some m) ∧ Hid (Below w.heap.size w wr))
  case atStart => exact ⟨0, 0, rfl, rfl, by omega, HM, hid (Below.refl _ _)⟩
  case round =>
  obtain ⟨i, x, rfl, rfl, hgi, HD, HB⟩ := hrel
  by_cases hi : i < l.length
  · have hlt : (i : Int) < (l.length : Int) := by omega
    obtain ⟨nd, q, hnd, h1, h2, hq⟩ := deL_at hi HD.out; have hx0 := deL_ge h2
    rcases HR.out with h0 | ⟨b, off, rfl, hb, hL⟩
    · rw [h0] at hi; simp at hi
    have hbw := HF.out b hb; obtain ⟨cs, hcl, hcs, hrr⟩ := hL.at HX.out i nd hnd; obtain ⟨x0, x1, x2, Vg, Vi, Vh, x4, x5, Vm, Vo, Vn, Vp, Vr, Vq, Vs, Vu, Vt, he, hrep⟩ := HIS.out w F nd q cs h1 hrr
    have hcs' : cs = [.int .i64 x0, .string x1, .bool x2, .slice Vg Vi Vh, .int .i64 x4, .string x5, .slice Vm Vo Vn, .slice Vp Vr Vq, .slice Vs Vu Vt] := by
      have := congrArg (fun v : Value => match v with | .agg a => a.toList | _ => []) he
      simpa using this
    subst hcs'; have q0 : wr.cell? ⟨b, off + i * 9, none⟩ = some (.int .i64 x0) := (HB.out.cell (p := ⟨b, off + i * 9, none⟩) hbw).trans (hcs 0 (by omega)); have q1 : wr.cell? ⟨b, off + i * 9 + 1, none⟩ = some (.string x1) := (HB.out.cell (p := ⟨b, off + i * 9 + 1, none⟩) hbw).trans (hcs 1 (by omega)); have q2 : wr.cell? ⟨b, off + i * 9 + 2, none⟩ = some (.bool x2) := (HB.out.cell (p := ⟨b, off + i * 9 + 2, none⟩) hbw).trans (hcs 2 (by omega)); have q3 : wr.cell? ⟨b, off + i * 9 + 3, none⟩ = some (.slice Vg Vi Vh) := (HB.out.cell (p := ⟨b, off + i * 9 + 3, none⟩) hbw).trans (hcs 3 (by omega)); have q4 : wr.cell? ⟨b, off + i * 9 + 4, none⟩ = some (.int .i64 x4) := (HB.out.cell (p := ⟨b, off + i * 9 + 4, none⟩) hbw).trans (hcs 4 (by omega)); have q5 : wr.cell? ⟨b, off + i * 9 + 5, none⟩ = some (.string x5) := (HB.out.cell (p := ⟨b, off + i * 9 + 5, none⟩) hbw).trans (hcs 5 (by omega)); have q6 : wr.cell? ⟨b, off + i * 9 + 6, none⟩ = some (.slice Vm Vo Vn) := (HB.out.cell (p := ⟨b, off + i * 9 + 6, none⟩) hbw).trans (hcs 6 (by omega)); have q7 : wr.cell? ⟨b, off + i * 9 + 7, none⟩ = some (.slice Vp Vr Vq) := (HB.out.cell (p := ⟨b, off + i * 9 + 7, none⟩) hbw).trans (hcs 7 (by omega)); have q8 : wr.cell? ⟨b, off + i * 9 + 8, none⟩ = some (.slice Vs Vu Vt) := (HB.out.cell (p := ⟨b, off + i * 9 + 8, none⟩) hbw).trans (hcs 8 (by omega)); have HI : Hid (IsPat w F nd (.agg #[.int .i64 x0, .string x1, .bool x2, .slice Vg Vi Vh, .int .i64 x4, .string x5, .slice Vm Vo Vn, .slice Vp Vr Vq, .slice Vs Vu Vt])) := hid ⟨x0, x1, x2, Vg, Vi, Vh, x4, x5, Vm, Vo, Vn, Vp, Vr, Vq, Vs, Vu, Vt, rfl, hrep⟩; have H1 := hid h1; have H2 := hid h2; clear h1 h2 HD hcs hrr hrep he hL hcl hnd
    go_wp2_with (go_at_fn k; refine (HH.out _ F nd _ q (IsPat.ok _ _ _ _ _ _ HI.out (Kb.of (HB.out.trans ((below_alloc wr _).mono HB.out.size)) HF.out) (fun _ h => h)) (fun b hb => by have := HF.out b hb; have := HB.out.size; simp; omega) H1.out (by omega)).mono ?_; rintro e w3 ⟨rfl, hb3⟩; have HB3 := hid (HB.out.trans (((below_alloc wr _).trans (hb3.mono (by simp))).mono HB.out.size)); clear hb3)
    go_roundg (gk - 1)
    case measure => omega
    case rel => exact ⟨i + 1, max x q, by first | rfl | (congr 1; omega), rfl, by omega, H2, HB3⟩
  · have hlt : ¬ (i : Int) < (l.length : Int) := by omega
    have hd : deL one (l.drop i) x = some m := HD.out; rw [List.drop_eq_nil_of_le (by omega)] at hd; obtain rfl : x = m := Option.some.inj hd; clear hd HD
    go_wp2_with fail
    refine bodyPost_ret (v := .int .i64 (x : Nat)) (by simp [results, Tryz.results26, go_sem]) rfl ⟨rfl, HB.out⟩
theorem deep_Dec (one : Nd → Option Nat) (k : Nat) (eg : ∀ args w, (callFunc k args).run Tryz.prog w = .ok (.enter k args) w) (hs : ∀ nd d, one nd = some d → widN nd = 14) (hi : ∀ w F nd d cs, one nd = some d → RepR w F nd cs → IsDec w F nd (.agg cs.toArray)) (hone : DpF k IsDec one)
    (w : World) (F : Nat → Prop) (l : List Nd) (v : Value) (m : Nat) (hl : IsSl w F l v) (hF : ∀ b, F b → b < w.heap.size) (hm : deL one l 0 = some m) (hM : m ≤ 1000000000) :
    Calls Tryz.prog 14 #[v, .func (.func k) #[] #[]] w fun e w' => e = .returned (.int .i64 (m : Nat)) ∧ Below w.heap.size w w' := by
  obtain ⟨a, c, rfl, hr⟩ := hl; unfold RepT at hr; obtain ⟨_, _, hv, hlc, hcm, hr⟩ := hr; cases hv; have hmax : c ≤ 9223372036854775807 := by unfold maxLen at hcm; omega
  have hll : l.length ≤ 9223372036854775807 := Nat.le_trans hlc hmax; have hx : ∀ x ∈ l, widN x = 14 := fun x hx => by obtain ⟨q, hq⟩ := deL_all hm x hx; exact hs x q hq
  have HM := hid hm; have HX := hid hx; have HR := hid hr; have HF := hid hF; have HH := hid hone; clear hm hx hr hF hone; have HIS := hid hi; clear hi; go_enter Tryz.func14, Tryz.ntmps14
  go_wp2_with fail
  go_loopg [5, 10] l.length (fun g nv iv wr => ∃ i x : Nat, nv = .int .i64 (x : Nat) ∧ iv = .int .i64 (i : Nat) ∧ g + i = l.length ∧ Hid (deL one (l.drop i) x = some m) ∧ Hid (Below w.heap.size w wr))
  case atStart => exact ⟨0, 0, rfl, rfl, by omega, HM, hid (Below.refl _ _)⟩
  case round =>
  obtain ⟨i, x, rfl, rfl, hgi, HD, HB⟩ := hrel
  by_cases hi : i < l.length
  · have hlt : (i : Int) < (l.length : Int) := by omega
    obtain ⟨nd, q, hnd, h1, h2, hq⟩ := deL_at hi HD.out; have hx0 := deL_ge h2
    rcases HR.out with h0 | ⟨b, off, rfl, hb, hL⟩
    · rw [h0] at hi; simp at hi
    have hbw := HF.out b hb; obtain ⟨cs, hcl, hcs, hrr⟩ := hL.at HX.out i nd hnd; obtain ⟨x0, x1, Vd, Vf, Ve, x3, x4, x5, Vm, Vo, Vn, Vp, Vr, Vq, Vs, Vu, Vt, Vv, Vx, Vw, Vy, VA, Vz, VB, VD, VC, VE, VG, VF, VH, VJ, VI, he, hrep⟩ := HIS.out w F nd q cs h1 hrr
    have hcs' : cs = [.int .i64 x0, .string x1, .slice Vd Vf Ve, .int .i64 x3, .bool x4, .bool x5, .slice Vm Vo Vn, .slice Vp Vr Vq, .slice Vs Vu Vt, .slice Vv Vx Vw, .slice Vy VA Vz, .slice VB VD VC, .slice VE VG VF, .slice VH VJ VI] := by
      have := congrArg (fun v : Value => match v with | .agg a => a.toList | _ => []) he
      simpa using this
    subst hcs'; have q0 : wr.cell? ⟨b, off + i * 14, none⟩ = some (.int .i64 x0) := (HB.out.cell (p := ⟨b, off + i * 14, none⟩) hbw).trans (hcs 0 (by omega)); have q1 : wr.cell? ⟨b, off + i * 14 + 1, none⟩ = some (.string x1) := (HB.out.cell (p := ⟨b, off + i * 14 + 1, none⟩) hbw).trans (hcs 1 (by omega)); have q2 : wr.cell? ⟨b, off + i * 14 + 2, none⟩ = some (.slice Vd Vf Ve) := (HB.out.cell (p := ⟨b, off + i * 14 + 2, none⟩) hbw).trans (hcs 2 (by omega)); have q3 : wr.cell? ⟨b, off + i * 14 + 3, none⟩ = some (.int .i64 x3) := (HB.out.cell (p := ⟨b, off + i * 14 + 3, none⟩) hbw).trans (hcs 3 (by omega)); have q4 : wr.cell? ⟨b, off + i * 14 + 4, none⟩ = some (.bool x4) := (HB.out.cell (p := ⟨b, off + i * 14 + 4, none⟩) hbw).trans (hcs 4 (by omega)); have q5 : wr.cell? ⟨b, off + i * 14 + 5, none⟩ = some (.bool x5) := (HB.out.cell (p := ⟨b, off + i * 14 + 5, none⟩) hbw).trans (hcs 5 (by omega)); have q6 : wr.cell? ⟨b, off + i * 14 + 6, none⟩ = some (.slice Vm Vo Vn) := (HB.out.cell (p := ⟨b, off + i * 14 + 6, none⟩) hbw).trans (hcs 6 (by omega)); have q7 : wr.cell? ⟨b, off + i * 14 + 7, none⟩ = some (.slice Vp Vr Vq) := (HB.out.cell (p := ⟨b, off + i * 14 + 7, none⟩) hbw).trans (hcs 7 (by omega)); have q8 : wr.cell? ⟨b, off + i * 14 + 8, none⟩ = some (.slice Vs Vu Vt) := (HB.out.cell (p := ⟨b, off + i * 14 + 8, none⟩) hbw).trans (hcs 8 (by omega)); have q9 : wr.cell? ⟨b, off + i * 14 + 9, none⟩ = some (.slice Vv Vx Vw) := (HB.out.cell (p := ⟨b, off + i * 14 + 9, none⟩) hbw).trans (hcs 9 (by omega)); have q10 : wr.cell? ⟨b, off + i * 14 + 10, none⟩ = some (.slice Vy VA Vz) := (HB.out.cell (p := ⟨b, off + i * 14 + 10, none⟩) hbw).trans (hcs 10 (by omega)); have q11 : wr.cell? ⟨b, off + i * 14 + 11, none⟩ = some (.slice VB VD VC) := (HB.out.cell (p := ⟨b, off + i * 14 + 11, none⟩) hbw).trans (hcs 11 (by omega)); have q12 : wr.cell? ⟨b, off + i * 14 + 12, none⟩ = some (.slice VE VG VF) := (HB.out.cell (p := ⟨b, off + i * 14 + 12, none⟩) hbw).trans (hcs 12 (by omega)); have q13 : wr.cell? ⟨b, off + i * 14 + 13, none⟩ = some (.slice VH VJ VI) := (HB.out.cell (p := ⟨b, off + i * 14 + 13, none⟩) hbw).trans (hcs 13 (by omega)); have HI : Hid (IsDec w F nd (.agg #[.int .i64 x0, .string x1, .slice Vd Vf Ve, .int .i64 x3, .bool x4, .bool x5, .slice Vm Vo Vn, .slice Vp Vr Vq, .slice Vs Vu Vt, .slice Vv Vx Vw, .slice Vy VA Vz, .slice VB VD VC, .slice VE VG VF, .slice VH VJ VI])) := hid ⟨x0, x1, Vd, Vf, Ve, x3, x4, x5, Vm, Vo, Vn, Vp, Vr, Vq, Vs, Vu, Vt, Vv, Vx, Vw, Vy, VA, Vz, VB, VD, VC, VE, VG, VF, VH, VJ, VI, rfl, hrep⟩; have H1 := hid h1; have H2 := hid h2; clear h1 h2 HD hcs hrr hrep he hL hcl hnd
    go_wp2_with (go_at_fn k; refine (HH.out _ F nd _ q (IsDec.ok _ _ _ _ _ _ HI.out (Kb.of (HB.out.trans ((below_alloc wr _).mono HB.out.size)) HF.out) (fun _ h => h)) (fun b hb => by have := HF.out b hb; have := HB.out.size; simp; omega) H1.out (by omega)).mono ?_; rintro e w3 ⟨rfl, hb3⟩; have HB3 := hid (HB.out.trans (((below_alloc wr _).trans (hb3.mono (by simp))).mono HB.out.size)); clear hb3)
    go_roundg (gk - 1)
    case measure => omega
    case rel => exact ⟨i + 1, max x q, by first | rfl | (congr 1; omega), rfl, by omega, H2, HB3⟩
  · have hlt : ¬ (i : Int) < (l.length : Int) := by omega
    have hd : deL one (l.drop i) x = some m := HD.out; rw [List.drop_eq_nil_of_le (by omega)] at hd; obtain rfl : x = m := Option.some.inj hd; clear hd HD
    go_wp2_with fail
    refine bodyPost_ret (v := .int .i64 (x : Nat)) (by simp [results, Tryz.results14, go_sem]) rfl ⟨rfl, HB.out⟩
theorem max_go (w : World) : ∀ (l : List Nat) (x : Nat), (List.foldlM (m := Sem) Builtin.max2 (.int .i64 (x : Nat)) (l.map fun y => .int .i64 (y : Nat))).run Tryz.prog w = .ok (.int .i64 ((l.foldl max x : Nat) : Int)) w
  | [], x => rfl
  | y :: l, x => by
    have e : (Builtin.max2 (.int .i64 (x : Nat)) (.int .i64 (y : Nat))).run Tryz.prog w = .ok (.int .i64 ((max x y : Nat) : Int)) w := by
      have e1 : (if (y : Int) > (x : Int) then (y : Int) else (x : Int)) = ((max x y : Nat) : Int) := by split <;> omega
      rw [← e1]
      rfl
    rw [List.map_cons, List.foldlM_cons, Sem.run_bind, e]; exact max_go w l (max x y)
theorem max_runs (ts : Array TypeId) (t : TypeId) (x : Nat) (l : List Nat) (w : World) : (Builtin.max_ ts t ((.int .i64 (x : Nat)) :: l.map fun y => .int .i64 (y : Nat)).toArray).run Tryz.prog w = .ok (.int .i64 ((l.foldl max x : Nat) : Int)) w := max_go w l x
theorem depE_wid {n : Nat} {nd : Nd} {d : Nat} (h : depE n nd = some d) : widN nd = 12 := by
  cases n with
  | zero => cases h
  | succ n => obtain ⟨p0, p1, p2, p3, p4, p5, p6, kids, k, rfl, _⟩ := depE_inv h; rfl
theorem depP_wid {n : Nat} {nd : Nd} {d : Nat} (h : depP n nd = some d) : widN nd = 9 := by
  cases n with
  | zero => cases h
  | succ n => obtain ⟨p0, p1, p2, p3, p4, p5, kids, k, rfl, _⟩ := depP_inv h; rfl
theorem depC_wid {n : Nat} {nd : Nd} {d : Nat} (h : depC n nd = some d) : widN nd = 13 := by
  obtain ⟨pats, e, a, b, rfl, _, h2, _⟩ := depC_inv h; have := depE_wid h2; show 1 + widN e = 13; omega
theorem depF_wid {n : Nat} {nd : Nd} {d : Nat} (h : depF n nd = some d) : widN nd = 3 := by
  obtain ⟨p0, p1, cl, rfl, _⟩ := depF_inv h; rfl
theorem depD_wid {n : Nat} {nd : Nd} {d : Nat} (h : depD n nd = some d) : widN nd = 14 := by
  obtain ⟨p0, p1, p2, p3, p4, p5, pats, exps, funs, a, b, c, rfl, _⟩ := depD_inv h; rfl
theorem depE_is {n : Nat} (w : World) (F : Nat → Prop) (nd : Nd) (d : Nat) (cs : List Value) (h : depE n nd = some d) (hr : RepR w F nd cs) : IsExp w F nd (.agg cs.toArray) := by
  cases n with
  | zero => cases h
  | succ n => obtain ⟨p0, p1, p2, p3, p4, p5, p6, kids, k, rfl, _⟩ := depE_inv h; exact is_Exp hr
theorem depP_is {n : Nat} (w : World) (F : Nat → Prop) (nd : Nd) (d : Nat) (cs : List Value) (h : depP n nd = some d) (hr : RepR w F nd cs) : IsPat w F nd (.agg cs.toArray) := by
  cases n with
  | zero => cases h
  | succ n => obtain ⟨p0, p1, p2, p3, p4, p5, kids, k, rfl, _⟩ := depP_inv h; exact is_Pat hr
theorem depC_is {n : Nat} (w : World) (F : Nat → Prop) (nd : Nd) (d : Nat) (cs : List Value) (h : depC n nd = some d) (hr : RepR w F nd cs) : IsClause w F nd (.agg cs.toArray) := by
  obtain ⟨pats, e, a, b, rfl, _, h2, _⟩ := depC_inv h; cases n with
  | zero => cases h2
  | succ n => obtain ⟨p0, p1, p2, p3, p4, p5, p6, kids, k, rfl, _⟩ := depE_inv h2; exact is_Clause hr
theorem depF_is {n : Nat} (w : World) (F : Nat → Prop) (nd : Nd) (d : Nat) (cs : List Value) (h : depF n nd = some d) (hr : RepR w F nd cs) : IsFun w F nd (.agg cs.toArray) := by
  obtain ⟨p0, p1, cl, rfl, _⟩ := depF_inv h; exact is_Fun hr
theorem depD_is {n : Nat} (w : World) (F : Nat → Prop) (nd : Nd) (d : Nat) (cs : List Value) (h : depD n nd = some d) (hr : RepR w F nd cs) : IsDec w F nd (.agg cs.toArray) := by
  obtain ⟨p0, p1, p2, p3, p4, p5, pats, exps, funs, a, b, c, rfl, _⟩ := depD_inv h; exact is_Dec hr
theorem dep_pat : ∀ n, DpF 27 IsPat (depP n)
| 0 => fun _ _ _ _ _ _ _ h _ => by cases h
| n + 1 => fun w F nd v d hI hF h hd => by
  have ih := dep_pat n; obtain ⟨p0, p1, p2, p3, p4, p5, kids, k, rfl, hk, rfl⟩ := depP_inv h; obtain ⟨x0, x1, x2, Vg, Vi, Vh, x4, x5, Vm, Vo, Vn, Vp, Vr, Vq, Vs, Vu, Vt, e, hrep⟩ := hI; obtain ⟨s2, a2, n2, c2, a5, c5, a6, c6, a7, c7, hcs, l5, l6, l7⟩ := sh_Pat hrep
  obtain rfl : v = .agg #[.int .i64 p0, .string p1, .bool s2, .slice a2 n2 c2, .int .i64 p3, .string p4, .slice a5 p5.length c5, .slice a6 kids.length c6, .slice a7 0 c7] := by
    rw [e]; show Value.agg (List.toArray _) = Value.agg (List.toArray _); rw [hcs]
    rfl
  clear e hcs hrep h; obtain ⟨z, hz⟩ : ∃ z : Nat, z = 0 := ⟨_, rfl⟩; have HZ := hid hz; clear hz; obtain ⟨mm, hmm⟩ : ∃ mm : Nat, mm = [z].foldl max (k) := ⟨_, rfl⟩; have HMM := hid hmm; clear hmm; have HF0 := hid hF; clear hF; go_enter Tryz.func27, Tryz.ntmps27
  go_upto_region 1 with fail
  have HX := hid (BxC.new w #[.int .i64 p0, .string p1, .bool s2, .slice a2 n2 c2, .int .i64 p3, .string p4, .slice a5 p5.length c5, .slice a6 kids.length c6, .slice a7 0 c7] 82); have HB := hid (below_alloc w (.cells #[.int .i64 p0, .string p1, .bool s2, .slice a2 n2 c2, .int .i64 p3, .string p4, .slice a5 p5.length c5, .slice a6 kids.length c6, .slice a7 0 c7] 82)); have HFW : Hid (∀ w' : World, Below w.heap.size w w' → ∀ b, F b → b < w'.heap.size) := hid (fun w' hb b hb' => Nat.lt_of_lt_of_le (HF0.out b hb') hb.size); have HKB : Hid (∀ w' : World, Below w.heap.size w w' → Kb w w' F) := hid (fun w' hb => Kb.of hb HF0.out); obtain ⟨eb, heb⟩ : ∃ eb, w.heap.size = eb := ⟨_, rfl⟩; rw [heb] at HX ⊢; generalize w.alloc (.cells #[.int .i64 p0, .string p1, .bool s2, .slice a2 n2 c2, .int .i64 p3, .string p4, .slice a5 p5.length c5, .slice a6 kids.length c6, .slice a7 0 c7] 82) = W0 at HX HB ⊢; clear heb; have HL : Hid (eb < W0.heap.size) := hid HX.out.1; have f0 : W0.cell? ⟨eb, 7, none⟩ = some (.slice a6 kids.length c6) := HX.out.2.2 7 (show 7 < 9 by omega); have f1 : W0.cell? ⟨eb, 8, none⟩ = some (.slice a7 0 c7) := HX.out.2.2 8 (show 8 < 9 by omega); have HB : Hid (Below w.heap.size w W0.drew) := hid HB.out.drew; have HL : Hid (eb < W0.drew.heap.size) := hid HL.out; refine region_T (S := fun wx => wx.cell? ⟨eb, 7, none⟩ = some (.slice a6 kids.length c6) ∧ wx.cell? ⟨eb, 8, none⟩ = some (.slice a7 0 c7)) (T := fun _j => false) (by kernel_rfl) ?_; have hS0 := And.intro (f0) (f1); refine tq 0 hS0 ?_; refine tq 1 hS0 ?_; refine tq 3 hS0 ?_; refine tq 4 hS0 ?_; refine on1 2 fun K hK => ?_; go_simp; refine (deep_Pat (depP n) 27 (fun _ _ => rfl) (fun _ _ h => depP_wid h) (fun w F nd d cs h hr => depP_is w F nd d cs h hr) ih _ F kids _ k (l6.on (HKB.out _ HB.out) (fun _ h => h)) (HFW.out _ HB.out) hk (by omega)).mono ?_; rintro e w2 ⟨rfl, hb⟩; have hS1 := And.intro ((hb.cell (p := ⟨eb, 7, none⟩) HL.out).trans (hS0).1) ((hb.cell (p := ⟨eb, 8, none⟩) HL.out).trans (hS0).2); have HB := hid (HB.out.trans (hb.mono HB.out.size)); have HL := hid (Nat.lt_of_lt_of_le HL.out hb.size); clear hb; refine nx hK hS1 ?_; clear hK K; refine on1 5 fun K hK => ?_; go_simp; refine (deep_Type _ F _ _ z HZ.out (l7.on (HKB.out _ HB.out) (fun _ h => h))).mono ?_; rintro e w5 ⟨rfl, hb⟩; have hS2 := And.intro ((hb.cell (p := ⟨eb, 7, none⟩) HL.out).trans (hS1).1) ((hb.cell (p := ⟨eb, 8, none⟩) HL.out).trans (hS1).2); have HB := hid (HB.out.trans (hb.mono HB.out.size)); have HL := hid (Nat.lt_of_lt_of_le HL.out hb.size); clear hb; refine nx hK hS2 ?_; clear hK K; refine anyT_take (i := 6) (v := .int .i64 (mm : Nat)) rfl (by kernel_rfl) (by kernel_rfl) (by kernel_rfl) (by kernel_rfl) (by kernel_rfl) (fun _ _ _ h => h) (Or.inl ⟨by rfl, ?_⟩) (by simpa using hS2) ?_
  · intro wz hz; go_simp; rw [HMM.out]; show max (k : Int) (z : Int) = ((max k z : Nat) : Int); omega
  try simp only [Act.put, List.getElem_toArray, List.getElem_cons_zero, List.getElem_cons_succ, List.setIfInBounds_toArray, List.set_cons_zero, List.set_cons_succ]
  refine tq 7 hS2 ?_; refine tq 8 hS2 ?_; refine anyT_done (by kernel_rfl) ?_ _; have hmm2 := HMM.out; simp only [List.foldl_cons, List.foldl_nil] at hmm2; have hz2 := HZ.out; have e2 : IntKind.i64.wrap (1 + (mm : Int)) = (((1 + k) : Nat) : Int) := by rw [IntKind.wrap_i64]; omega
  clear hmm2 hz2
  go_wp2_with fail
  refine bodyPost_ret (v := .int .i64 (((1 + k) : Nat) : Int)) ?_ rfl ⟨rfl, HB.out⟩; simp [results, Tryz.results27, go_sem, e2]
theorem dep_exp : ∀ n, DpF 29 IsExp (depE n)
| 0 => fun _ _ _ _ _ _ _ h _ => by cases h
| n + 1 => fun w F nd v d hI hF h hd => by
  have ih := dep_exp n; obtain ⟨p0, p1, p2, p3, p4, p5, p6, kids, k, rfl, hk, rfl⟩ := depE_inv h; obtain ⟨x0, x1, x2, Vg, Vi, Vh, x4, x5, x6, Vp, Vr, Vq, Vs, Vu, Vt, Vv, Vx, Vw, Vy, VA, Vz, VB, VD, VC, e, hrep⟩ := hI; obtain ⟨s2, a2, n2, c2, a6, c6, a7, c7, a8, c8, a9, c9, a10, c10, hcs, l6, l7, l8, l9, l10⟩ := sh_Exp hrep
  obtain rfl : v = .agg #[.int .i64 p0, .string p1, .bool s2, .slice a2 n2 c2, .int .i64 p3, .int .u64 p4, .string p5, .slice a6 p6.length c6, .slice a7 kids.length c7, .slice a8 0 c8, .slice a9 0 c9, .slice a10 0 c10] := by
    rw [e]; show Value.agg (List.toArray _) = Value.agg (List.toArray _); rw [hcs]
    rfl
  clear e hcs hrep h; obtain ⟨z, hz⟩ : ∃ z : Nat, z = 0 := ⟨_, rfl⟩; have HZ := hid hz; clear hz; obtain ⟨mm, hmm⟩ : ∃ mm : Nat, mm = [z, z, z].foldl max (k) := ⟨_, rfl⟩; have HMM := hid hmm; clear hmm; have HF0 := hid hF; clear hF; go_enter Tryz.func29, Tryz.ntmps29
  go_upto_region 1 with fail
  have HX := hid (BxC.new w #[.int .i64 p0, .string p1, .bool s2, .slice a2 n2 c2, .int .i64 p3, .int .u64 p4, .string p5, .slice a6 p6.length c6, .slice a7 kids.length c7, .slice a8 0 c8, .slice a9 0 c9, .slice a10 0 c10] 87); have HB := hid (below_alloc w (.cells #[.int .i64 p0, .string p1, .bool s2, .slice a2 n2 c2, .int .i64 p3, .int .u64 p4, .string p5, .slice a6 p6.length c6, .slice a7 kids.length c7, .slice a8 0 c8, .slice a9 0 c9, .slice a10 0 c10] 87)); have HFW : Hid (∀ w' : World, Below w.heap.size w w' → ∀ b, F b → b < w'.heap.size) := hid (fun w' hb b hb' => Nat.lt_of_lt_of_le (HF0.out b hb') hb.size); have HKB : Hid (∀ w' : World, Below w.heap.size w w' → Kb w w' F) := hid (fun w' hb => Kb.of hb HF0.out); obtain ⟨eb, heb⟩ : ∃ eb, w.heap.size = eb := ⟨_, rfl⟩; rw [heb] at HX ⊢; generalize w.alloc (.cells #[.int .i64 p0, .string p1, .bool s2, .slice a2 n2 c2, .int .i64 p3, .int .u64 p4, .string p5, .slice a6 p6.length c6, .slice a7 kids.length c7, .slice a8 0 c8, .slice a9 0 c9, .slice a10 0 c10] 87) = W0 at HX HB ⊢; clear heb; have HL : Hid (eb < W0.heap.size) := hid HX.out.1; have f0 : W0.cell? ⟨eb, 8, none⟩ = some (.slice a7 kids.length c7) := HX.out.2.2 8 (show 8 < 12 by omega); have f1 : W0.cell? ⟨eb, 11, none⟩ = some (.slice a10 0 c10) := HX.out.2.2 11 (show 11 < 12 by omega); have f2 : W0.cell? ⟨eb, 10, none⟩ = some (.slice a9 0 c9) := HX.out.2.2 10 (show 10 < 12 by omega); have f3 : W0.cell? ⟨eb, 9, none⟩ = some (.slice a8 0 c8) := HX.out.2.2 9 (show 9 < 12 by omega); have HB : Hid (Below w.heap.size w W0.drew) := hid HB.out.drew; have HL : Hid (eb < W0.drew.heap.size) := hid HL.out; refine region_T (S := fun wx => wx.cell? ⟨eb, 8, none⟩ = some (.slice a7 kids.length c7) ∧ wx.cell? ⟨eb, 11, none⟩ = some (.slice a10 0 c10) ∧ wx.cell? ⟨eb, 10, none⟩ = some (.slice a9 0 c9) ∧ wx.cell? ⟨eb, 9, none⟩ = some (.slice a8 0 c8)) (T := fun _j => false) (by kernel_rfl) ?_; have hS0 := And.intro (f0) (And.intro (f1) (And.intro (f2) (f3))); refine tq 0 hS0 ?_; refine tq 1 hS0 ?_; refine tq 3 hS0 ?_; refine tq 4 hS0 ?_; refine tq 6 hS0 ?_; refine tq 7 hS0 ?_; refine tq 9 hS0 ?_; refine tq 10 hS0 ?_; refine on1 2 fun K hK => ?_; go_simp; refine (deep_Exp (depE n) 29 (fun _ _ => rfl) (fun _ _ h => depE_wid h) (fun w F nd d cs h hr => depE_is w F nd d cs h hr) ih _ F kids _ k (l7.on (HKB.out _ HB.out) (fun _ h => h)) (HFW.out _ HB.out) hk (by omega)).mono ?_; rintro e w2 ⟨rfl, hb⟩; have hS1 := And.intro ((hb.cell (p := ⟨eb, 8, none⟩) HL.out).trans (hS0).1) (And.intro ((hb.cell (p := ⟨eb, 11, none⟩) HL.out).trans (hS0).2.1) (And.intro ((hb.cell (p := ⟨eb, 10, none⟩) HL.out).trans (hS0).2.2.1) ((hb.cell (p := ⟨eb, 9, none⟩) HL.out).trans (hS0).2.2.2))); have HB := hid (HB.out.trans (hb.mono HB.out.size)); have HL := hid (Nat.lt_of_lt_of_le HL.out hb.size); clear hb; refine nx hK hS1 ?_; clear hK K; refine on1 5 fun K hK => ?_; go_simp; refine (deep_Type _ F _ _ z HZ.out (l10.on (HKB.out _ HB.out) (fun _ h => h))).mono ?_; rintro e w5 ⟨rfl, hb⟩; have hS2 := And.intro ((hb.cell (p := ⟨eb, 8, none⟩) HL.out).trans (hS1).1) (And.intro ((hb.cell (p := ⟨eb, 11, none⟩) HL.out).trans (hS1).2.1) (And.intro ((hb.cell (p := ⟨eb, 10, none⟩) HL.out).trans (hS1).2.2.1) ((hb.cell (p := ⟨eb, 9, none⟩) HL.out).trans (hS1).2.2.2))); have HB := hid (HB.out.trans (hb.mono HB.out.size)); have HL := hid (Nat.lt_of_lt_of_le HL.out hb.size); clear hb; refine nx hK hS2 ?_; clear hK K; refine on1 8 fun K hK => ?_; go_simp; refine (deep_Dec (fun _ => none) 15 (fun _ _ => rfl) (fun _ _ h => by cases h) (fun _ _ _ _ _ h => by cases h) (fun _ _ _ _ _ _ _ h => by cases h) _ F [] _ z (l9.on (HKB.out _ HB.out) (fun _ h => h)) (HFW.out _ HB.out) (by rw [HZ.out]; rfl) (by have := HZ.out; omega)).mono ?_; rintro e w8 ⟨rfl, hb⟩; have hS3 := And.intro ((hb.cell (p := ⟨eb, 8, none⟩) HL.out).trans (hS2).1) (And.intro ((hb.cell (p := ⟨eb, 11, none⟩) HL.out).trans (hS2).2.1) (And.intro ((hb.cell (p := ⟨eb, 10, none⟩) HL.out).trans (hS2).2.2.1) ((hb.cell (p := ⟨eb, 9, none⟩) HL.out).trans (hS2).2.2.2))); have HB := hid (HB.out.trans (hb.mono HB.out.size)); have HL := hid (Nat.lt_of_lt_of_le HL.out hb.size); clear hb; refine nx hK hS3 ?_; clear hK K; refine on1 11 fun K hK => ?_; go_simp; refine (deep_Rule _ F _ _ z HZ.out (l8.on (HKB.out _ HB.out) (fun _ h => h))).mono ?_; rintro e w11 ⟨rfl, hb⟩; have hS4 := And.intro ((hb.cell (p := ⟨eb, 8, none⟩) HL.out).trans (hS3).1) (And.intro ((hb.cell (p := ⟨eb, 11, none⟩) HL.out).trans (hS3).2.1) (And.intro ((hb.cell (p := ⟨eb, 10, none⟩) HL.out).trans (hS3).2.2.1) ((hb.cell (p := ⟨eb, 9, none⟩) HL.out).trans (hS3).2.2.2))); have HB := hid (HB.out.trans (hb.mono HB.out.size)); have HL := hid (Nat.lt_of_lt_of_le HL.out hb.size); clear hb; refine nx hK hS4 ?_; clear hK K; refine anyT_take (i := 12) (v := .int .i64 (mm : Nat)) rfl (by kernel_rfl) (by kernel_rfl) (by kernel_rfl) (by kernel_rfl) (by kernel_rfl) (fun _ _ _ h => h) (Or.inl ⟨by rfl, ?_⟩) (by simpa using hS4) ?_
  · intro wz hz; go_simp; rw [HMM.out]; exact (congrArg (fun r => Result.andThen r _) (max_runs _ _ k [z, z, z] wz)).trans rfl
  try simp only [Act.put, List.getElem_toArray, List.getElem_cons_zero, List.getElem_cons_succ, List.setIfInBounds_toArray, List.set_cons_zero, List.set_cons_succ]
  refine tq 13 hS4 ?_; refine tq 14 hS4 ?_; refine anyT_done (by kernel_rfl) ?_ _; have hmm2 := HMM.out; simp only [List.foldl_cons, List.foldl_nil] at hmm2; have hz2 := HZ.out; have e2 : IntKind.i64.wrap (1 + (mm : Int)) = (((1 + k) : Nat) : Int) := by rw [IntKind.wrap_i64]; omega
  clear hmm2 hz2
  go_wp2_with fail
  refine bodyPost_ret (v := .int .i64 (((1 + k) : Nat) : Int)) ?_ rfl ⟨rfl, HB.out⟩; simp [results, Tryz.results29, go_sem, e2]
end Go.Proofs.YtkblonfmjlopaaaGreatDoor
