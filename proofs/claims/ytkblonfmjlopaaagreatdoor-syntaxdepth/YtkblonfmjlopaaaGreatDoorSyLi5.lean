/-
  atom, walked: what stands in square or curly brackets, op, #, let apart.
-/
import Derived.Test.YtkblonfmjlopaaaGreatDoorRegTIn
import Derived.Test.YtkblonfmjlopaaaGreatDoorSyDp
import Derived.Test.YtkblonfmjlopaaaGreatDoorSyMk
import Derived.Test.YtkblonfmjlopaaaGreatDoorSxT
import Derived.Test.YtkblonfmjlopaaaGreatDoorSyRet
import Derived.Test.YtkblonfmjlopaaaGreatDoorSyTyped
set_option linter.all false
set_option maxRecDepth 1000000
set_option maxHeartbeats 16000000
namespace Go.Proofs.YtkblonfmjlopaaaGreatDoor
open Go Go.RowKit
theorem starts_in {X : Tx} {s : PSt} (h : startsS X s = true) : s.i < X.ts.length := by
  unfold startsS operandS at h; simp only [Bool.or_eq_true, Bool.and_eq_true, beq_iff_eq] at h
  rcases h with ((((h | h) | h) | h) | h) | h
  · exact nextS_in (by omega)
  · exact nextS_in (by omega)
  · exact nextS_in (by omega)
  · exact nextS_in (by omega)
  · rcases h.1 with q | q <;> exact nextS_in (by omega)
  · exact sees_in h
section
variable {G : Gh} {f : Fs} {n : Nat}
theorem atom_any (hG : GOk G) (hpar : FN G 243 #[.pointer (some ⟨G.bp, 0, none⟩)] IsExp (paren G.X f)) (hatm : ∀ w, f.atm w = PM.none) : FN G 218 #[.pointer (some ⟨G.bp, 0, none⟩)] IsExp (atom G.X f) := by
  intro M na nc fa fc w s r hP hx; have hB := hP.bB; have HP := hid hP; have hmf : ∀ (fn : Fn) (first cap : Array Value) (w : World), (Instr.makeFunc fn first cap).run Tryz.prog w = .ok (.func fn first cap) w := fun _ _ _ _ => rfl; unfold atom at hx
  by_cases ha : startsS G.X s = true
  · rw [if_pos ha] at hx; have HX := hid hx; have HA := hid ha; have HI := hid (starts_in ha); clear hx ha hP; go_enter Tryz.func218, Tryz.ntmps218
    go_upto_region 1 with fail
    have R0 : RFr G M na nc fa fc #[.int .i64 0, .string ⟨#[]⟩, .bool false, .slice none 0 0, .int .i64 0, .int .u64 0, .string ⟨#[]⟩, .slice none 0 0, .slice none 0 0, .slice none 0 0, .slice none 0 0, .slice none 0 0] w (w.alloc (.cells #[.pointer (some ⟨G.bp, 0, none⟩)] 49)).heap.size s ((w.alloc (.cells #[.pointer (some ⟨G.bp, 0, none⟩)] 49)).alloc (.cells #[.int .i64 0, .string ⟨#[]⟩, .bool false, .slice none 0 0, .int .i64 0, .int .u64 0, .string ⟨#[]⟩, .slice none 0 0, .slice none 0 0, .slice none 0 0, .slice none 0 0, .slice none 0 0] 87)) s := RFr.start2 HP.out (below_alloc w _) 87; have P0 := (BxC.new w #[.pointer (some ⟨G.bp, 0, none⟩)] 49).bl (below_alloc _ (.cells #[.int .i64 0, .string ⟨#[]⟩, .bool false, .slice none 0 0, .int .i64 0, .int .u64 0, .string ⟨#[]⟩, .slice none 0 0, .slice none 0 0, .slice none 0 0, .slice none 0 0, .slice none 0 0] 87)); rw [show (w.alloc (.cells #[.pointer (some ⟨G.bp, 0, none⟩)] 49)).heap.size = w.heap.size + 1 from by simp] at R0; obtain ⟨rb, hrb⟩ : ∃ rb, w.heap.size + 1 = rb := ⟨_, rfl⟩; rw [hrb] at R0 ⊢; generalize (w.alloc (.cells #[.pointer (some ⟨G.bp, 0, none⟩)] 49)).alloc (.cells #[.int .i64 0, .string ⟨#[]⟩, .bool false, .slice none 0 0, .int .i64 0, .int .u64 0, .string ⟨#[]⟩, .slice none 0 0, .slice none 0 0, .slice none 0 0, .slice none 0 0, .slice none 0 0] 87) = W0 at R0 P0 ⊢; have HR0 := hid R0; have HP0 := hid P0; have HRB := hid hrb; clear R0 P0 hrb; have p0 : W0.cell? ⟨w.heap.size, 0, none⟩ = some (.pointer (some ⟨G.bp, 0, none⟩)) := HP0.out.2.2 0 (show 0 < 1 by omega)
    go_upto_region 4 with (first
      | (go_at_call 219; refine (starts_any hG HR0.out.ps).mono ?_; rintro e w1 ⟨rfl, hb⟩; rw [HA.out]; have HR1 := hid (HR0.out.below hb); have HP1 := hid (HP0.out.bl hb); have p1 : w1.cell? ⟨w.heap.size, 0, none⟩ = some (.pointer (some ⟨G.bp, 0, none⟩)) := HP1.out.2.2 0 (show 0 < 1 by omega); clear hb)
      | (go_at_call 63; refine (next_any hG HR1.out.ps).mono ?_; rintro e w2 ⟨sg, am, nm, cm, rfl, hmg, hb⟩; have HMG := hid hmg; have HR2 := hid (HR1.out.below hb); have HP2 := hid (HP1.out.bl hb); clear hmg hb))
    have R3 := HR2.out.below (below_alloc w2 (.cells #[.int .i64 ((nextS G.X s).kind : Nat), .string ⟨(nextS G.X s).text.toArray⟩, .bool sg, .slice am nm cm, .int .u64 ((nextS G.X s).bits : Nat), .int .i64 ((nextS G.X s).n : Nat), .int .i64 ((nextS G.X s).pos : Nat)] 75)); have T3 := BxC.new w2 #[.int .i64 ((nextS G.X s).kind : Nat), .string ⟨(nextS G.X s).text.toArray⟩, .bool sg, .slice am nm cm, .int .u64 ((nextS G.X s).bits : Nat), .int .i64 ((nextS G.X s).n : Nat), .int .i64 ((nextS G.X s).pos : Nat)] 75; have P3 := HP2.out.bl (below_alloc w2 (.cells #[.int .i64 ((nextS G.X s).kind : Nat), .string ⟨(nextS G.X s).text.toArray⟩, .bool sg, .slice am nm cm, .int .u64 ((nextS G.X s).bits : Nat), .int .i64 ((nextS G.X s).n : Nat), .int .i64 ((nextS G.X s).pos : Nat)] 75)); have HTB : Hid (w.heap.size ≤ w2.heap.size ∧ rb < w2.heap.size) := hid ⟨HR2.out.kn.size, HR2.out.lt⟩; obtain ⟨tb, htb⟩ : ∃ tb, w2.heap.size = tb := ⟨_, rfl⟩; rw [htb] at T3 HTB ⊢; generalize w2.alloc (.cells #[.int .i64 ((nextS G.X s).kind : Nat), .string ⟨(nextS G.X s).text.toArray⟩, .bool sg, .slice am nm cm, .int .u64 ((nextS G.X s).bits : Nat), .int .i64 ((nextS G.X s).n : Nat), .int .i64 ((nextS G.X s).pos : Nat)] 75) = W3 at R3 T3 P3 ⊢; clear htb; have HR3 := hid R3; have HT3 := hid T3; have HP3 := hid P3; clear R3 T3 P3; have p3 : W3.cell? ⟨w.heap.size, 0, none⟩ = some (.pointer (some ⟨G.bp, 0, none⟩)) := HP3.out.2.2 0 (show 0 < 1 by omega); have c1 := HR3.out.ps.c1; have fr := HR3.out.ps.fr; have hlen := HI.out; have hfew := hG.few
    go_upto_region 5 with fail
    have KN := ((Kn.refl G.B (Jp G) W3).step HR3.out.ps rfl (.int .i64 ((s.i : Int) + 1))).jp HR3.out.ps.mp; have R4 := HR3.out.step HI.out; have T4 := HT3.out.kn KN (fun q => by have := HR3.out.mw _ q; have := HTB.out.1; omega); have P4 := HP3.out.kn KN (fun q => by have := HR3.out.mw _ q; omega); clear KN p3 c1 fr hlen hfew p0; generalize W3.setCell ⟨G.bp, 1, none⟩ (.int .i64 ((s.i : Int) + 1)) = W4 at R4 T4 P4 ⊢; have HR4 := hid R4; have HT4 := hid T4; have HP4 := hid P4; clear R4 T4 P4; have hx := HX.out; clear HX
    try simp only [] at hx
    by_cases k4 : (nextS G.X s).kind = 4
    · rw [if_pos k4] at hx; have e4 : (((nextS G.X s).kind : Nat) : Int) = 4 := by omega
      obtain rfl := pure_inv hx; clear hx; have t0 : W4.cell? ⟨tb, 0, none⟩ = some (.int .i64 ((nextS G.X s).kind : Nat)) := HT4.out.2.2 0 (show 0 < 7 by omega); have t2 : W4.cell? ⟨tb, 2, none⟩ = some (.bool sg) := HT4.out.2.2 2 (show 2 < 7 by omega); have t3 : W4.cell? ⟨tb, 3, none⟩ = some (.slice am nm cm) := HT4.out.2.2 3 (show 3 < 7 by omega); have HT := ret2Exp HR4.out (by rfl) (show RepR W4 _ _ [.int .i64 1, .string ⟨#[]⟩, .bool sg, .slice am nm cm, .int .i64 0, .int .u64 0, .string ⟨#[]⟩, .slice none 0 0, .slice none 0 0, .slice none 0 0, .slice none 0 0, .slice none 0 0] from mkExp_rep (w := W4) (F := (fun b => b < G.B)) (kind := 1) (name := []) (n := 0) (bits := 0) (text := []) (ls := []) (kids := []) (rules := []) (decs := []) (types := []) (repMg HR4.out.ps HMG.out (fun b hb => hb)) repNil repNil repNil repNil repNil) (fun b hb => .inl hb); have HF := hid HT.2; have HRS := hid HT.1; clear HT; have hz := HR4.out.res.2.2; have hzf := HR4.out.res.2.1; obtain ⟨z0, z1, z2, z3, z4, z5, z6, z7, z8, z9, z10, z11⟩ := bx12 hz; clear hz
      go_wp2_with fail
      refine fin12 HRS.out (by intros; simp [results, Tryz.results218, go_sem, *]) rfl HF.out
    · rw [if_neg k4] at hx; have e4 : ¬ (((nextS G.X s).kind : Nat) : Int) = 4 := by omega
      by_cases k5 : (nextS G.X s).kind = 5
      · rw [if_pos k5] at hx; have e5 : (((nextS G.X s).kind : Nat) : Int) = 5 := by omega
        obtain rfl := pure_inv hx; clear hx; have t0 : W4.cell? ⟨tb, 0, none⟩ = some (.int .i64 ((nextS G.X s).kind : Nat)) := HT4.out.2.2 0 (show 0 < 7 by omega); have t4 : W4.cell? ⟨tb, 4, none⟩ = some (.int .u64 ((nextS G.X s).bits : Nat)) := HT4.out.2.2 4 (show 4 < 7 by omega); have HT := ret2Exp HR4.out (by rfl) (show RepR W4 _ _ [.int .i64 2, .string ⟨#[]⟩, .bool false, .slice none 0 0, .int .i64 0, .int .u64 ((nextS G.X s).bits : Nat), .string ⟨#[]⟩, .slice none 0 0, .slice none 0 0, .slice none 0 0, .slice none 0 0, .slice none 0 0] from mkExp_rep (w := W4) (F := (fun b => b < G.B)) (kind := 2) (name := []) (n := 0) (bits := (nextS G.X s).bits) (text := []) (ls := []) (kids := []) (rules := []) (decs := []) (types := []) repZero repNil repNil repNil repNil repNil) (fun b hb => .inl hb); have HF := hid HT.2; have HRS := hid HT.1; clear HT; have hz := HR4.out.res.2.2; have hzf := HR4.out.res.2.1; obtain ⟨z0, z1, z2, z3, z4, z5, z6, z7, z8, z9, z10, z11⟩ := bx12 hz; clear hz
        go_wp2_with fail
        refine fin12 HRS.out (by intros; simp [results, Tryz.results218, go_sem, *]) rfl HF.out
      · rw [if_neg k5] at hx; have e5 : ¬ (((nextS G.X s).kind : Nat) : Int) = 5 := by omega
        by_cases k6 : (nextS G.X s).kind = 6
        · rw [if_pos k6] at hx; have e6 : (((nextS G.X s).kind : Nat) : Int) = 6 := by omega
          obtain rfl := pure_inv hx; clear hx; have t0 : W4.cell? ⟨tb, 0, none⟩ = some (.int .i64 ((nextS G.X s).kind : Nat)) := HT4.out.2.2 0 (show 0 < 7 by omega); have t5 : W4.cell? ⟨tb, 5, none⟩ = some (.int .i64 ((nextS G.X s).n : Nat)) := HT4.out.2.2 5 (show 5 < 7 by omega); have HT := ret2Exp HR4.out (by rfl) (show RepR W4 _ _ [.int .i64 3, .string ⟨#[]⟩, .bool false, .slice none 0 0, .int .i64 ((nextS G.X s).n : Nat), .int .u64 0, .string ⟨#[]⟩, .slice none 0 0, .slice none 0 0, .slice none 0 0, .slice none 0 0, .slice none 0 0] from mkExp_rep (w := W4) (F := (fun b => b < G.B)) (kind := 3) (name := []) (n := ((nextS G.X s).n : Nat)) (bits := 0) (text := []) (ls := []) (kids := []) (rules := []) (decs := []) (types := []) repZero repNil repNil repNil repNil repNil) (fun b hb => .inl hb); have HF := hid HT.2; have HRS := hid HT.1; clear HT; have hz := HR4.out.res.2.2; have hzf := HR4.out.res.2.1; obtain ⟨z0, z1, z2, z3, z4, z5, z6, z7, z8, z9, z10, z11⟩ := bx12 hz; clear hz
          go_wp2_with fail
          refine fin12 HRS.out (by intros; simp [results, Tryz.results218, go_sem, *]) rfl HF.out
        · rw [if_neg k6] at hx; have e6 : ¬ (((nextS G.X s).kind : Nat) : Int) = 6 := by omega
          by_cases k7 : (nextS G.X s).kind = 7
          · rw [if_pos k7] at hx; have e7 : (((nextS G.X s).kind : Nat) : Int) = 7 := by omega
            obtain rfl := pure_inv hx; clear hx; have t0 : W4.cell? ⟨tb, 0, none⟩ = some (.int .i64 ((nextS G.X s).kind : Nat)) := HT4.out.2.2 0 (show 0 < 7 by omega); have t1 : W4.cell? ⟨tb, 1, none⟩ = some (.string ⟨(nextS G.X s).text.toArray⟩) := HT4.out.2.2 1 (show 1 < 7 by omega); have HT := ret2Exp HR4.out (by rfl) (show RepR W4 _ _ [.int .i64 4, .string ⟨#[]⟩, .bool false, .slice none 0 0, .int .i64 0, .int .u64 0, .string ⟨(nextS G.X s).text.toArray⟩, .slice none 0 0, .slice none 0 0, .slice none 0 0, .slice none 0 0, .slice none 0 0] from mkExp_rep (w := W4) (F := (fun b => b < G.B)) (kind := 4) (name := []) (n := 0) (bits := 0) (text := (nextS G.X s).text) (ls := []) (kids := []) (rules := []) (decs := []) (types := []) repZero repNil repNil repNil repNil repNil) (fun b hb => .inl hb); have HF := hid HT.2; have HRS := hid HT.1; clear HT; have hz := HR4.out.res.2.2; have hzf := HR4.out.res.2.1; obtain ⟨z0, z1, z2, z3, z4, z5, z6, z7, z8, z9, z10, z11⟩ := bx12 hz; clear hz
            go_wp2_with fail
            refine fin12 HRS.out (by intros; simp [results, Tryz.results218, go_sem, *]) rfl HF.out
          · rw [if_neg k7] at hx; have e7 : ¬ (((nextS G.X s).kind : Nat) : Int) = 7 := by omega
            by_cases k8 : (nextS G.X s).kind = 8
            · rw [if_pos k8] at hx; have e8 : (((nextS G.X s).kind : Nat) : Int) = 8 := by omega
              have p4 : W4.cell? ⟨w.heap.size, 0, none⟩ = some (.pointer (some ⟨G.bp, 0, none⟩)) := HP4.out.2.2 0 (show 0 < 1 by omega); have t0 : W4.cell? ⟨tb, 0, none⟩ = some (.int .i64 ((nextS G.X s).kind : Nat)) := HT4.out.2.2 0 (show 0 < 7 by omega)
              by_cases kp : (nextS G.X s).text = [40]
              · rw [if_pos kp] at hx; have t1 : W4.cell? ⟨tb, 1, none⟩ = some (.string ⟨#[40]⟩) := (HT4.out.2.2 1 (show 1 < 7 by omega)).trans (by rw [kp]; rfl); have HY := hid hx; clear hx
                rcases r with ⟨c, q⟩ | ⟨nd, s5⟩
                · go_wp2_with (go_at_call 243; refine (hpar M na nc fa fc _ _ _ HR4.out.ps HY.out).mono ?_; rintro e w5 ⟨hk, rfl⟩; unfold thrown)
                  go_simp; exact ⟨rfl, HR4.out.kn.go hk, rfl⟩
                · go_wp2_with (go_at_call 243; refine (hpar M na nc fa fc _ _ _ HR4.out.ps HY.out).mono ?_; rintro e w5 ⟨hk, hsc, hi, hP5, v5, rfl, x0, x1, x2, Vg, Vi, Vh, x4, x5, x6, Vp, Vr, Vq, Vs, Vu, Vt, Vv, Vx, Vw, Vy, VA, Vz, VB, VD, VC, rfl, hrep⟩; have HR5 := hid (HR4.out.go hk hP5 hsc hi); have HREP := hid hrep; clear hk hsc hi hP5 hrep; have hz := HR5.out.res.2.2; have hzf := HR5.out.res.2.1; obtain ⟨z0, z1, z2, z3, z4, z5, z6, z7, z8, z9, z10, z11⟩ := bx12 hz; clear hz)
                  have HT := ret2Exp HR5.out (by rfl) (show RepR w5 _ _ [.int .i64 x0, .string x1, .bool x2, .slice Vg Vi Vh, .int .i64 x4, .int .u64 x5, .string x6, .slice Vp Vr Vq, .slice Vs Vu Vt, .slice Vv Vx Vw, .slice Vy VA Vz, .slice VB VD VC] from HREP.out) (fun b hb => hb.imp id fun q => by have h1 := q.1; have h2 := q.2.1; have h3 := HR4.out.kn.size; have h4 := HR4.out.lt; exact ⟨by omega, h2, by omega⟩); have HF := hid HT.2; have HRS := hid HT.1; clear HT; refine fin12 HRS.out (by intros; simp [results, Tryz.results218, go_sem, *]) rfl HF.out
              · rw [if_neg kp, hatm] at hx; cases hx
            · rw [if_neg k8] at hx; have e8 : ¬ (((nextS G.X s).kind : Nat) : Int) = 8 := by omega
              obtain rfl := pure_inv hx; clear hx; have t0 : W4.cell? ⟨tb, 0, none⟩ = some (.int .i64 ((nextS G.X s).kind : Nat)) := HT4.out.2.2 0 (show 0 < 7 by omega); have t1 : W4.cell? ⟨tb, 1, none⟩ = some (.string ⟨(nextS G.X s).text.toArray⟩) := HT4.out.2.2 1 (show 1 < 7 by omega); have HT := ret2Exp HR4.out (by rfl) (show RepR W4 _ _ [.int .i64 5, .string ⟨(nextS G.X s).text.toArray⟩, .bool false, .slice none 0 0, .int .i64 0, .int .u64 0, .string ⟨#[]⟩, .slice none 0 0, .slice none 0 0, .slice none 0 0, .slice none 0 0, .slice none 0 0] from mkExp_rep (w := W4) (F := (fun b => b < G.B)) (kind := 5) (name := (nextS G.X s).text) (n := 0) (bits := 0) (text := []) (ls := []) (kids := []) (rules := []) (decs := []) (types := []) repZero repNil repNil repNil repNil repNil) (fun b hb => .inl hb); have HF := hid HT.2; have HRS := hid HT.1; clear HT; have hz := HR4.out.res.2.2; have hzf := HR4.out.res.2.1; obtain ⟨z0, z1, z2, z3, z4, z5, z6, z7, z8, z9, z10, z11⟩ := bx12 hz; clear hz
              go_wp2_with fail
              refine fin12 HRS.out (by intros; simp [results, Tryz.results218, go_sem, *]) rfl HF.out
  · rw [if_neg ha] at hx; have HA : Hid (startsS G.X s = false) := hid (by simpa using ha); have HX := hid hx; clear hx ha hP; go_enter Tryz.func218, Tryz.ntmps218
    go_upto_region 1 with fail
    have R0 : RFr G M na nc fa fc #[.int .i64 0, .string ⟨#[]⟩, .bool false, .slice none 0 0, .int .i64 0, .int .u64 0, .string ⟨#[]⟩, .slice none 0 0, .slice none 0 0, .slice none 0 0, .slice none 0 0, .slice none 0 0] w (w.alloc (.cells #[.pointer (some ⟨G.bp, 0, none⟩)] 49)).heap.size s ((w.alloc (.cells #[.pointer (some ⟨G.bp, 0, none⟩)] 49)).alloc (.cells #[.int .i64 0, .string ⟨#[]⟩, .bool false, .slice none 0 0, .int .i64 0, .int .u64 0, .string ⟨#[]⟩, .slice none 0 0, .slice none 0 0, .slice none 0 0, .slice none 0 0, .slice none 0 0] 87)) s := RFr.start2 HP.out (below_alloc w _) 87; have P0 := (BxC.new w #[.pointer (some ⟨G.bp, 0, none⟩)] 49).bl (below_alloc _ (.cells #[.int .i64 0, .string ⟨#[]⟩, .bool false, .slice none 0 0, .int .i64 0, .int .u64 0, .string ⟨#[]⟩, .slice none 0 0, .slice none 0 0, .slice none 0 0, .slice none 0 0, .slice none 0 0] 87)); rw [show (w.alloc (.cells #[.pointer (some ⟨G.bp, 0, none⟩)] 49)).heap.size = w.heap.size + 1 from by simp] at R0; obtain ⟨rb, hrb⟩ : ∃ rb, w.heap.size + 1 = rb := ⟨_, rfl⟩; rw [hrb] at R0 ⊢; generalize (w.alloc (.cells #[.pointer (some ⟨G.bp, 0, none⟩)] 49)).alloc (.cells #[.int .i64 0, .string ⟨#[]⟩, .bool false, .slice none 0 0, .int .i64 0, .int .u64 0, .string ⟨#[]⟩, .slice none 0 0, .slice none 0 0, .slice none 0 0, .slice none 0 0, .slice none 0 0] 87) = W0 at R0 P0 ⊢; have HR0 := hid R0; have HP0 := hid P0; have HRB := hid hrb; clear R0 P0 hrb; have p0 : W0.cell? ⟨w.heap.size, 0, none⟩ = some (.pointer (some ⟨G.bp, 0, none⟩)) := HP0.out.2.2 0 (show 0 < 1 by omega)
    go_wp2_with (first
      | (go_at_call 219; refine (starts_any hG HR0.out.ps).mono ?_; rintro e w1 ⟨rfl, hb⟩; rw [HA.out]; have HR1 := hid (HR0.out.below hb); have HP1 := hid (HP0.out.bl hb); have p1 : w1.cell? ⟨w.heap.size, 0, none⟩ = some (.pointer (some ⟨G.bp, 0, none⟩)) := HP1.out.2.2 0 (show 0 < 1 by omega); clear hb)
      | (go_at_call 13; refine (wrong_any hG HR1.out.ps).mono ?_; rintro e w2 ⟨rfl, hb⟩; have HR2 := hid (HR1.out.below hb); clear hb; unfold thrown))
    go_simp; have hx := HX.out; rw [wrong_eq] at hx; obtain rfl := Option.some.inj hx; exact ⟨rfl, HR2.out.kn, rfl⟩
end
section
variable {G : Gh} {f : Fs} {n : Nat}
theorem paren_cases (hpsq : ∀ e, f.psq e = PM.none) (hptp : ∀ e, f.ptp e = PM.none) {X : Tx} {s : PSt} {nd : Nd} {r : Except (Nat × Nat) (Nd × PSt)} 
    (h : (takes X [59] >>= fun semi => (if semi = true then f.psq nd else (takes X [44] >>= fun com => if com = true then f.ptp nd else pure nd) : PM Nd) >>= fun r => needs X [41] >>= fun _ => pure r) s = some r) :
    ¬ seesS X [[59]] s = true ∧ ¬ seesS X [[44]] s = true ∧ (seesS X [[41]] s = true ∧ r = .ok (nd, { s with i := s.i + 1 }) ∨ ¬ seesS X [[41]] s = true ∧ r = .error (wrongE X s)) := by
  by_cases h1 : seesS X [[59]] s = true
  · rw [takes_bind h1, if_pos rfl, hpsq] at h; cases h
  · rw [takes_bind_no h1, if_neg (by decide)] at h
    by_cases h2 : seesS X [[44]] s = true
    · rcases bind_cases h with ⟨c, q, h3, rfl⟩ | ⟨a, s2, h3, h4⟩
      · rw [takes_bind h2, if_pos rfl, hptp] at h3; cases h3
      · rw [takes_bind h2, if_pos rfl, hptp] at h3; cases h3
    · rcases bind_cases h with ⟨c, q, h3, rfl⟩ | ⟨a, s2, h3, h4⟩
      · rw [takes_bind_no h2, if_neg (by decide)] at h3; cases h3
      · rw [takes_bind_no h2, if_neg (by decide)] at h3; cases h3; refine ⟨h1, h2, ?_⟩
        by_cases h5 : seesS X [[41]] s = true
        · rw [needs_bind h5] at h4; exact .inl ⟨h5, pure_inv h4⟩
        · rw [needs_bind_no h5] at h4; exact .inr ⟨h5, (Option.some.inj h4).symm⟩
theorem paren_any (hG : GOk G) (hexp : FN G 67 #[.pointer (some ⟨G.bp, 0, none⟩)] IsExp f.exp) (hpsq : ∀ e, f.psq e = PM.none) (hptp : ∀ e, f.ptp e = PM.none) : FN G 243 #[.pointer (some ⟨G.bp, 0, none⟩)] IsExp (paren G.X f) := by
  intro M na nc fa fc w s r hP hx; have hB := hP.bB; have HP := hid hP; have hbp : ¬ M w.heap.size := fun q => by have := (hP.mB _ q).2; omega
  unfold paren at hx
  by_cases h1 : seesS G.X [[41]] s = true
  · rw [takes_bind h1, if_pos rfl] at hx; obtain rfl := pure_inv hx; have H1 := hid h1; have HR0 : Hid (RFr G M na nc fa fc #[.int .i64 0, .string ⟨#[]⟩, .bool false, .slice none 0 0, .int .i64 0, .int .u64 0, .string ⟨#[]⟩, .slice none 0 0, .slice none 0 0, .slice none 0 0, .slice none 0 0, .slice none 0 0] w w.heap.size s (w.alloc (.cells #[.int .i64 0, .string ⟨#[]⟩, .bool false, .slice none 0 0, .int .i64 0, .int .u64 0, .string ⟨#[]⟩, .slice none 0 0, .slice none 0 0, .slice none 0 0, .slice none 0 0, .slice none 0 0] 87)) s) := hid (RFr.start HP.out 87); clear hx h1 hP; go_enter Tryz.func243, Tryz.ntmps243
    go_wp2_with (go_at_call 21; refine (takes_yes hG HR0.out.ps [41] H1.out).mono ?_; rintro e w1 ⟨rfl, hp, hk⟩; have HR1 := hid (HR0.out.go (hk.jp HR0.out.ps.mp) hp rfl (Nat.le_succ _)); clear hp hk; have hz := HR1.out.res.2.2; have hzf := HR1.out.res.2.1; obtain ⟨z0, z1, z2, z3, z4, z5, z6, z7, z8, z9, z10, z11⟩ := bx12 hz; clear hz)
    have HT := ret2Exp HR1.out (by rfl) (show RepR w1 _ _ [.int .i64 6, .string ⟨#[]⟩, .bool false, .slice none 0 0, .int .i64 0, .int .u64 0, .string ⟨#[]⟩, .slice none 0 0, .slice none 0 0, .slice none 0 0, .slice none 0 0, .slice none 0 0] from mkExp_rep (w := w1) (F := fun _ => False) (kind := 6) (name := []) (n := 0) (bits := 0) (text := []) (ls := []) (kids := []) (rules := []) (decs := []) (types := []) repZero repNil repNil repNil repNil repNil) (fun b hb => hb.elim); have HF := hid HT.2; have HRS := hid HT.1; clear HT; refine fin12 HRS.out (by intros; simp [results, Tryz.results243, go_sem, *]) rfl HF.out
  · rw [takes_bind_no h1, if_neg (by decide)] at hx; have H1 := hid h1
    rcases bind_cases hx with ⟨c, q, h2, rfl⟩ | ⟨nd, s1, h2, h3⟩
    · have H2 := hid h2; clear hx h1 h2 hP; go_enter Tryz.func243, Tryz.ntmps243
      go_wp2_with (first
        | (go_at_call 21; refine (takes_no hG (HP.out.alloc _) [41] H1.out).mono ?_; rintro e w1 ⟨rfl, hb⟩; have HB1 := hid ((below_alloc w (.cells #[.int .i64 0, .string ⟨#[]⟩, .bool false, .slice none 0 0, .int .i64 0, .int .u64 0, .string ⟨#[]⟩, .slice none 0 0, .slice none 0 0, .slice none 0 0, .slice none 0 0, .slice none 0 0] 87)).trans (hb.mono (by simp))); have HZ1 := hid ((BxC.new w #[.int .i64 0, .string ⟨#[]⟩, .bool false, .slice none 0 0, .int .i64 0, .int .u64 0, .string ⟨#[]⟩, .slice none 0 0, .slice none 0 0, .slice none 0 0, .slice none 0 0, .slice none 0 0] 87).bl hb); clear hb)
        | (go_at_call 67; refine (hexp M na nc fa fc _ _ _ (HP.out.new HB1.out) H2.out).mono ?_; rintro e w2 ⟨hk, rfl⟩; unfold thrown))
      go_simp; exact ⟨rfl, (Kn.of HB1.out hB).go hk, rfl⟩
    · have H2 := hid h2; have H3 := hid (paren_cases hpsq hptp h3); clear hx h1 h2 h3 hP; go_enter Tryz.func243, Tryz.ntmps243
      go_upto_region 4 with (first
        | (go_at_call 21; refine (takes_no hG (HP.out.alloc _) [41] H1.out).mono ?_; rintro e w1 ⟨rfl, hb⟩; have HB1 := hid ((below_alloc w (.cells #[.int .i64 0, .string ⟨#[]⟩, .bool false, .slice none 0 0, .int .i64 0, .int .u64 0, .string ⟨#[]⟩, .slice none 0 0, .slice none 0 0, .slice none 0 0, .slice none 0 0, .slice none 0 0] 87)).trans (hb.mono (by simp))); have HZ1 := hid ((BxC.new w #[.int .i64 0, .string ⟨#[]⟩, .bool false, .slice none 0 0, .int .i64 0, .int .u64 0, .string ⟨#[]⟩, .slice none 0 0, .slice none 0 0, .slice none 0 0, .slice none 0 0, .slice none 0 0] 87).bl hb); clear hb)
        | (go_at_call 67; refine (hexp M na nc fa fc _ _ _ (HP.out.new HB1.out) H2.out).mono ?_; rintro e w2 ⟨hk, hsc, hi, hP1, v, rfl, x0, x1, x2, Vg, Vi, Vh, x4, x5, x6, Vp, Vr, Vq, Vs, Vu, Vt, Vv, Vx, Vw, Vy, VA, Vz, VB, VD, VC, rfl, hrep⟩; have HR := hid (LpExp.start2 HP.out (HZ1.out.kn hk hbp) ((Kn.of HB1.out hB).go hk) hsc hi hP1 hrep HZ1.out.1); clear hk hsc hi hP1 hrep))
      generalize w2.alloc (.cells #[.int .i64 x0, .string x1, .bool x2, .slice Vg Vi Vh, .int .i64 x4, .int .u64 x5, .string x6, .slice Vp Vr Vq, .slice Vs Vu Vt, .slice Vv Vx Vw, .slice Vy VA Vz, .slice VB VD VC] 87) = W2 at HR ⊢; obtain ⟨kb, hkb⟩ : ∃ kb, w2.heap.size = kb := ⟨_, rfl⟩; rw [hkb] at HR ⊢; clear hkb H2 HZ1 HB1 H1
      go_upto_region 6 with (go_at_call 21; refine (takes_no hG HR.out.ps [59] H3.out.1).mono ?_; rintro e w3 ⟨rfl, hb⟩; have HR3 := hid (HR.out.below hb); clear hb)
      go_upto_region 9 with (go_at_call 21; refine (takes_no hG HR3.out.ps [44] H3.out.2.1).mono ?_; rintro e w4 ⟨rfl, hb⟩; have HR4 := hid (HR3.out.below hb); clear hb)
      rcases H3.out.2.2 with ⟨h5, rfl⟩ | ⟨h5, rfl⟩
      · have H5 := hid h5; clear h5 H3
        go_wp2_with (go_at_call 66; refine (needs_yes hG HR4.out.ps [41] H5.out).mono ?_; rintro e w5 ⟨rfl, hp, hk⟩; have HR5 := hid (HR4.out.go (hk.jp HR4.out.ps.mp) hp rfl (Nat.le_succ _)); clear hp hk; obtain ⟨x0, x1, x2, Vg, Vi, Vh, x4, x5, x6, Vp, Vr, Vq, Vs, Vu, Vt, Vv, Vx, Vw, Vy, VA, Vz, VB, VD, VC, hbx, hres, hfin⟩ := HR5.out.fin; have hcell := hbx.2.2; obtain ⟨b0, b1, b2, b3, b4, b5, b6, b7, b8, b9, b10, b11⟩ := bx12 hcell; have hz := HR5.out.res.2.2; have hzf := HR5.out.res.2.1; obtain ⟨z0, z1, z2, z3, z4, z5, z6, z7, z8, z9, z10, z11⟩ := bx12 hz; clear hz; have HF := hid hfin; have HRS := hid hres; clear hfin hres hcell hbx)
        refine fin12 HRS.out (by intros; simp [results, Tryz.results243, go_sem, *]) rfl HF.out
      · have H5 := hid h5; clear h5 H3
        go_wp2_with (go_at_call 66; refine (needs_no hG HR4.out.ps [41] H5.out).mono ?_; rintro e w5 ⟨rfl, hb⟩; have HR5 := hid (HR4.out.below hb); clear hb; unfold thrown)
        go_simp; exact ⟨rfl, HR5.out.kn, rfl⟩
end
section
theorem cellAt_one (cs : Array Value) (h : (cs.toList.all fun v => v.oneCell') = true) : ∀ j, j < cs.size → (cellAt cs j).oneCell' = true := fun j hj => by
  rw [List.all_eq_true] at h; unfold cellAt; rw [getElem!_pos cs j hj]; exact h _ (by simp)
variable {G : Gh} {na : Option Addr} {nc : Nat} {fa : Option Addr} {fc : Nat} {σ Γ : Type} {pr : Γ → σ} {Mx : Γ → Nat → Prop} {St : World → Γ → Prop}
end
end Go.Proofs.YtkblonfmjlopaaaGreatDoor
