/-
  dec, walked: val, fun; infix up to its first name.
-/
import Derived.Test.YtkblonfmjlopaaaGreatDoorRegTIn
import Derived.Test.YtkblonfmjlopaaaGreatDoorSyLi4
import Derived.Test.YtkblonfmjlopaaaGreatDoorSyRet
import Derived.Test.YtkblonfmjlopaaaGreatDoorSyMk
import Derived.Test.YtkblonfmjlopaaaGreatDoorSyE
import Derived.Test.YtkblonfmjlopaaaGreatDoorSxT
set_option linter.all false
set_option maxRecDepth 1000000
set_option maxHeartbeats 16000000
namespace Go.Proofs.YtkblonfmjlopaaaGreatDoor
open Go Go.RowKit
theorem levelS_err {X : Tx} {s : PSt} {e : Nat × Nat} (h : levelS X s = some (.error e)) : (nextS X s).kind = 4 ∧ ¬ (nextS X s).text.length = 1 ∧ e = wrongE X s := by
  unfold levelS at h; simp only [] at h
  by_cases k : (nextS X s).kind = 4
  · rw [if_pos k] at h
    by_cases l : (nextS X s).text.length = 1
    · rw [if_pos l] at h; cases h
    · rw [if_neg l] at h; exact ⟨k, l, by have := Option.some.inj h; cases this; rfl⟩
  · rw [if_neg k] at h; cases h
theorem levelS_ok {X : Tx} {s s1 : PSt} {lv : Int} (h : levelS X s = some (.ok (lv, s1))) : ((nextS X s).kind = 4 ∧ ∃ x, (nextS X s).text = [x] ∧ s1 = { s with i := s.i + 1 }) ∨ (¬ (nextS X s).kind = 4 ∧ s1 = s) := by
  unfold levelS at h; simp only [] at h
  by_cases k : (nextS X s).kind = 4
  · rw [if_pos k] at h
    by_cases l : (nextS X s).text.length = 1
    · rw [if_pos l] at h; obtain ⟨x, hx⟩ := List.length_eq_one_iff.1 l; have := Option.some.inj h; cases this; exact .inl ⟨k, x, hx, rfl⟩
    · rw [if_neg l] at h; cases h
  · rw [if_neg k] at h; cases h; exact .inr ⟨k, rfl⟩
theorem nameR_err {X : Tx} {s : PSt} {r : Except (Nat × Nat) (List Byt × PSt)} (h : nameR X s = some r) : ¬ shortP X true s = true ∧ r = .error (wrongE X s) := by
  unfold nameR at h
  by_cases hs : shortP X true s = true
  · rw [name_bind hs] at h; cases h
  · rw [name_bind_no hs] at h; exact ⟨hs, (Option.some.inj h).symm⟩
section
variable {G : Gh} {f : Fs} {n : Nat} {M : Nat → Prop} {na : Option Addr} {nc : Nat} {fa : Option Addr} {fc : Nat}
theorem names_err {w : World} {s : PSt} (hG : GOk G) (h : PS G M na nc fa fc w s) (hs : ¬ shortP G.X true s = true) :
    Calls Tryz.prog 78 #[.pointer (some ⟨G.bp, 0, none⟩)] w fun e w' => e = thrown (wrongE G.X s).1 (wrongE G.X s).2 ∧ Below w.heap.size w w' := by
  have HS := hid hs; clear hs; go_enter Tryz.func78, Tryz.ntmps78
  go_wp2_with (go_at_call 73; refine (name_no hG h true HS.out).mono ?_; rintro e w1 ⟨rfl, hb⟩; have HB := hid hb; clear hb; unfold thrown)
  go_simp; exact ⟨rfl, rfl, HB.out⟩
end
section
variable {G : Gh} {f : Fs} {n : Nat}
theorem dec_any (hG : GOk G) (hpat : FN G 65 #[.pointer (some ⟨G.bp, 0, none⟩)] IsPat f.pat) (hexp : FN G 67 #[.pointer (some ⟨G.bp, 0, none⟩)] IsExp f.exp) (hfun : FN G 69 #[.pointer (some ⟨G.bp, 0, none⟩)] IsFun (funS G.X f n)) (hnms : f.nms = nameR G.X) (hdcl : ∀ w, f.dcl w = PM.none) (wd : List UInt8) : FN G 23 #[.pointer (some ⟨G.bp, 0, none⟩), .string ⟨wd.toArray⟩] IsDec (decS G.X f n wd) := by
  intro M na nc fa fc w s r hP hx; have hB := hP.bB; have HP := hid hP; have HR0 : Hid (RFr G M na nc fa fc #[.int .i64 0, .string ⟨#[]⟩, .slice none 0 0, .int .i64 0, .bool false, .bool false, .slice none 0 0, .slice none 0 0, .slice none 0 0, .slice none 0 0, .slice none 0 0, .slice none 0 0, .slice none 0 0, .slice none 0 0] w w.heap.size s (w.alloc (.cells #[.int .i64 0, .string ⟨#[]⟩, .slice none 0 0, .int .i64 0, .bool false, .bool false, .slice none 0 0, .slice none 0 0, .slice none 0 0, .slice none 0 0, .slice none 0 0, .slice none 0 0, .slice none 0 0, .slice none 0 0] 42)) s) := hid (RFr.start HP.out 42); have hmf : ∀ (fn : Fn) (first cap : Array Value) (w : World), (Instr.makeFunc fn first cap).run Tryz.prog w = .ok (.func fn first cap) w := fun _ _ _ _ => rfl; unfold decS at hx
  by_cases k1 : wd = [118, 97, 108]
  · subst k1; rw [if_pos rfl] at hx; clear hP
    rcases bind_cases hx with ⟨c, q, h1, rfl⟩ | ⟨p, s1, h1, h2⟩
    · have H1 := hid h1; clear hx h1; go_enter Tryz.func23, Tryz.ntmps23
      go_wp2_with (go_at_call 65; refine (hpat M na nc fa fc _ _ _ HR0.out.ps H1.out).mono ?_; rintro e w1 ⟨hk, rfl⟩; unfold thrown)
      go_simp; exact ⟨rfl, HR0.out.kn.go hk, rfl⟩
    · have H1 := hid h1
      by_cases h3 : seesS G.X [[61]] s1 = true
      · rw [needs_bind h3] at h2; have H3 := hid h3
        rcases bind_cases h2 with ⟨c, q, h4, rfl⟩ | ⟨ex, s2, h4, h5⟩
        · have H4 := hid h4; clear hx h1 h2 h3 h4; go_enter Tryz.func23, Tryz.ntmps23
          go_upto_region 17 with (go_at_call 65; refine (hpat M na nc fa fc _ _ _ HR0.out.ps H1.out).mono ?_; rintro e w1 ⟨hk, hsc, hi, hP1, v, rfl, x0, x1, x2, Vg, Vi, Vh, x4, x5, Vm, Vo, Vn, Vp, Vr, Vq, Vs, Vu, Vt, rfl, hrep⟩; have HR1 := hid (HR0.out.go hk hP1 hsc hi); have HREP := hid hrep; have HRA := hid (HR1.out.below (below_alloc w1 (.cells #[.int .i64 x0, .string x1, .bool x2, .slice Vg Vi Vh, .int .i64 x4, .string x5, .slice Vm Vo Vn, .slice Vp Vr Vq, .slice Vs Vu Vt] 82))); have hz := HRA.out.res.2.2; have hzf := HRA.out.res.2.1; have z0 : (w1.alloc (.cells #[.int .i64 x0, .string x1, .bool x2, .slice Vg Vi Vh, .int .i64 x4, .string x5, .slice Vm Vo Vn, .slice Vp Vr Vq, .slice Vs Vu Vt] 82)).cell? ⟨w.heap.size, 0, none⟩ = some (.int .i64 0) := hz 0 (show 0 < 14 by omega); have z6 : (w1.alloc (.cells #[.int .i64 x0, .string x1, .bool x2, .slice Vg Vi Vh, .int .i64 x4, .string x5, .slice Vm Vo Vn, .slice Vp Vr Vq, .slice Vs Vu Vt] 82)).cell? ⟨w.heap.size, 6, none⟩ = some (.slice none 0 0) := hz 6 (show 6 < 14 by omega); clear hz hk hsc hi hP1 hrep)
          have R3 : RFr G M na nc fa fc #[.int .i64 1, .string ⟨#[]⟩, .slice none 0 0, .int .i64 0, .bool false, .bool false, .slice (some ⟨w1.heap.size, 0, none⟩) 1 1, .slice none 0 0, .slice none 0 0, .slice none 0 0, .slice none 0 0, .slice none 0 0, .slice none 0 0, .slice none 0 0] w w.heap.size s (((w1.alloc (.cells #[.int .i64 x0, .string x1, .bool x2, .slice Vg Vi Vh, .int .i64 x4, .string x5, .slice Vm Vo Vn, .slice Vp Vr Vq, .slice Vs Vu Vt] 82)).setCell ⟨w.heap.size, 0, none⟩ (.int .i64 1)).setCell ⟨w.heap.size, 6, none⟩ (.slice (some ⟨w1.heap.size, 0, none⟩) 1 1)) s1 := by simpa using (HRA.out.set1 0 (by simp) (.int .i64 1)).set1 6 (by simp) (.slice (some ⟨w1.heap.size, 0, none⟩) 1 1)
          have PT : RepT (((w1.alloc (.cells #[.int .i64 x0, .string x1, .bool x2, .slice Vg Vi Vh, .int .i64 x4, .string x5, .slice Vm Vo Vn, .slice Vp Vr Vq, .slice Vs Vu Vt] 82)).setCell ⟨w.heap.size, 0, none⟩ (.int .i64 1)).setCell ⟨w.heap.size, 6, none⟩ (.slice (some ⟨w1.heap.size, 0, none⟩) 1 1)) (fun b => b < G.B ∨ (w.heap.size < b ∧ b < (((w1.alloc (.cells #[.int .i64 x0, .string x1, .bool x2, .slice Vg Vi Vh, .int .i64 x4, .string x5, .slice Vm Vo Vn, .slice Vp Vr Vq, .slice Vs Vu Vt] 82)).setCell ⟨w.heap.size, 0, none⟩ (.int .i64 1)).setCell ⟨w.heap.size, 6, none⟩ (.slice (some ⟨w1.heap.size, 0, none⟩) 1 1)).heap.size)) (.sl [p]) [.slice (some ⟨w1.heap.size, 0, none⟩) 1 1] := by
            have hsz : (((w1.alloc (.cells #[.int .i64 x0, .string x1, .bool x2, .slice Vg Vi Vh, .int .i64 x4, .string x5, .slice Vm Vo Vn, .slice Vp Vr Vq, .slice Vs Vu Vt] 82)).setCell ⟨w.heap.size, 0, none⟩ (.int .i64 1)).setCell ⟨w.heap.size, 6, none⟩ (.slice (some ⟨w1.heap.size, 0, none⟩) 1 1)).heap.size = (w1.alloc (.cells #[.int .i64 x0, .string x1, .bool x2, .slice Vg Vi Vh, .int .i64 x4, .string x5, .slice Vm Vo Vn, .slice Vp Vr Vq, .slice Vs Vu Vt] 82)).heap.size := by simp [World.setCell]
            have hw1 : w.heap.size < w1.heap.size := HR1.out.lt; have hsa : (w1.alloc (.cells #[.int .i64 x0, .string x1, .bool x2, .slice Vg Vi Vh, .int .i64 x4, .string x5, .slice Vm Vo Vn, .slice Vp Vr Vq, .slice Vs Vu Vt] 82)).heap.size = w1.heap.size + 1 := by simp
            have h0 : RepT (w1.alloc (.cells #[.int .i64 x0, .string x1, .bool x2, .slice Vg Vi Vh, .int .i64 x4, .string x5, .slice Vm Vo Vn, .slice Vp Vr Vq, .slice Vs Vu Vt] 82)) (fun b => b < G.B ∨ (w.heap.size < b ∧ b < (w1.alloc (.cells #[.int .i64 x0, .string x1, .bool x2, .slice Vg Vi Vh, .int .i64 x4, .string x5, .slice Vm Vo Vn, .slice Vp Vr Vq, .slice Vs Vu Vt] 82)).heap.size)) (.sl [p]) [.slice (some ⟨w1.heap.size, 0, none⟩) 1 1] := by
              refine repNew1 (cs := [.int .i64 x0, .string x1, .bool x2, .slice Vg Vi Vh, .int .i64 x4, .string x5, .slice Vm Vo Vn, .slice Vp Vr Vq, .slice Vs Vu Vt]) rfl (.inr ⟨hw1, by omega⟩) (HREP.out.on (Kb.of (below_alloc w1 _) fun b hb => ?_) (fun b hb => ?_))
              · rcases hb with q | q
                · have := HR1.out.hB; omega
                · exact q.2.1
              · rcases hb with q | q
                · exact .inl q
                · have q1 := q.1; have q2 := q.2.1; have q3 : (w.alloc (.cells #[.int .i64 0, .string ⟨#[]⟩, .slice none 0 0, .int .i64 0, .bool false, .bool false, .slice none 0 0, .slice none 0 0, .slice none 0 0, .slice none 0 0, .slice none 0 0, .slice none 0 0, .slice none 0 0, .slice none 0 0] 42)).heap.size = w.heap.size + 1 := by simp
                  exact .inr ⟨by omega, by omega⟩
            refine RepT.on h0 (fun b hb => ?_) (fun b hb => by rw [hsz]; exact hb); have hne : b ≠ w.heap.size := fun e => by have := HR1.out.hB; rcases hb with q | q <;> omega
            exact (Below.heap_setCell _ _ _ _ hne).trans (Below.heap_setCell _ _ _ _ hne)
          obtain ⟨pa, hpa⟩ : ∃ pa, w1.heap.size = pa := ⟨_, rfl⟩; have HR3 := hid R3; have HPT := hid PT; clear R3 PT z0 z6 hzf; rw [hpa] at HR3 HPT ⊢; generalize hW3 : ((w1.alloc (.cells #[.int .i64 x0, .string x1, .bool x2, .slice Vg Vi Vh, .int .i64 x4, .string x5, .slice Vm Vo Vn, .slice Vp Vr Vq, .slice Vs Vu Vt] 82)).setCell ⟨w.heap.size, 0, none⟩ (.int .i64 1)).setCell ⟨w.heap.size, 6, none⟩ (.slice (some ⟨pa, 0, none⟩) 1 1) = W3 at HR3 HPT ⊢; clear hpa hW3 HRA HREP HR1 HR0
          go_wp2_with (first
            | (go_at_call 66; refine (needs_yes hG HR3.out.ps [61] H3.out).mono ?_; rintro e w4 ⟨rfl, hp, hk⟩; have HR4 := hid (HR3.out.go (hk.jp HR3.out.ps.mp) hp rfl (Nat.le_succ _)); have HPT4 := hid (HPT.out.on (w' := w4) (F' := (fun b => b < G.B ∨ (w.heap.size < b ∧ b < w4.heap.size))) (fun b hb => by rcases hb with q | q; exact hk.bel.block b q; exact hk.blk b q.2 (fun e => by have := HR3.out.mw G.bp HR3.out.ps.mp; have e2 : b = G.bp := e; omega)) (fun b hb => hb.imp id fun q => ⟨q.1, Nat.lt_of_lt_of_le q.2 hk.size⟩)); clear hp hk)
            | (go_at_call 67; refine (hexp M na nc fa fc _ _ _ HR4.out.ps H4.out).mono ?_; rintro e w5 ⟨hk, rfl⟩; unfold thrown))
          go_simp; exact ⟨rfl, HR4.out.kn.go hk, rfl⟩
        · obtain rfl := pure_inv h5; have H4 := hid h4; clear hx h1 h2 h3 h4 h5; go_enter Tryz.func23, Tryz.ntmps23
          go_upto_region 17 with (go_at_call 65; refine (hpat M na nc fa fc _ _ _ HR0.out.ps H1.out).mono ?_; rintro e w1 ⟨hk, hsc, hi, hP1, v, rfl, x0, x1, x2, Vg, Vi, Vh, x4, x5, Vm, Vo, Vn, Vp, Vr, Vq, Vs, Vu, Vt, rfl, hrep⟩; have HR1 := hid (HR0.out.go hk hP1 hsc hi); have HREP := hid hrep; have HRA := hid (HR1.out.below (below_alloc w1 (.cells #[.int .i64 x0, .string x1, .bool x2, .slice Vg Vi Vh, .int .i64 x4, .string x5, .slice Vm Vo Vn, .slice Vp Vr Vq, .slice Vs Vu Vt] 82))); have hz := HRA.out.res.2.2; have hzf := HRA.out.res.2.1; have z0 : (w1.alloc (.cells #[.int .i64 x0, .string x1, .bool x2, .slice Vg Vi Vh, .int .i64 x4, .string x5, .slice Vm Vo Vn, .slice Vp Vr Vq, .slice Vs Vu Vt] 82)).cell? ⟨w.heap.size, 0, none⟩ = some (.int .i64 0) := hz 0 (show 0 < 14 by omega); have z6 : (w1.alloc (.cells #[.int .i64 x0, .string x1, .bool x2, .slice Vg Vi Vh, .int .i64 x4, .string x5, .slice Vm Vo Vn, .slice Vp Vr Vq, .slice Vs Vu Vt] 82)).cell? ⟨w.heap.size, 6, none⟩ = some (.slice none 0 0) := hz 6 (show 6 < 14 by omega); clear hz hk hsc hi hP1 hrep)
          have R3 : RFr G M na nc fa fc #[.int .i64 1, .string ⟨#[]⟩, .slice none 0 0, .int .i64 0, .bool false, .bool false, .slice (some ⟨w1.heap.size, 0, none⟩) 1 1, .slice none 0 0, .slice none 0 0, .slice none 0 0, .slice none 0 0, .slice none 0 0, .slice none 0 0, .slice none 0 0] w w.heap.size s (((w1.alloc (.cells #[.int .i64 x0, .string x1, .bool x2, .slice Vg Vi Vh, .int .i64 x4, .string x5, .slice Vm Vo Vn, .slice Vp Vr Vq, .slice Vs Vu Vt] 82)).setCell ⟨w.heap.size, 0, none⟩ (.int .i64 1)).setCell ⟨w.heap.size, 6, none⟩ (.slice (some ⟨w1.heap.size, 0, none⟩) 1 1)) s1 := by simpa using (HRA.out.set1 0 (by simp) (.int .i64 1)).set1 6 (by simp) (.slice (some ⟨w1.heap.size, 0, none⟩) 1 1)
          have PT : RepT (((w1.alloc (.cells #[.int .i64 x0, .string x1, .bool x2, .slice Vg Vi Vh, .int .i64 x4, .string x5, .slice Vm Vo Vn, .slice Vp Vr Vq, .slice Vs Vu Vt] 82)).setCell ⟨w.heap.size, 0, none⟩ (.int .i64 1)).setCell ⟨w.heap.size, 6, none⟩ (.slice (some ⟨w1.heap.size, 0, none⟩) 1 1)) (fun b => b < G.B ∨ (w.heap.size < b ∧ b < (((w1.alloc (.cells #[.int .i64 x0, .string x1, .bool x2, .slice Vg Vi Vh, .int .i64 x4, .string x5, .slice Vm Vo Vn, .slice Vp Vr Vq, .slice Vs Vu Vt] 82)).setCell ⟨w.heap.size, 0, none⟩ (.int .i64 1)).setCell ⟨w.heap.size, 6, none⟩ (.slice (some ⟨w1.heap.size, 0, none⟩) 1 1)).heap.size)) (.sl [p]) [.slice (some ⟨w1.heap.size, 0, none⟩) 1 1] := by
            have hsz : (((w1.alloc (.cells #[.int .i64 x0, .string x1, .bool x2, .slice Vg Vi Vh, .int .i64 x4, .string x5, .slice Vm Vo Vn, .slice Vp Vr Vq, .slice Vs Vu Vt] 82)).setCell ⟨w.heap.size, 0, none⟩ (.int .i64 1)).setCell ⟨w.heap.size, 6, none⟩ (.slice (some ⟨w1.heap.size, 0, none⟩) 1 1)).heap.size = (w1.alloc (.cells #[.int .i64 x0, .string x1, .bool x2, .slice Vg Vi Vh, .int .i64 x4, .string x5, .slice Vm Vo Vn, .slice Vp Vr Vq, .slice Vs Vu Vt] 82)).heap.size := by simp [World.setCell]
            have hw1 : w.heap.size < w1.heap.size := HR1.out.lt; have hsa : (w1.alloc (.cells #[.int .i64 x0, .string x1, .bool x2, .slice Vg Vi Vh, .int .i64 x4, .string x5, .slice Vm Vo Vn, .slice Vp Vr Vq, .slice Vs Vu Vt] 82)).heap.size = w1.heap.size + 1 := by simp
            have h0 : RepT (w1.alloc (.cells #[.int .i64 x0, .string x1, .bool x2, .slice Vg Vi Vh, .int .i64 x4, .string x5, .slice Vm Vo Vn, .slice Vp Vr Vq, .slice Vs Vu Vt] 82)) (fun b => b < G.B ∨ (w.heap.size < b ∧ b < (w1.alloc (.cells #[.int .i64 x0, .string x1, .bool x2, .slice Vg Vi Vh, .int .i64 x4, .string x5, .slice Vm Vo Vn, .slice Vp Vr Vq, .slice Vs Vu Vt] 82)).heap.size)) (.sl [p]) [.slice (some ⟨w1.heap.size, 0, none⟩) 1 1] := by
              refine repNew1 (cs := [.int .i64 x0, .string x1, .bool x2, .slice Vg Vi Vh, .int .i64 x4, .string x5, .slice Vm Vo Vn, .slice Vp Vr Vq, .slice Vs Vu Vt]) rfl (.inr ⟨hw1, by omega⟩) (HREP.out.on (Kb.of (below_alloc w1 _) fun b hb => ?_) (fun b hb => ?_))
              · rcases hb with q | q
                · have := HR1.out.hB; omega
                · exact q.2.1
              · rcases hb with q | q
                · exact .inl q
                · have q1 := q.1; have q2 := q.2.1; have q3 : (w.alloc (.cells #[.int .i64 0, .string ⟨#[]⟩, .slice none 0 0, .int .i64 0, .bool false, .bool false, .slice none 0 0, .slice none 0 0, .slice none 0 0, .slice none 0 0, .slice none 0 0, .slice none 0 0, .slice none 0 0, .slice none 0 0] 42)).heap.size = w.heap.size + 1 := by simp
                  exact .inr ⟨by omega, by omega⟩
            refine RepT.on h0 (fun b hb => ?_) (fun b hb => by rw [hsz]; exact hb); have hne : b ≠ w.heap.size := fun e => by have := HR1.out.hB; rcases hb with q | q <;> omega
            exact (Below.heap_setCell _ _ _ _ hne).trans (Below.heap_setCell _ _ _ _ hne)
          obtain ⟨pa, hpa⟩ : ∃ pa, w1.heap.size = pa := ⟨_, rfl⟩; have HR3 := hid R3; have HPT := hid PT; clear R3 PT z0 z6 hzf; rw [hpa] at HR3 HPT ⊢; generalize hW3 : ((w1.alloc (.cells #[.int .i64 x0, .string x1, .bool x2, .slice Vg Vi Vh, .int .i64 x4, .string x5, .slice Vm Vo Vn, .slice Vp Vr Vq, .slice Vs Vu Vt] 82)).setCell ⟨w.heap.size, 0, none⟩ (.int .i64 1)).setCell ⟨w.heap.size, 6, none⟩ (.slice (some ⟨pa, 0, none⟩) 1 1) = W3 at HR3 HPT ⊢; clear hpa hW3 HRA HREP HR1 HR0
          go_upto_region 46 with (first
            | (go_at_call 66; refine (needs_yes hG HR3.out.ps [61] H3.out).mono ?_; rintro e w4 ⟨rfl, hp, hk⟩; have HR4 := hid (HR3.out.go (hk.jp HR3.out.ps.mp) hp rfl (Nat.le_succ _)); have HPT4 := hid (HPT.out.on (w' := w4) (F' := (fun b => b < G.B ∨ (w.heap.size < b ∧ b < w4.heap.size))) (fun b hb => by rcases hb with q | q; exact hk.bel.block b q; exact hk.blk b q.2 (fun e => by have := HR3.out.mw G.bp HR3.out.ps.mp; have e2 : b = G.bp := e; omega)) (fun b hb => hb.imp id fun q => ⟨q.1, Nat.lt_of_lt_of_le q.2 hk.size⟩)); clear hp hk)
            | (go_at_call 67; refine (hexp M na nc fa fc _ _ _ HR4.out.ps H4.out).mono ?_; rintro e w5 ⟨hk, hsc, hi, hP5, v, rfl, y0, y1, y2, Ya, Yc, Yb, y4, y5, y6, Yg, Yi, Yh, Yj, Yl, Yk, Ym, Yo, Yn, Yp, Yr, Yq, Ys, Yu, Yt, rfl, hrep⟩; have HR5 := hid (HR4.out.go hk hP5 hsc hi); have HREP := hid hrep; have HPT5 := hid (HPT4.out.on (w' := w5) (F' := (fun b => b < G.B ∨ (w.heap.size < b ∧ b < w5.heap.size))) (fun b hb => by rcases hb with q | q; exact hk.bel.block b q; exact hk.blk b q.2 (fun e => by have := HR4.out.mw b e; omega)) (fun b hb => hb.imp id fun q => ⟨q.1, Nat.lt_of_lt_of_le q.2 hk.size⟩)); have HRA := hid (HR5.out.below (below_alloc w5 (.cells #[.int .i64 y0, .string y1, .bool y2, .slice Ya Yc Yb, .int .i64 y4, .int .u64 y5, .string y6, .slice Yg Yi Yh, .slice Yj Yl Yk, .slice Ym Yo Yn, .slice Yp Yr Yq, .slice Ys Yu Yt] 87))); have hz := HRA.out.res.2.2; have hzf := HRA.out.res.2.1; have z7 : (w5.alloc (.cells #[.int .i64 y0, .string y1, .bool y2, .slice Ya Yc Yb, .int .i64 y4, .int .u64 y5, .string y6, .slice Yg Yi Yh, .slice Yj Yl Yk, .slice Ym Yo Yn, .slice Yp Yr Yq, .slice Ys Yu Yt] 87)).cell? ⟨w.heap.size, 7, none⟩ = some (.slice none 0 0) := hz 7 (show 7 < 14 by omega); clear hz hk hsc hi hP5 hrep))
          have R6 : RFr G M na nc fa fc #[.int .i64 1, .string ⟨#[]⟩, .slice none 0 0, .int .i64 0, .bool false, .bool false, .slice (some ⟨pa, 0, none⟩) 1 1, .slice (some ⟨w5.heap.size, 0, none⟩) 1 1, .slice none 0 0, .slice none 0 0, .slice none 0 0, .slice none 0 0, .slice none 0 0, .slice none 0 0] w w.heap.size s ((w5.alloc (.cells #[.int .i64 y0, .string y1, .bool y2, .slice Ya Yc Yb, .int .i64 y4, .int .u64 y5, .string y6, .slice Yg Yi Yh, .slice Yj Yl Yk, .slice Ym Yo Yn, .slice Yp Yr Yq, .slice Ys Yu Yt] 87)).setCell ⟨w.heap.size, 7, none⟩ (.slice (some ⟨w5.heap.size, 0, none⟩) 1 1)) s2 := by simpa using HRA.out.set1 7 (by simp) (.slice (some ⟨w5.heap.size, 0, none⟩) 1 1)
          have hsz : ((w5.alloc (.cells #[.int .i64 y0, .string y1, .bool y2, .slice Ya Yc Yb, .int .i64 y4, .int .u64 y5, .string y6, .slice Yg Yi Yh, .slice Yj Yl Yk, .slice Ym Yo Yn, .slice Yp Yr Yq, .slice Ys Yu Yt] 87)).setCell ⟨w.heap.size, 7, none⟩ (.slice (some ⟨w5.heap.size, 0, none⟩) 1 1)).heap.size = (w5.alloc (.cells #[.int .i64 y0, .string y1, .bool y2, .slice Ya Yc Yb, .int .i64 y4, .int .u64 y5, .string y6, .slice Yg Yi Yh, .slice Yj Yl Yk, .slice Ym Yo Yn, .slice Yp Yr Yq, .slice Ys Yu Yt] 87)).heap.size := by simp [World.setCell]
          have hsa : (w5.alloc (.cells #[.int .i64 y0, .string y1, .bool y2, .slice Ya Yc Yb, .int .i64 y4, .int .u64 y5, .string y6, .slice Yg Yi Yh, .slice Yj Yl Yk, .slice Ym Yo Yn, .slice Yp Yr Yq, .slice Ys Yu Yt] 87)).heap.size = w5.heap.size + 1 := by simp
          have hw4 : w.heap.size < w4.heap.size := HR4.out.lt; have hw5 : w.heap.size < w5.heap.size := HR5.out.lt; have hBB := HR5.out.hB
          have ET : RepT ((w5.alloc (.cells #[.int .i64 y0, .string y1, .bool y2, .slice Ya Yc Yb, .int .i64 y4, .int .u64 y5, .string y6, .slice Yg Yi Yh, .slice Yj Yl Yk, .slice Ym Yo Yn, .slice Yp Yr Yq, .slice Ys Yu Yt] 87)).setCell ⟨w.heap.size, 7, none⟩ (.slice (some ⟨w5.heap.size, 0, none⟩) 1 1)) (fun b => b < G.B ∨ (w.heap.size < b ∧ b < ((w5.alloc (.cells #[.int .i64 y0, .string y1, .bool y2, .slice Ya Yc Yb, .int .i64 y4, .int .u64 y5, .string y6, .slice Yg Yi Yh, .slice Yj Yl Yk, .slice Ym Yo Yn, .slice Yp Yr Yq, .slice Ys Yu Yt] 87)).setCell ⟨w.heap.size, 7, none⟩ (.slice (some ⟨w5.heap.size, 0, none⟩) 1 1)).heap.size)) (.sl [ex]) [.slice (some ⟨w5.heap.size, 0, none⟩) 1 1] := by
            have h0 : RepT (w5.alloc (.cells #[.int .i64 y0, .string y1, .bool y2, .slice Ya Yc Yb, .int .i64 y4, .int .u64 y5, .string y6, .slice Yg Yi Yh, .slice Yj Yl Yk, .slice Ym Yo Yn, .slice Yp Yr Yq, .slice Ys Yu Yt] 87)) (fun b => b < G.B ∨ (w.heap.size < b ∧ b < (w5.alloc (.cells #[.int .i64 y0, .string y1, .bool y2, .slice Ya Yc Yb, .int .i64 y4, .int .u64 y5, .string y6, .slice Yg Yi Yh, .slice Yj Yl Yk, .slice Ym Yo Yn, .slice Yp Yr Yq, .slice Ys Yu Yt] 87)).heap.size)) (.sl [ex]) [.slice (some ⟨w5.heap.size, 0, none⟩) 1 1] := by
              refine repNew1 (cs := [.int .i64 y0, .string y1, .bool y2, .slice Ya Yc Yb, .int .i64 y4, .int .u64 y5, .string y6, .slice Yg Yi Yh, .slice Yj Yl Yk, .slice Ym Yo Yn, .slice Yp Yr Yq, .slice Ys Yu Yt]) rfl (.inr ⟨hw5, by omega⟩) (HREP.out.on (Kb.of (below_alloc w5 _) fun b hb => ?_) (fun b hb => ?_))
              · rcases hb with q | q
                · omega
                · exact q.2.1
              · rcases hb with q | q
                · exact .inl q
                · have q1 := q.1; have q2 := q.2.1; exact .inr ⟨by omega, by omega⟩
            refine RepT.on h0 (fun b hb => ?_) (fun b hb => by rw [hsz]; exact hb); have hne : b ≠ w.heap.size := fun e => by rcases hb with q | q <;> omega
            exact Below.heap_setCell _ _ _ _ hne
          have PT6 : RepT ((w5.alloc (.cells #[.int .i64 y0, .string y1, .bool y2, .slice Ya Yc Yb, .int .i64 y4, .int .u64 y5, .string y6, .slice Yg Yi Yh, .slice Yj Yl Yk, .slice Ym Yo Yn, .slice Yp Yr Yq, .slice Ys Yu Yt] 87)).setCell ⟨w.heap.size, 7, none⟩ (.slice (some ⟨w5.heap.size, 0, none⟩) 1 1)) (fun b => b < G.B ∨ (w.heap.size < b ∧ b < ((w5.alloc (.cells #[.int .i64 y0, .string y1, .bool y2, .slice Ya Yc Yb, .int .i64 y4, .int .u64 y5, .string y6, .slice Yg Yi Yh, .slice Yj Yl Yk, .slice Ym Yo Yn, .slice Yp Yr Yq, .slice Ys Yu Yt] 87)).setCell ⟨w.heap.size, 7, none⟩ (.slice (some ⟨w5.heap.size, 0, none⟩) 1 1)).heap.size)) (.sl [p]) [.slice (some ⟨pa, 0, none⟩) 1 1] := by
            refine RepT.on HPT5.out (fun b hb => ?_) (fun b hb => hb.imp id fun q => ⟨q.1, by rw [hsz]; omega⟩); have hne : b ≠ w.heap.size := fun e => by rcases hb with q | q <;> omega
            exact (Below.heap_setCell _ _ _ _ hne).trans ((below_alloc w5 _).block b (by rcases hb with q | q <;> omega))
          have HT := ret2Dec R6 (by rfl) (show RepR ((w5.alloc (.cells #[.int .i64 y0, .string y1, .bool y2, .slice Ya Yc Yb, .int .i64 y4, .int .u64 y5, .string y6, .slice Yg Yi Yh, .slice Yj Yl Yk, .slice Ym Yo Yn, .slice Yp Yr Yq, .slice Ys Yu Yt] 87)).setCell ⟨w.heap.size, 7, none⟩ (.slice (some ⟨w5.heap.size, 0, none⟩) 1 1)) _ (mkDec { kind := 1, pats := [p], exps := [ex] }) [.int .i64 1, .string ⟨#[]⟩, .slice none 0 0, .int .i64 0, .bool false, .bool false, .slice (some ⟨pa, 0, none⟩) 1 1, .slice (some ⟨w5.heap.size, 0, none⟩) 1 1, .slice none 0 0, .slice none 0 0, .slice none 0 0, .slice none 0 0, .slice none 0 0, .slice none 0 0] from repV _ (repV _ (repT1 repNil (repV _ (repV _ (repV _ (repT1 PT6 (repT1 ET (repT1 repNil (repT1 repNil (repT1 repNil (repT1 repNil (repT1 repNil (repT1 repNil repN)))))))))))))) (fun b hb => hb.imp id fun q => ⟨by omega, q.2, by omega⟩); have HR6 := hid R6; have HT6 := hid HT; clear HT PT6 ET R6 z7 hzf hsz hsa hw4 hw5; generalize ((w5.alloc (.cells #[.int .i64 y0, .string y1, .bool y2, .slice Ya Yc Yb, .int .i64 y4, .int .u64 y5, .string y6, .slice Yg Yi Yh, .slice Yj Yl Yk, .slice Ym Yo Yn, .slice Yp Yr Yq, .slice Ys Yu Yt] 87)).setCell ⟨w.heap.size, 7, none⟩ (.slice (some ⟨w5.heap.size, 0, none⟩) 1 1)) = W6 at HR6 HT6 ⊢; have HF := hid HT6.out.2; have HRS := hid HT6.out.1; clear HT6; have hz := HR6.out.res.2.2; have hzf := HR6.out.res.2.1; obtain ⟨z0, z1, z2, z3, z4, z5, z6, z7, z8, z9, z10, z11, z12, z13⟩ := bx14 hz; clear hz
          go_wp2_with fail
          refine fin14 HRS.out (by intros; simp [results, Tryz.results23, go_sem, *]) rfl HF.out
      · rw [needs_bind_no h3] at h2; obtain rfl := (Option.some.inj h2); have H3 := hid h3; clear hx h1 h2 h3; go_enter Tryz.func23, Tryz.ntmps23
        go_upto_region 17 with (go_at_call 65; refine (hpat M na nc fa fc _ _ _ HR0.out.ps H1.out).mono ?_; rintro e w1 ⟨hk, hsc, hi, hP1, v, rfl, x0, x1, x2, Vg, Vi, Vh, x4, x5, Vm, Vo, Vn, Vp, Vr, Vq, Vs, Vu, Vt, rfl, hrep⟩; have HR1 := hid (HR0.out.go hk hP1 hsc hi); have HREP := hid hrep; have HRA := hid (HR1.out.below (below_alloc w1 (.cells #[.int .i64 x0, .string x1, .bool x2, .slice Vg Vi Vh, .int .i64 x4, .string x5, .slice Vm Vo Vn, .slice Vp Vr Vq, .slice Vs Vu Vt] 82))); have hz := HRA.out.res.2.2; have hzf := HRA.out.res.2.1; have z0 : (w1.alloc (.cells #[.int .i64 x0, .string x1, .bool x2, .slice Vg Vi Vh, .int .i64 x4, .string x5, .slice Vm Vo Vn, .slice Vp Vr Vq, .slice Vs Vu Vt] 82)).cell? ⟨w.heap.size, 0, none⟩ = some (.int .i64 0) := hz 0 (show 0 < 14 by omega); have z6 : (w1.alloc (.cells #[.int .i64 x0, .string x1, .bool x2, .slice Vg Vi Vh, .int .i64 x4, .string x5, .slice Vm Vo Vn, .slice Vp Vr Vq, .slice Vs Vu Vt] 82)).cell? ⟨w.heap.size, 6, none⟩ = some (.slice none 0 0) := hz 6 (show 6 < 14 by omega); clear hz hk hsc hi hP1 hrep)
        have R3 : RFr G M na nc fa fc #[.int .i64 1, .string ⟨#[]⟩, .slice none 0 0, .int .i64 0, .bool false, .bool false, .slice (some ⟨w1.heap.size, 0, none⟩) 1 1, .slice none 0 0, .slice none 0 0, .slice none 0 0, .slice none 0 0, .slice none 0 0, .slice none 0 0, .slice none 0 0] w w.heap.size s (((w1.alloc (.cells #[.int .i64 x0, .string x1, .bool x2, .slice Vg Vi Vh, .int .i64 x4, .string x5, .slice Vm Vo Vn, .slice Vp Vr Vq, .slice Vs Vu Vt] 82)).setCell ⟨w.heap.size, 0, none⟩ (.int .i64 1)).setCell ⟨w.heap.size, 6, none⟩ (.slice (some ⟨w1.heap.size, 0, none⟩) 1 1)) s1 := by simpa using (HRA.out.set1 0 (by simp) (.int .i64 1)).set1 6 (by simp) (.slice (some ⟨w1.heap.size, 0, none⟩) 1 1)
        have PT : RepT (((w1.alloc (.cells #[.int .i64 x0, .string x1, .bool x2, .slice Vg Vi Vh, .int .i64 x4, .string x5, .slice Vm Vo Vn, .slice Vp Vr Vq, .slice Vs Vu Vt] 82)).setCell ⟨w.heap.size, 0, none⟩ (.int .i64 1)).setCell ⟨w.heap.size, 6, none⟩ (.slice (some ⟨w1.heap.size, 0, none⟩) 1 1)) (fun b => b < G.B ∨ (w.heap.size < b ∧ b < (((w1.alloc (.cells #[.int .i64 x0, .string x1, .bool x2, .slice Vg Vi Vh, .int .i64 x4, .string x5, .slice Vm Vo Vn, .slice Vp Vr Vq, .slice Vs Vu Vt] 82)).setCell ⟨w.heap.size, 0, none⟩ (.int .i64 1)).setCell ⟨w.heap.size, 6, none⟩ (.slice (some ⟨w1.heap.size, 0, none⟩) 1 1)).heap.size)) (.sl [p]) [.slice (some ⟨w1.heap.size, 0, none⟩) 1 1] := by
          have hsz : (((w1.alloc (.cells #[.int .i64 x0, .string x1, .bool x2, .slice Vg Vi Vh, .int .i64 x4, .string x5, .slice Vm Vo Vn, .slice Vp Vr Vq, .slice Vs Vu Vt] 82)).setCell ⟨w.heap.size, 0, none⟩ (.int .i64 1)).setCell ⟨w.heap.size, 6, none⟩ (.slice (some ⟨w1.heap.size, 0, none⟩) 1 1)).heap.size = (w1.alloc (.cells #[.int .i64 x0, .string x1, .bool x2, .slice Vg Vi Vh, .int .i64 x4, .string x5, .slice Vm Vo Vn, .slice Vp Vr Vq, .slice Vs Vu Vt] 82)).heap.size := by simp [World.setCell]
          have hw1 : w.heap.size < w1.heap.size := HR1.out.lt; have hsa : (w1.alloc (.cells #[.int .i64 x0, .string x1, .bool x2, .slice Vg Vi Vh, .int .i64 x4, .string x5, .slice Vm Vo Vn, .slice Vp Vr Vq, .slice Vs Vu Vt] 82)).heap.size = w1.heap.size + 1 := by simp
          have h0 : RepT (w1.alloc (.cells #[.int .i64 x0, .string x1, .bool x2, .slice Vg Vi Vh, .int .i64 x4, .string x5, .slice Vm Vo Vn, .slice Vp Vr Vq, .slice Vs Vu Vt] 82)) (fun b => b < G.B ∨ (w.heap.size < b ∧ b < (w1.alloc (.cells #[.int .i64 x0, .string x1, .bool x2, .slice Vg Vi Vh, .int .i64 x4, .string x5, .slice Vm Vo Vn, .slice Vp Vr Vq, .slice Vs Vu Vt] 82)).heap.size)) (.sl [p]) [.slice (some ⟨w1.heap.size, 0, none⟩) 1 1] := by
            refine repNew1 (cs := [.int .i64 x0, .string x1, .bool x2, .slice Vg Vi Vh, .int .i64 x4, .string x5, .slice Vm Vo Vn, .slice Vp Vr Vq, .slice Vs Vu Vt]) rfl (.inr ⟨hw1, by omega⟩) (HREP.out.on (Kb.of (below_alloc w1 _) fun b hb => ?_) (fun b hb => ?_))
            · rcases hb with q | q
              · have := HR1.out.hB; omega
              · exact q.2.1
            · rcases hb with q | q
              · exact .inl q
              · have q1 := q.1; have q2 := q.2.1; have q3 : (w.alloc (.cells #[.int .i64 0, .string ⟨#[]⟩, .slice none 0 0, .int .i64 0, .bool false, .bool false, .slice none 0 0, .slice none 0 0, .slice none 0 0, .slice none 0 0, .slice none 0 0, .slice none 0 0, .slice none 0 0, .slice none 0 0] 42)).heap.size = w.heap.size + 1 := by simp
                exact .inr ⟨by omega, by omega⟩
          refine RepT.on h0 (fun b hb => ?_) (fun b hb => by rw [hsz]; exact hb); have hne : b ≠ w.heap.size := fun e => by have := HR1.out.hB; rcases hb with q | q <;> omega
          exact (Below.heap_setCell _ _ _ _ hne).trans (Below.heap_setCell _ _ _ _ hne)
        obtain ⟨pa, hpa⟩ : ∃ pa, w1.heap.size = pa := ⟨_, rfl⟩; have HR3 := hid R3; have HPT := hid PT; clear R3 PT z0 z6 hzf; rw [hpa] at HR3 HPT ⊢; generalize hW3 : ((w1.alloc (.cells #[.int .i64 x0, .string x1, .bool x2, .slice Vg Vi Vh, .int .i64 x4, .string x5, .slice Vm Vo Vn, .slice Vp Vr Vq, .slice Vs Vu Vt] 82)).setCell ⟨w.heap.size, 0, none⟩ (.int .i64 1)).setCell ⟨w.heap.size, 6, none⟩ (.slice (some ⟨pa, 0, none⟩) 1 1) = W3 at HR3 HPT ⊢; clear hpa hW3 HRA HREP HR1 HR0
        go_wp2_with (go_at_call 66; refine (needs_no hG HR3.out.ps [61] H3.out).mono ?_; rintro e w4 ⟨rfl, hb⟩; have HR4 := hid (HR3.out.below hb); clear hb; unfold thrown)
        go_simp; exact ⟨rfl, HR4.out.kn, rfl⟩
  rw [if_neg k1] at hx
  by_cases k2 : wd = [102, 117, 110]
  · subst k2; rw [if_pos rfl] at hx; clear hP k1
    rcases bind_cases hx with ⟨c, q, hy, rfl⟩ | ⟨l0, s0, hy, hz⟩
    · rcases bind_cases hy with ⟨c', q', hy2, hr⟩ | ⟨l', s', hy2, hr⟩
      · cases hr; have HY := hid hy2; clear hx hy hy2; go_enter Tryz.func23, Tryz.ntmps23
        go_wp2_with (go_at_call 68; refine ((list_Fun hG (pr := fun _ : Unit => ()) (Mx := fun _ => M) (St := fun _ _ => True) (fun _ _ _ h _ => h) 69 #[.pointer (some ⟨G.bp, 0, none⟩)] #[] (fun _ _ => rfl) [97, 110, 100] (lone (funS G.X f n)) (FN.clo IsFun.ok hfun) n _ _ () _ HR0.out.ps trivial HY.out)).mono ?_; rintro e w5 ⟨hk, rfl⟩; unfold thrown)
        go_simp; exact ⟨rfl, HR0.out.kn.go hk, rfl⟩
      · cases hr
    · rcases bind_cases hy with ⟨c', q', hy2, hr⟩ | ⟨⟨l, u'⟩, s5, hy2, hr⟩
      · cases hr
      · cases hr; have HY := hid hy2; obtain rfl := pure_inv hz; clear hx hy hy2 hz; go_enter Tryz.func23, Tryz.ntmps23
        go_upto_region 46 with (go_at_call 68; refine ((list_Fun hG (pr := fun _ : Unit => ()) (Mx := fun _ => M) (St := fun _ _ => True) (fun _ _ _ h _ => h) 69 #[.pointer (some ⟨G.bp, 0, none⟩)] #[] (fun _ _ => rfl) [97, 110, 100] (lone (funS G.X f n)) (FN.clo IsFun.ok hfun) n _ _ () _ HR0.out.ps trivial HY.out)).mono ?_; rintro e w5 ⟨hk, hsc, hi, g5, v5, rfl, _, hP5, _, _, _, a5, c5, rfl, hl5⟩; have HR5 := hid (HR0.out.go hk hP5 hsc hi); have HL5 := hid hl5; have hz := HR5.out.res.2.2; have hzf := HR5.out.res.2.1; have z0 : w5.cell? ⟨w.heap.size, 0, none⟩ = some (.int .i64 0) := hz 0 (show 0 < 14 by omega); have z8 : w5.cell? ⟨w.heap.size, 8, none⟩ = some (.slice none 0 0) := hz 8 (show 8 < 14 by omega); clear hz hk hsc hi hP5 hl5)
        have R6 : RFr G M na nc fa fc #[.int .i64 2, .string ⟨#[]⟩, .slice none 0 0, .int .i64 0, .bool false, .bool false, .slice none 0 0, .slice none 0 0, .slice a5 l.length c5, .slice none 0 0, .slice none 0 0, .slice none 0 0, .slice none 0 0, .slice none 0 0] w w.heap.size s ((w5.setCell ⟨w.heap.size, 0, none⟩ (.int .i64 2)).setCell ⟨w.heap.size, 8, none⟩ (.slice a5 l.length c5)) s0 := by simpa using (HR5.out.set1 0 (by simp) (.int .i64 2)).set1 8 (by simp) (.slice a5 l.length c5)
        have hsz : ((w5.setCell ⟨w.heap.size, 0, none⟩ (.int .i64 2)).setCell ⟨w.heap.size, 8, none⟩ (.slice a5 l.length c5)).heap.size = w5.heap.size := by simp [World.setCell]
        have hs0 : (w.alloc (.cells #[.int .i64 0, .string ⟨#[]⟩, .slice none 0 0, .int .i64 0, .bool false, .bool false, .slice none 0 0, .slice none 0 0, .slice none 0 0, .slice none 0 0, .slice none 0 0, .slice none 0 0, .slice none 0 0, .slice none 0 0] 42)).heap.size = w.heap.size + 1 := by simp
        have hBB := HR5.out.hB
        have PT6 : RepT ((w5.setCell ⟨w.heap.size, 0, none⟩ (.int .i64 2)).setCell ⟨w.heap.size, 8, none⟩ (.slice a5 l.length c5)) (fun b => b < G.B ∨ (w.heap.size < b ∧ b < w5.heap.size)) (.sl l) [.slice a5 l.length c5] := by
          refine RepT.on HL5.out (fun b hb => ?_) (fun b hb => hb.imp id fun q => ⟨by have := q.1; omega, q.2.1⟩); have hne : b ≠ w.heap.size := fun e => by rcases hb with q | q; omega; have := q.1; omega
          exact (Below.heap_setCell _ _ _ _ hne).trans (Below.heap_setCell _ _ _ _ hne)
        have HT := ret2Dec R6 (by rfl) (show RepR ((w5.setCell ⟨w.heap.size, 0, none⟩ (.int .i64 2)).setCell ⟨w.heap.size, 8, none⟩ (.slice a5 l.length c5)) _ (mkDec { kind := 2, funs := l }) [.int .i64 2, .string ⟨#[]⟩, .slice none 0 0, .int .i64 0, .bool false, .bool false, .slice none 0 0, .slice none 0 0, .slice a5 l.length c5, .slice none 0 0, .slice none 0 0, .slice none 0 0, .slice none 0 0, .slice none 0 0] from repV _ (repV _ (repT1 repNil (repV _ (repV _ (repV _ (repT1 repNil (repT1 repNil (repT1 PT6 (repT1 repNil (repT1 repNil (repT1 repNil (repT1 repNil (repT1 repNil repN)))))))))))))) (fun b hb => hb.imp id fun q => ⟨by omega, by rw [hsz]; exact q.2, by omega⟩); have HR6 := hid R6; have HT6 := hid HT; clear HT PT6 R6 z0 z8 hzf hsz hs0; generalize ((w5.setCell ⟨w.heap.size, 0, none⟩ (.int .i64 2)).setCell ⟨w.heap.size, 8, none⟩ (.slice a5 l.length c5)) = W6 at HR6 HT6 ⊢; have HF := hid HT6.out.2; have HRS := hid HT6.out.1; clear HT6; have hz := HR6.out.res.2.2; have hzf := HR6.out.res.2.1; obtain ⟨z0, z1, z2, z3, z4, z5, z6, z7, z8, z9, z10, z11, z12, z13⟩ := bx14 hz; clear hz
        go_wp2_with fail
        refine fin14 HRS.out (by intros; simp [results, Tryz.results23, go_sem, *]) rfl HF.out
  rw [if_neg k2] at hx
  by_cases k3 : wd = [105, 110, 102, 105, 120]
  · subst k3; rw [if_pos (.inl rfl)] at hx; have HX := hid hx; clear hP k1 k2 hx; go_enter Tryz.func23, Tryz.ntmps23
    go_upto_region 3 with fail
    have R2 : RFr G M na nc fa fc #[.int .i64 8, .string ⟨#[]⟩, .slice none 0 0, .int .i64 0, .bool false, .bool false, .slice none 0 0, .slice none 0 0, .slice none 0 0, .slice none 0 0, .slice none 0 0, .slice none 0 0, .slice none 0 0, .slice none 0 0] w w.heap.size s ((w.alloc (.cells #[.int .i64 8, .string ⟨#[]⟩, .slice none 0 0, .int .i64 0, .bool false, .bool false, .slice none 0 0, .slice none 0 0, .slice none 0 0, .slice none 0 0, .slice none 0 0, .slice none 0 0, .slice none 0 0, .slice none 0 0] 42))) s := RFr.start HP.out 42; have HR2 := hid R2; clear R2; generalize (w.alloc (.cells #[.int .i64 8, .string ⟨#[]⟩, .slice none 0 0, .int .i64 0, .bool false, .bool false, .slice none 0 0, .slice none 0 0, .slice none 0 0, .slice none 0 0, .slice none 0 0, .slice none 0 0, .slice none 0 0, .slice none 0 0] 42)) = W2 at HR2 ⊢
    go_upto_region 4 with (go_at_call 63; refine (next_any hG HR2.out.ps).mono ?_; rintro e w3 ⟨sg, am, nm, cm, rfl, hmg, hb⟩; have HR3 := hid (HR2.out.below hb); clear hmg hb)
    have HR4 := hid (HR3.out.below (below_alloc w3 (.cells #[.int .i64 ((nextS G.X s).kind : Nat), .string ⟨(nextS G.X s).text.toArray⟩, .bool sg, .slice am nm cm, .int .u64 ((nextS G.X s).bits : Nat), .int .i64 ((nextS G.X s).n : Nat), .int .i64 ((nextS G.X s).pos : Nat)] 75))); have HT4 := hid (BxC.new w3 #[.int .i64 ((nextS G.X s).kind : Nat), .string ⟨(nextS G.X s).text.toArray⟩, .bool sg, .slice am nm cm, .int .u64 ((nextS G.X s).bits : Nat), .int .i64 ((nextS G.X s).n : Nat), .int .i64 ((nextS G.X s).pos : Nat)] 75); obtain ⟨tb, htb⟩ : ∃ tb, w3.heap.size = tb := ⟨_, rfl⟩; rw [htb] at HT4 ⊢; generalize w3.alloc (.cells #[.int .i64 ((nextS G.X s).kind : Nat), .string ⟨(nextS G.X s).text.toArray⟩, .bool sg, .slice am nm cm, .int .u64 ((nextS G.X s).bits : Nat), .int .i64 ((nextS G.X s).n : Nat), .int .i64 ((nextS G.X s).pos : Nat)] 75) = W4 at HR4 HT4 ⊢; have t0 : W4.cell? ⟨tb, 0, none⟩ = some (.int .i64 ((nextS G.X s).kind : Nat)) := HT4.out.2.2 0 (show 0 < 7 by omega); have hx := HX.out; clear HX HR2 HR3 htb
    rcases bind_cases hx with ⟨c, q, h1, rfl⟩ | ⟨lv, s1, h1, h2⟩
    · obtain ⟨k4, hl, he⟩ := levelS_err h1; obtain rfl : c = (wrongE G.X s).1 := congrArg Prod.fst he; obtain rfl : q = (wrongE G.X s).2 := congrArg Prod.snd he; clear he; have e4 : (((nextS G.X s).kind : Nat) : Int) = 4 := by omega
      have t1 : W4.cell? ⟨tb, 1, none⟩ = some (.string ⟨(nextS G.X s).text.toArray⟩) := HT4.out.2.2 1 (show 1 < 7 by omega); have hln : ¬ ((nextS G.X s).text.length : Int) = 1 := by omega
      clear h1 hx
      go_wp2_with (go_at_call 13; refine (wrong_any hG HR4.out.ps).mono ?_; rintro e w5 ⟨rfl, hb⟩; have HR5 := hid (HR4.out.below hb); clear hb; unfold thrown)
      go_simp; exact ⟨rfl, HR5.out.kn, rfl⟩
    · have hr : ∃ c q, f.nms s1 = some (.error (c, q)) ∧ r = .error (c, q) := by
        rcases bind_cases h2 with ⟨c, q, h3, rfl⟩ | ⟨l, s2, h3, h4⟩
        · exact ⟨c, q, h3, rfl⟩
        · rw [hnms] at h3; have := (nameR_err h3).2; cases this
      obtain ⟨c, q, h3, rfl⟩ := hr; rw [hnms] at h3; obtain ⟨hns, he⟩ := nameR_err h3; obtain rfl : c = (wrongE G.X s1).1 := congrArg Prod.fst (Except.error.inj he); obtain rfl : q = (wrongE G.X s1).2 := congrArg Prod.snd (Except.error.inj he); clear he; have HNS := hid hns
      rcases levelS_ok h1 with ⟨k4, x, htx, rfl⟩ | ⟨k4, rfl⟩
      · have e4 : (((nextS G.X s).kind : Nat) : Int) = 4 := by omega
        have t1 : W4.cell? ⟨tb, 1, none⟩ = some (.string ⟨#[x]⟩) := (HT4.out.2.2 1 (show 1 < 7 by omega)).trans (by rw [htx]; rfl); have HI := hid (nextS_in (X := G.X) (s := s) (by omega)); have z3 : W4.cell? ⟨w.heap.size, 3, none⟩ = some (.int .i64 0) := HR4.out.res.2.2 3 (show 3 < 14 by omega); have zf := HR4.out.res.2.1; have c1 := HR4.out.ps.c1; have fr := HR4.out.ps.fr; have hne : ¬ w.heap.size = G.bp := fun e => by have := HR4.out.mw _ HR4.out.ps.mp; omega
        have hne' : ¬ G.bp = w.heap.size := fun e => hne e.symm; have hlen := HI.out; have hfew := hG.few; clear h1 h2 h3 hx hns
        go_wp2_with (go_at_call 78; refine (names_err hG ((HR4.out.set1 3 (by simp) _).step HI.out).ps HNS.out).mono ?_; rintro e w5 ⟨rfl, hb⟩; have HR5 := hid (((HR4.out.set1 3 (by simp) _).step HI.out).below hb); clear hb; unfold thrown)
        go_simp; exact ⟨rfl, HR5.out.kn, rfl⟩
      · have e4 : ¬ (((nextS G.X s1).kind : Nat) : Int) = 4 := by omega
        clear h1 h2 h3 hx hns
        go_wp2_with (go_at_call 78; refine (names_err hG HR4.out.ps HNS.out).mono ?_; rintro e w5 ⟨rfl, hb⟩; have HR5 := hid (HR4.out.below hb); clear hb; unfold thrown)
        go_simp; exact ⟨rfl, HR5.out.kn, rfl⟩
  by_cases k4 : wd = [105, 110, 102, 105, 120, 114]
  · subst k4; rw [if_pos (.inr rfl)] at hx; have HX := hid hx; clear hP k1 k2 k3 hx; go_enter Tryz.func23, Tryz.ntmps23
    go_upto_region 3 with fail
    have R2 : RFr G M na nc fa fc #[.int .i64 8, .string ⟨#[]⟩, .slice none 0 0, .int .i64 0, .bool true, .bool false, .slice none 0 0, .slice none 0 0, .slice none 0 0, .slice none 0 0, .slice none 0 0, .slice none 0 0, .slice none 0 0, .slice none 0 0] w w.heap.size s ((w.alloc (.cells #[.int .i64 8, .string ⟨#[]⟩, .slice none 0 0, .int .i64 0, .bool true, .bool false, .slice none 0 0, .slice none 0 0, .slice none 0 0, .slice none 0 0, .slice none 0 0, .slice none 0 0, .slice none 0 0, .slice none 0 0] 42))) s := RFr.start HP.out 42; have HR2 := hid R2; clear R2; generalize (w.alloc (.cells #[.int .i64 8, .string ⟨#[]⟩, .slice none 0 0, .int .i64 0, .bool true, .bool false, .slice none 0 0, .slice none 0 0, .slice none 0 0, .slice none 0 0, .slice none 0 0, .slice none 0 0, .slice none 0 0, .slice none 0 0] 42)) = W2 at HR2 ⊢
    go_upto_region 4 with (go_at_call 63; refine (next_any hG HR2.out.ps).mono ?_; rintro e w3 ⟨sg, am, nm, cm, rfl, hmg, hb⟩; have HR3 := hid (HR2.out.below hb); clear hmg hb)
    have HR4 := hid (HR3.out.below (below_alloc w3 (.cells #[.int .i64 ((nextS G.X s).kind : Nat), .string ⟨(nextS G.X s).text.toArray⟩, .bool sg, .slice am nm cm, .int .u64 ((nextS G.X s).bits : Nat), .int .i64 ((nextS G.X s).n : Nat), .int .i64 ((nextS G.X s).pos : Nat)] 75))); have HT4 := hid (BxC.new w3 #[.int .i64 ((nextS G.X s).kind : Nat), .string ⟨(nextS G.X s).text.toArray⟩, .bool sg, .slice am nm cm, .int .u64 ((nextS G.X s).bits : Nat), .int .i64 ((nextS G.X s).n : Nat), .int .i64 ((nextS G.X s).pos : Nat)] 75); obtain ⟨tb, htb⟩ : ∃ tb, w3.heap.size = tb := ⟨_, rfl⟩; rw [htb] at HT4 ⊢; generalize w3.alloc (.cells #[.int .i64 ((nextS G.X s).kind : Nat), .string ⟨(nextS G.X s).text.toArray⟩, .bool sg, .slice am nm cm, .int .u64 ((nextS G.X s).bits : Nat), .int .i64 ((nextS G.X s).n : Nat), .int .i64 ((nextS G.X s).pos : Nat)] 75) = W4 at HR4 HT4 ⊢; have t0 : W4.cell? ⟨tb, 0, none⟩ = some (.int .i64 ((nextS G.X s).kind : Nat)) := HT4.out.2.2 0 (show 0 < 7 by omega); have hx := HX.out; clear HX HR2 HR3 htb
    rcases bind_cases hx with ⟨c, q, h1, rfl⟩ | ⟨lv, s1, h1, h2⟩
    · obtain ⟨k4, hl, he⟩ := levelS_err h1; obtain rfl : c = (wrongE G.X s).1 := congrArg Prod.fst he; obtain rfl : q = (wrongE G.X s).2 := congrArg Prod.snd he; clear he; have e4 : (((nextS G.X s).kind : Nat) : Int) = 4 := by omega
      have t1 : W4.cell? ⟨tb, 1, none⟩ = some (.string ⟨(nextS G.X s).text.toArray⟩) := HT4.out.2.2 1 (show 1 < 7 by omega); have hln : ¬ ((nextS G.X s).text.length : Int) = 1 := by omega
      clear h1 hx
      go_wp2_with (go_at_call 13; refine (wrong_any hG HR4.out.ps).mono ?_; rintro e w5 ⟨rfl, hb⟩; have HR5 := hid (HR4.out.below hb); clear hb; unfold thrown)
      go_simp; exact ⟨rfl, HR5.out.kn, rfl⟩
    · have hr : ∃ c q, f.nms s1 = some (.error (c, q)) ∧ r = .error (c, q) := by
        rcases bind_cases h2 with ⟨c, q, h3, rfl⟩ | ⟨l, s2, h3, h4⟩
        · exact ⟨c, q, h3, rfl⟩
        · rw [hnms] at h3; have := (nameR_err h3).2; cases this
      obtain ⟨c, q, h3, rfl⟩ := hr; rw [hnms] at h3; obtain ⟨hns, he⟩ := nameR_err h3; obtain rfl : c = (wrongE G.X s1).1 := congrArg Prod.fst (Except.error.inj he); obtain rfl : q = (wrongE G.X s1).2 := congrArg Prod.snd (Except.error.inj he); clear he; have HNS := hid hns
      rcases levelS_ok h1 with ⟨k4, x, htx, rfl⟩ | ⟨k4, rfl⟩
      · have e4 : (((nextS G.X s).kind : Nat) : Int) = 4 := by omega
        have t1 : W4.cell? ⟨tb, 1, none⟩ = some (.string ⟨#[x]⟩) := (HT4.out.2.2 1 (show 1 < 7 by omega)).trans (by rw [htx]; rfl); have HI := hid (nextS_in (X := G.X) (s := s) (by omega)); have z3 : W4.cell? ⟨w.heap.size, 3, none⟩ = some (.int .i64 0) := HR4.out.res.2.2 3 (show 3 < 14 by omega); have zf := HR4.out.res.2.1; have c1 := HR4.out.ps.c1; have fr := HR4.out.ps.fr; have hne : ¬ w.heap.size = G.bp := fun e => by have := HR4.out.mw _ HR4.out.ps.mp; omega
        have hne' : ¬ G.bp = w.heap.size := fun e => hne e.symm; have hlen := HI.out; have hfew := hG.few; clear h1 h2 h3 hx hns
        go_wp2_with (go_at_call 78; refine (names_err hG ((HR4.out.set1 3 (by simp) _).step HI.out).ps HNS.out).mono ?_; rintro e w5 ⟨rfl, hb⟩; have HR5 := hid (((HR4.out.set1 3 (by simp) _).step HI.out).below hb); clear hb; unfold thrown)
        go_simp; exact ⟨rfl, HR5.out.kn, rfl⟩
      · have e4 : ¬ (((nextS G.X s1).kind : Nat) : Int) = 4 := by omega
        clear h1 h2 h3 hx hns
        go_wp2_with (go_at_call 78; refine (names_err hG HR4.out.ps HNS.out).mono ?_; rintro e w5 ⟨rfl, hb⟩; have HR5 := hid (HR4.out.below hb); clear hb; unfold thrown)
        go_simp; exact ⟨rfl, HR5.out.kn, rfl⟩
  rw [if_neg (fun q => q.elim k3 k4), hdcl] at hx; cases hx
end
end Go.Proofs.YtkblonfmjlopaaaGreatDoor
