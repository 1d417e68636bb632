/-
  pat, walked: no 'as', no type.
-/
import Derived.Test.YtkblonfmjlopaaaGreatDoorRegTIn
import Derived.Test.YtkblonfmjlopaaaGreatDoorSyDp
import Derived.Test.YtkblonfmjlopaaaGreatDoorSyMk
import Derived.Test.YtkblonfmjlopaaaGreatDoorSyRet
import Derived.Test.YtkblonfmjlopaaaGreatDoorSyOpd
import Derived.Test.YtkblonfmjlopaaaGreatDoorSyE
import Derived.Deep.Cut
import Derived.Test.YtkblonfmjlopaaaGreatDoorSyKid
set_option linter.all false
set_option maxRecDepth 1000000
set_option maxHeartbeats 16000000
namespace Go.Proofs.YtkblonfmjlopaaaGreatDoor
open Go Go.RowKit
section
variable {G : Gh} {f : Fs} {n : Nat}
theorem RFr.store {M : Nat → Prop} {na : Option Addr} {nc : Nat} {fa : Option Addr} {fc : Nat} {Z : Array Value} {w w3 : World} {rb : Nat} {s s1 : PSt} (h : RFr G M na nc fa fc Z w rb s w3 s1) (ds : List Value) (hl : ds.length = Z.size) :
    RFr G M na nc fa fc ds.toArray w rb s (w3.setCells rb 0 ds) s1 ∧ ∀ b, b ≠ rb → (w3.setCells rb 0 ds).heap[b]? = w3.heap[b]? := by
  obtain ⟨g1, g2, g3, g4⟩ := h.res.store ds hl; have hB := h.hB; have hlo := h.lo; exact ⟨⟨h.kn.low g4 (by omega) hlo, h.ps.keep (g4.mono (by omega)) (fun k hk => g2 k (fun e => by have := h.mw _ hk; omega)), h.sc, h.mono, g1, hlo, hB, h.mw⟩, g2⟩
theorem pat_any (hG : GOk G) (hty : f.ty = PM.none) (hasp : ∀ t, f.asp t = PM.none) (hc : FN G 98 #[.pointer (some ⟨G.bp, 0, none⟩), .int .i64 0, .bool false, .func (.func 99) #[.pointer (some ⟨G.bp, 0, none⟩)] #[], .bool false, .func (.func 100) #[] #[]] IsPat (f.climbP 0 false)) : FN G 65 #[.pointer (some ⟨G.bp, 0, none⟩)] IsPat (patS G.X f n) := by
  intro M na nc fa fc w s r hP hx; have hB := hP.bB; have HP := hid hP; have hmf : ∀ (fn : Fn) (first cap : Array Value) (w : World), (Instr.makeFunc fn first cap).run Tryz.prog w = .ok (.func fn first cap) w := fun _ _ _ _ => rfl; unfold patS at hx
  try simp only [] at hx
  by_cases has : ((nextS G.X s).kind = 1 ∧ shortP G.X false s = true) ∧ asNext G.X s = true
  · exfalso
    rcases bind_cases hx with ⟨c, q, h1, _⟩ | ⟨x, s1, h1, _⟩
    · rw [if_pos has, hasp] at h1; cases h1
    · rw [if_pos has, hasp] at h1; cases h1
  rw [if_neg has] at hx; have HNA := hid has; have HX := hid hx; have HR0 : Hid (RFr G M na nc fa fc #[.int .i64 0, .string ⟨#[]⟩, .bool false, .slice none 0 0, .int .i64 0, .string ⟨#[]⟩, .slice none 0 0, .slice none 0 0, .slice none 0 0] w w.heap.size s (w.alloc (.cells #[.int .i64 0, .string ⟨#[]⟩, .bool false, .slice none 0 0, .int .i64 0, .string ⟨#[]⟩, .slice none 0 0, .slice none 0 0, .slice none 0 0] 82)) s) := hid (RFr.start HP.out 82); clear hx has hP; go_enter Tryz.func65, Tryz.ntmps65
  go_upto_region 2 with (go_at_call 63; refine (next_any hG HR0.out.ps).mono ?_; rintro e w1 ⟨sg, am, nm, cm, rfl, hmg, hb⟩; have HR1 := hid (HR0.out.below hb); clear hmg hb)
  have HR2 := hid (HR1.out.below (below_alloc w1 (.cells #[.int .i64 ((nextS G.X s).kind : Nat), .string ⟨(nextS G.X s).text.toArray⟩, .bool sg, .slice am nm cm, .int .u64 ((nextS G.X s).bits : Nat), .int .i64 ((nextS G.X s).n : Nat), .int .i64 ((nextS G.X s).pos : Nat)] 75))); have HT2 := hid (BxC.new w1 #[.int .i64 ((nextS G.X s).kind : Nat), .string ⟨(nextS G.X s).text.toArray⟩, .bool sg, .slice am nm cm, .int .u64 ((nextS G.X s).bits : Nat), .int .i64 ((nextS G.X s).n : Nat), .int .i64 ((nextS G.X s).pos : Nat)] 75); obtain ⟨tb, htb⟩ : ∃ tb, w1.heap.size = tb := ⟨_, rfl⟩; rw [htb] at HT2 ⊢; generalize w1.alloc (.cells #[.int .i64 ((nextS G.X s).kind : Nat), .string ⟨(nextS G.X s).text.toArray⟩, .bool sg, .slice am nm cm, .int .u64 ((nextS G.X s).bits : Nat), .int .i64 ((nextS G.X s).n : Nat), .int .i64 ((nextS G.X s).pos : Nat)] 75) = W2 at HR2 HT2 ⊢; clear htb HR1 HR0
  go_cut [55] from 4 (fun bv wx => bv = .bool false ∧ Hid (RFr G M na nc fa fc #[.int .i64 0, .string ⟨#[]⟩, .bool false, .slice none 0 0, .int .i64 0, .string ⟨#[]⟩, .slice none 0 0, .slice none 0 0, .slice none 0 0] w w.heap.size s wx s))
  case first =>
    clear HX; have g0 : W2.cell? ⟨tb, 0, none⟩ = some (.int .i64 ((nextS G.X s).kind : Nat)) := HT2.out.2.2 0 (show 0 < 7 by omega); have HR3 := hid (HR2.out.below (Below.refl _ _).drew); have HTB : Hid (tb < W2.drew.heap.size) := hid HT2.out.1
    by_cases k1 : (nextS G.X s).kind = 1
    · cases hsh : shortP G.X false s with
      | false =>
        have HSH := hid hsh; clear hsh; have e1 : ((((nextS G.X s).kind : Nat) : Int) == 1) = true := by rw [k1]; rfl
        refine region_T (S := fun wx => wx.cell? ⟨tb, 0, none⟩ = some (.int .i64 ((nextS G.X s).kind : Nat))) (T := fun _j => false) (by kernel_rfl) ?_; have hS0 := g0; refine tq 0 hS0 ?_; refine tq 1 hS0 ?_; refine tq 2 hS0 ?_; refine tq 3 hS0 ?_; refine tq 4 hS0 ?_; refine on1 5 fun K hK => ?_; go_simp; refine (short_any hG HR3.out.ps false).mono ?_; rintro e w4 ⟨rfl, hb⟩; rw [HSH.out]; have hS1 := (hb.cell (p := ⟨tb, 0, none⟩) HTB.out).trans (hS0); have HR4 := hid (HR3.out.below hb); clear hb; refine nx hK hS1 ?_; clear hK K; refine tq 6 hS1 ?_; refine tq 7 hS1 ?_; refine tqu 8 hS1 ?_; refine tqu 9 hS1 ?_; refine tqu 10 hS1 ?_; refine tqu 11 hS1 ?_; refine tqu 12 hS1 ?_; refine tqu 13 hS1 ?_; refine tqu 14 hS1 ?_; refine tqu 15 hS1 ?_; refine tqu 16 hS1 ?_; refine tqu 17 hS1 ?_; refine tqu 18 hS1 ?_; refine tq 19 hS1 ?_; refine tq 20 hS1 ?_; refine tqu 21 hS1 ?_; refine tqu 22 hS1 ?_; refine tqu 23 hS1 ?_; refine tqu 24 hS1 ?_; refine tqu 25 hS1 ?_; refine tqu 26 hS1 ?_; refine tqu 27 hS1 ?_; refine tqu 28 hS1 ?_; refine tqu 29 hS1 ?_; refine tqu 30 hS1 ?_; refine tqu 31 hS1 ?_; refine tqu 32 hS1 ?_; refine tqu 33 hS1 ?_; refine tq 34 hS1 ?_; refine tq 35 hS1 ?_; refine tqu 36 hS1 ?_; refine tqu 37 hS1 ?_; refine tqu 38 hS1 ?_; refine tqu 39 hS1 ?_; refine tqu 40 hS1 ?_; refine tqu 41 hS1 ?_; refine tqu 42 hS1 ?_; refine tqu 43 hS1 ?_; refine tqu 44 hS1 ?_; refine tqu 45 hS1 ?_; refine tqu 46 hS1 ?_; refine tqu 47 hS1 ?_; refine tqu 48 hS1 ?_; refine tq 49 hS1 ?_; refine anyT_done (by kernel_rfl) ?_ _
        go_wp2_with fail
        go_meet
        case rel => exact ⟨rfl, HR4⟩
      | true =>
        have HSH := hid hsh
        by_cases hnx : s.i + 1 < G.X.ts.length
        · have hna : asNext G.X s = false := by
            cases hh : asNext G.X s with
            | false => rfl
            | true => exact absurd ⟨⟨k1, hsh⟩, hh⟩ HNA.out
          clear hsh; obtain ⟨u, hu⟩ : ∃ u, G.X.ts[s.i + 1]? = some u := ⟨_, List.getElem?_eq_getElem hnx⟩; obtain ⟨xx, xo, sg2, am2, nm2, cm2, ela, hxB, ⟨g3, g4, _⟩, _⟩ := HR2.out.ps.tok hG hu; have HXX : Hid (xx < W2.drew.heap.size) := hid (Nat.lt_of_lt_of_le hxB HR2.out.ps.bB); have g1 := HR2.out.ps.c0; rw [ela] at g1; have g2 : W2.cell? ⟨G.bp, 1, none⟩ = some (.int .i64 (s.i : Nat)) := HR2.out.ps.c1; have hfew := hG.few; have hlt : (s.i : Int) + 1 < (G.X.ts.length : Int) := by omega
          have hnn : (0 : Int) ≤ (s.i : Int) + 1 := by omega
          have htn : ((s.i : Int) + 1).toNat = s.i + 1 := by omega
          have hilen : s.i + 1 < G.X.ts.length := hnx; have hw1 : IntKind.i64.wrap ((s.i : Int) + 1) = (s.i : Int) + 1 := by rw [IntKind.wrap_i64]; omega
          have hdd : decide ((s.i : Int) + 1 < (G.X.ts.length : Int)) = true := decide_eq_true hlt; clear ela hxB; have hna2 : (u.kind == 8 && u.text == [97, 115]) = false := by unfold asNext at hna; rw [hu] at hna; exact hna
          clear hna hu
          by_cases k8 : u.kind = 8
          · have hne : ¬ u.text.toArray = #[97, 115] := fun e => by
              have e2 : u.text = [97, 115] := by have := congrArg Array.toList e; simpa using this
              rw [k8, e2] at hna2; cases hna2
            have e8 : (((u.kind : Nat) : Int) == 8) = true := by rw [k8]; rfl
            have hsl : (u.text == [97, 115]) = false := by rw [k8] at hna2; simpa using hna2
            clear hna2 k8; have e1 : ((((nextS G.X s).kind : Nat) : Int) == 1) = true := by rw [k1]; rfl
            refine region_T (S := fun wx => wx.cell? ⟨tb, 0, none⟩ = some (.int .i64 ((nextS G.X s).kind : Nat)) ∧ wx.cell? ⟨G.bp, 0, none⟩ = some (.slice (some ⟨xx, xo, none⟩) G.X.ts.length G.lc) ∧ wx.cell? ⟨G.bp, 1, none⟩ = some (.int .i64 (s.i : Nat)) ∧ wx.cell? ⟨xx, xo + (s.i + 1) * 7, none⟩ = some (.int .i64 (u.kind : Nat)) ∧ wx.cell? ⟨xx, xo + (s.i + 1) * 7 + 1, none⟩ = some (.string ⟨u.text.toArray⟩)) (T := fun _j => false) (by kernel_rfl) ?_; have hS0 := And.intro (g0) (And.intro (g1) (And.intro (g2) (And.intro (g3) (g4)))); refine tq 0 hS0 ?_; refine tq 1 hS0 ?_; refine tq 2 hS0 ?_; refine tq 3 hS0 ?_; refine tq 4 hS0 ?_; refine on1 5 fun K hK => ?_; go_simp; refine (short_any hG HR3.out.ps false).mono ?_; rintro e w4 ⟨rfl, hb⟩; rw [HSH.out]; have hS1 := And.intro ((hb.cell (p := ⟨tb, 0, none⟩) HTB.out).trans (hS0).1) (And.intro ((hb.cell (p := ⟨G.bp, 0, none⟩) HR3.out.ps.lt).trans (hS0).2.1) (And.intro ((hb.cell (p := ⟨G.bp, 1, none⟩) HR3.out.ps.lt).trans (hS0).2.2.1) (And.intro ((hb.cell (p := ⟨xx, xo + (s.i + 1) * 7, none⟩) HXX.out).trans (hS0).2.2.2.1) ((hb.cell (p := ⟨xx, xo + (s.i + 1) * 7 + 1, none⟩) HXX.out).trans (hS0).2.2.2.2)))); have HR4 := hid (HR3.out.below hb); clear hb; refine nx hK hS1 ?_; clear hK K; refine tq 6 hS1 ?_; refine tq 7 hS1 ?_; refine tq 8 hS1 ?_; refine tq 9 hS1 ?_; refine tq 10 hS1 ?_; refine tq 11 hS1 ?_; refine tq 12 hS1 ?_; refine tq 13 hS1 ?_; refine tq 14 hS1 ?_; refine tq 15 hS1 ?_; refine tq 16 hS1 ?_; refine tq 17 hS1 ?_; refine tq 18 hS1 ?_; refine tq 19 hS1 ?_; refine tq 20 hS1 ?_; refine tq 21 hS1 ?_; refine tq 22 hS1 ?_; refine tq 23 hS1 ?_; refine tq 24 hS1 ?_; refine tq 25 hS1 ?_; refine tq 26 hS1 ?_; refine tq 27 hS1 ?_; refine tq 28 hS1 ?_; refine tq 29 hS1 ?_; refine tq 30 hS1 ?_; refine tq 31 hS1 ?_; refine tq 32 hS1 ?_; refine tq 33 hS1 ?_; refine tq 34 hS1 ?_; refine tq 35 hS1 ?_; refine tq 36 hS1 ?_; refine tq 37 hS1 ?_; refine tq 38 hS1 ?_; refine tq 39 hS1 ?_; refine tq 40 hS1 ?_; refine tq 41 hS1 ?_; refine tq 42 hS1 ?_; refine tq 43 hS1 ?_; refine tq 44 hS1 ?_; refine tq 45 hS1 ?_; refine tq 46 hS1 ?_; refine tq 47 hS1 ?_; refine tq 48 hS1 ?_; refine tq 49 hS1 ?_; refine anyT_done (by kernel_rfl) ?_ _
            go_wp2_with fail
            go_meet
            case rel => exact ⟨rfl, HR4⟩
          · have e8 : (((u.kind : Nat) : Int) == 8) = false := by simp; omega
            clear hna2 k8 g4; have e1 : ((((nextS G.X s).kind : Nat) : Int) == 1) = true := by rw [k1]; rfl
            refine region_T (S := fun wx => wx.cell? ⟨tb, 0, none⟩ = some (.int .i64 ((nextS G.X s).kind : Nat)) ∧ wx.cell? ⟨G.bp, 0, none⟩ = some (.slice (some ⟨xx, xo, none⟩) G.X.ts.length G.lc) ∧ wx.cell? ⟨G.bp, 1, none⟩ = some (.int .i64 (s.i : Nat)) ∧ wx.cell? ⟨xx, xo + (s.i + 1) * 7, none⟩ = some (.int .i64 (u.kind : Nat))) (T := fun _j => false) (by kernel_rfl) ?_; have hS0 := And.intro (g0) (And.intro (g1) (And.intro (g2) (g3))); refine tq 0 hS0 ?_; refine tq 1 hS0 ?_; refine tq 2 hS0 ?_; refine tq 3 hS0 ?_; refine tq 4 hS0 ?_; refine on1 5 fun K hK => ?_; go_simp; refine (short_any hG HR3.out.ps false).mono ?_; rintro e w4 ⟨rfl, hb⟩; rw [HSH.out]; have hS1 := And.intro ((hb.cell (p := ⟨tb, 0, none⟩) HTB.out).trans (hS0).1) (And.intro ((hb.cell (p := ⟨G.bp, 0, none⟩) HR3.out.ps.lt).trans (hS0).2.1) (And.intro ((hb.cell (p := ⟨G.bp, 1, none⟩) HR3.out.ps.lt).trans (hS0).2.2.1) ((hb.cell (p := ⟨xx, xo + (s.i + 1) * 7, none⟩) HXX.out).trans (hS0).2.2.2))); have HR4 := hid (HR3.out.below hb); clear hb; refine nx hK hS1 ?_; clear hK K; refine tq 6 hS1 ?_; refine tq 7 hS1 ?_; refine tq 8 hS1 ?_; refine tq 9 hS1 ?_; refine tq 10 hS1 ?_; refine tq 11 hS1 ?_; refine tq 12 hS1 ?_; refine tq 13 hS1 ?_; refine tq 14 hS1 ?_; refine tq 15 hS1 ?_; refine tq 16 hS1 ?_; refine tq 17 hS1 ?_; refine tq 18 hS1 ?_; refine tq 19 hS1 ?_; refine tq 20 hS1 ?_; refine tq 21 hS1 ?_; refine tq 22 hS1 ?_; refine tq 23 hS1 ?_; refine tq 24 hS1 ?_; refine tq 25 hS1 ?_; refine tq 26 hS1 ?_; refine tq 27 hS1 ?_; refine tq 28 hS1 ?_; refine tq 29 hS1 ?_; refine tq 30 hS1 ?_; refine tq 31 hS1 ?_; refine tq 32 hS1 ?_; refine tq 33 hS1 ?_; refine tq 34 hS1 ?_; refine tq 35 hS1 ?_; refine tqu 36 hS1 ?_; refine tqu 37 hS1 ?_; refine tqu 38 hS1 ?_; refine tqu 39 hS1 ?_; refine tqu 40 hS1 ?_; refine tqu 41 hS1 ?_; refine tqu 42 hS1 ?_; refine tqu 43 hS1 ?_; refine tqu 44 hS1 ?_; refine tqu 45 hS1 ?_; refine tqu 46 hS1 ?_; refine tqu 47 hS1 ?_; refine tqu 48 hS1 ?_; refine tq 49 hS1 ?_; refine anyT_done (by kernel_rfl) ?_ _
            go_wp2_with fail
            go_meet
            case rel => exact ⟨rfl, HR4⟩
        · have hlt : ¬ (s.i : Int) + 1 < (G.X.ts.length : Int) := by omega
          have hdd : decide ((s.i : Int) + 1 < (G.X.ts.length : Int)) = false := decide_eq_false hlt; have hil := HR2.out.ps.il; have hfew0 := hG.few; have hw1 : IntKind.i64.wrap ((s.i : Int) + 1) = (s.i : Int) + 1 := by rw [IntKind.wrap_i64]; omega
          clear hsh hil hfew0; have g1 : W2.cell? ⟨G.bp, 0, none⟩ = some (.slice G.la G.X.ts.length G.lc) := HR2.out.ps.c0; have g2 : W2.cell? ⟨G.bp, 1, none⟩ = some (.int .i64 (s.i : Nat)) := HR2.out.ps.c1; have hfew := hG.few; have e1 : ((((nextS G.X s).kind : Nat) : Int) == 1) = true := by rw [k1]; rfl
          refine region_T (S := fun wx => wx.cell? ⟨tb, 0, none⟩ = some (.int .i64 ((nextS G.X s).kind : Nat)) ∧ wx.cell? ⟨G.bp, 0, none⟩ = some (.slice G.la G.X.ts.length G.lc) ∧ wx.cell? ⟨G.bp, 1, none⟩ = some (.int .i64 (s.i : Nat))) (T := fun _j => false) (by kernel_rfl) ?_; have hS0 := And.intro (g0) (And.intro (g1) (g2)); refine tq 0 hS0 ?_; refine tq 1 hS0 ?_; refine tq 2 hS0 ?_; refine tq 3 hS0 ?_; refine tq 4 hS0 ?_; refine on1 5 fun K hK => ?_; go_simp; refine (short_any hG HR3.out.ps false).mono ?_; rintro e w4 ⟨rfl, hb⟩; rw [HSH.out]; have hS1 := And.intro ((hb.cell (p := ⟨tb, 0, none⟩) HTB.out).trans (hS0).1) (And.intro ((hb.cell (p := ⟨G.bp, 0, none⟩) HR3.out.ps.lt).trans (hS0).2.1) ((hb.cell (p := ⟨G.bp, 1, none⟩) HR3.out.ps.lt).trans (hS0).2.2)); have HR4 := hid (HR3.out.below hb); clear hb; refine nx hK hS1 ?_; clear hK K; refine tq 6 hS1 ?_; refine tq 7 hS1 ?_; refine tq 8 hS1 ?_; refine tq 9 hS1 ?_; refine tq 10 hS1 ?_; refine tq 11 hS1 ?_; refine tq 12 hS1 ?_; refine tq 13 hS1 ?_; refine tq 14 hS1 ?_; refine tq 15 hS1 ?_; refine tq 16 hS1 ?_; refine tq 17 hS1 ?_; refine tq 18 hS1 ?_; refine tq 19 hS1 ?_; refine tq 20 hS1 ?_; refine tqu 21 hS1 ?_; refine tqu 22 hS1 ?_; refine tqu 23 hS1 ?_; refine tqu 24 hS1 ?_; refine tqu 25 hS1 ?_; refine tqu 26 hS1 ?_; refine tqu 27 hS1 ?_; refine tqu 28 hS1 ?_; refine tqu 29 hS1 ?_; refine tqu 30 hS1 ?_; refine tqu 31 hS1 ?_; refine tqu 32 hS1 ?_; refine tqu 33 hS1 ?_; refine tq 34 hS1 ?_; refine tq 35 hS1 ?_; refine tqu 36 hS1 ?_; refine tqu 37 hS1 ?_; refine tqu 38 hS1 ?_; refine tqu 39 hS1 ?_; refine tqu 40 hS1 ?_; refine tqu 41 hS1 ?_; refine tqu 42 hS1 ?_; refine tqu 43 hS1 ?_; refine tqu 44 hS1 ?_; refine tqu 45 hS1 ?_; refine tqu 46 hS1 ?_; refine tqu 47 hS1 ?_; refine tqu 48 hS1 ?_; refine tq 49 hS1 ?_; refine anyT_done (by kernel_rfl) ?_ _
          go_wp2_with fail
          go_meet
          case rel => exact ⟨rfl, HR4⟩
    · have e1 : ((((nextS G.X s).kind : Nat) : Int) == 1) = false := by simp; omega
      refine region_T (S := fun wx => wx.cell? ⟨tb, 0, none⟩ = some (.int .i64 ((nextS G.X s).kind : Nat))) (T := fun _j => false) (by kernel_rfl) ?_; have hS0 := g0; refine tq 0 hS0 ?_; refine tq 1 hS0 ?_; refine tq 2 hS0 ?_; refine tq 3 hS0 ?_; refine tqu 4 hS0 ?_; refine tqu 5 hS0 ?_; refine tq 6 hS0 ?_; refine tq 7 hS0 ?_; refine tqu 8 hS0 ?_; refine tqu 9 hS0 ?_; refine tqu 10 hS0 ?_; refine tqu 11 hS0 ?_; refine tqu 12 hS0 ?_; refine tqu 13 hS0 ?_; refine tqu 14 hS0 ?_; refine tqu 15 hS0 ?_; refine tqu 16 hS0 ?_; refine tqu 17 hS0 ?_; refine tqu 18 hS0 ?_; refine tq 19 hS0 ?_; refine tq 20 hS0 ?_; refine tqu 21 hS0 ?_; refine tqu 22 hS0 ?_; refine tqu 23 hS0 ?_; refine tqu 24 hS0 ?_; refine tqu 25 hS0 ?_; refine tqu 26 hS0 ?_; refine tqu 27 hS0 ?_; refine tqu 28 hS0 ?_; refine tqu 29 hS0 ?_; refine tqu 30 hS0 ?_; refine tqu 31 hS0 ?_; refine tqu 32 hS0 ?_; refine tqu 33 hS0 ?_; refine tq 34 hS0 ?_; refine tq 35 hS0 ?_; refine tqu 36 hS0 ?_; refine tqu 37 hS0 ?_; refine tqu 38 hS0 ?_; refine tqu 39 hS0 ?_; refine tqu 40 hS0 ?_; refine tqu 41 hS0 ?_; refine tqu 42 hS0 ?_; refine tqu 43 hS0 ?_; refine tqu 44 hS0 ?_; refine tqu 45 hS0 ?_; refine tqu 46 hS0 ?_; refine tqu 47 hS0 ?_; refine tqu 48 hS0 ?_; refine tq 49 hS0 ?_; refine anyT_done (by kernel_rfl) ?_ _
      go_wp2_with fail
      go_meet
      case rel => exact ⟨rfl, HR3⟩
  case rest =>
  obtain ⟨rfl, HR3⟩ := hcut; clear HT2 HR2 HNA; have hx := HX.out; clear HX
  rcases bind_cases hx with ⟨c, q, h1, rfl⟩ | ⟨nd, s1, h1, h2⟩
  · have H1 := hid h1; clear hx h1
    go_wp2_with (go_at_call 98; refine (hc M na nc fa fc _ _ _ HR3.out.ps H1.out).mono ?_; rintro e w5 ⟨hk, rfl⟩; unfold thrown)
    go_simp; exact ⟨rfl, HR3.out.kn.go hk, rfl⟩
  · have H1 := hid h1
    have HS : Hid (¬ seesS G.X [[58]] s1 = true) ∧ r = .ok (nd, s1) := by
      cases n with
      | zero => exact absurd h2 (by simp [typedPL, PM.none])
      | succ m =>
        unfold typedPL at h2
        by_cases hs : seesS G.X [[58]] s1 = true
        · rw [takes_bind hs, if_pos rfl, hty] at h2; cases h2
        · rw [takes_bind_no hs, if_neg (by decide)] at h2; exact ⟨hid hs, pure_inv h2⟩
    obtain ⟨HS, rfl⟩ := HS; clear hx h1 h2
    go_wp2_with (go_at_call 98; refine (hc M na nc fa fc _ _ _ HR3.out.ps H1.out).mono ?_; rintro e w5 ⟨hk, hsc, hi, hP5, v, rfl, x0, x1, x2, Vg, Vi, Vh, x4, x5, Vm, Vo, Vn, Vp, Vr, Vq, Vs, Vu, Vt, rfl, hrep⟩; have HR5 := hid (HR3.out.go hk hP5 hsc hi); have HREP := hid hrep; have HK5 := hid hk.size; clear hk hsc hi hP5 hrep; have hz := HR5.out.res.2.2; have hzf := HR5.out.res.2.1; obtain ⟨z0, z1, z2, z3, z4, z5, z6, z7, z8⟩ := bx9 hz; clear hz)
    change Code.wp _ _ _ _ (w5.setCells w.heap.size 0 [.int .i64 x0, .string x1, .bool x2, .slice Vg Vi Vh, .int .i64 x4, .string x5, .slice Vm Vo Vn, .slice Vp Vr Vq, .slice Vs Vu Vt]); have HS5 := HR5.out.store [.int .i64 x0, .string x1, .bool x2, .slice Vg Vi Vh, .int .i64 x4, .string x5, .slice Vm Vo Vn, .slice Vp Vr Vq, .slice Vs Vu Vt] rfl; have HR6 := hid HS5.1; have HREP6 := hid (HREP.out.on (w' := w5.setCells w.heap.size 0 [.int .i64 x0, .string x1, .bool x2, .slice Vg Vi Vh, .int .i64 x4, .string x5, .slice Vm Vo Vn, .slice Vp Vr Vq, .slice Vs Vu Vt]) (fun b hb => HS5.2 b (fun e => by have h1 := HR3.out.lt; have h2 := HR3.out.hB; rcases hb with q | q <;> omega)) (fun _ h => h))
    have HLO : Hid (w.heap.size < wc.heap.size) := hid HR3.out.lt; have HSZ6 : Hid (w5.heap.size ≤ (w5.setCells w.heap.size 0 [.int .i64 x0, .string x1, .bool x2, .slice Vg Vi Vh, .int .i64 x4, .string x5, .slice Vm Vo Vn, .slice Vp Vr Vq, .slice Vs Vu Vt]).heap.size) := hid (HS5.1.kn.size |> fun _ => by have := (HR5.out.res.store [.int .i64 x0, .string x1, .bool x2, .slice Vg Vi Vh, .int .i64 x4, .string x5, .slice Vm Vo Vn, .slice Vp Vr Vq, .slice Vs Vu Vt] rfl).2.2.1; omega); clear HS5; generalize w5.setCells w.heap.size 0 [.int .i64 x0, .string x1, .bool x2, .slice Vg Vi Vh, .int .i64 x4, .string x5, .slice Vm Vo Vn, .slice Vp Vr Vq, .slice Vs Vu Vt] = W6 at HR6 HREP6 HSZ6 ⊢; clear H1 z0 z1 z2 z3 z4 z5 z6 z7 z8 hzf
    go_loopg [] 0 (fun gk wr => Hid (RFr G M na nc fa fc #[.int .i64 x0, .string x1, .bool x2, .slice Vg Vi Vh, .int .i64 x4, .string x5, .slice Vm Vo Vn, .slice Vp Vr Vq, .slice Vs Vu Vt] w w.heap.size s wr s1) ∧ Hid (RepR wr (Own G.B wc.heap.size w5.heap.size No) nd [.int .i64 x0, .string x1, .bool x2, .slice Vg Vi Vh, .int .i64 x4, .string x5, .slice Vm Vo Vn, .slice Vp Vr Vq, .slice Vs Vu Vt]) ∧ Hid (w5.heap.size ≤ wr.heap.size))
    case atStart => exact ⟨HR6, HREP6, HSZ6⟩
    case round =>
      obtain ⟨HR7, HREP7, HSZ7⟩ := hrel; clear HR6 HREP6 HSZ6
      go_wp2_with (go_at_call 21; refine (takes_no hG HR7.out.ps [58] HS.out).mono ?_; rintro e w8 ⟨rfl, hb⟩; have HR8 := hid (HR7.out.below hb); have HREP8 := hid (HREP7.out.on (Own.kb hb HR7.out.ps.bB HSZ7.out) (fun _ h => h)); have HSZ8 := hid (Nat.le_trans HSZ7.out hb.size); clear hb; have hy := HR8.out.res.2.2; have hyf := HR8.out.res.2.1; obtain ⟨y0, y1, y2, y3, y4, y5, y6, y7, y8⟩ := bx9 hy; clear hy)
      have HT := ret2Pat HR8.out (by rfl) HREP8.out (fun b hb => hb.imp id fun q => by have h1 := q.1; have h2 := q.2.1; have h3 := HLO.out; have h4 := HSZ8.out; exact ⟨by omega, by omega, by omega⟩); have HF := hid HT.2; have HRS := hid HT.1; clear HT; refine fin9 HRS.out (by intros; simp [results, Tryz.results65, go_sem, *]) rfl HF.out
end
def LnF (B lo hi A : Nat) (b : Nat) : Prop := b < B ∨ (lo ≤ b ∧ b < hi ∧ b ≠ A)
structure LN (G : Gh) (M : Nat → Prop) (na : Option Addr) (nc : Nat) (fa : Option Addr) (fc : Nat) (lo sz : Nat) (s : PSt) (wr : World) (s1 : PSt) (acc : List Nd) (a : Option Addr) (c : Nat) : Prop where
  sc : s1.sc = s.sc
  mono : s.i ≤ s1.i
  ps : PS G M na nc fa fc wr s1
  lB : G.B ≤ lo
  mlo : ∀ k, M k → k < lo
  lw : lo ≤ wr.heap.size
  row : (acc = [] ∧ a = none ∧ c = 0) ∨ ∃ A, a = some ⟨A, 0, none⟩ ∧ LsA wr (LnF G.B lo wr.heap.size A) lo sz A c acc
section
variable {G : Gh} {M : Nat → Prop} {na : Option Addr} {nc : Nat} {fa : Option Addr} {fc : Nat} {lo sz : Nat} {s s1 s4 : PSt} {w wr w4 : World} {acc : List Nd} {a : Option Addr} {c : Nat}
theorem LN.start (hP : PS G M na nc fa fc w s1) (hsc : s1.sc = s.sc) (hi : s.i ≤ s1.i) (lB : G.B ≤ lo) (mlo : ∀ k, M k → k < lo) (lw : lo ≤ w.heap.size) : LN G M na nc fa fc lo sz s w s1 [] none 0 :=
  ⟨hsc, hi, hP, lB, mlo, lw, .inl ⟨rfl, rfl, rfl⟩⟩
theorem LN.go (h : LN G M na nc fa fc lo sz s wr s1 acc a c) (hk : Kn G.B M wr w4) (hP : PS G M na nc fa fc w4 s4) (hsc : s4.sc = s1.sc) (hi : s1.i ≤ s4.i) : LN G M na nc fa fc lo sz s w4 s4 acc a c := by
  refine ⟨hsc.trans h.sc, Nat.le_trans h.mono hi, hP, h.lB, h.mlo, Nat.le_trans h.lw hk.size, ?_⟩
  rcases h.row with q | ⟨A, e, hL⟩
  · exact .inl q
  · have hA1 : lo ≤ A := by obtain ⟨_, q, _⟩ := hL; exact q
    have hA2 : A < wr.heap.size := by obtain ⟨_, _, q, _⟩ := hL; exact q
    refine .inr ⟨A, e, hL.keep (fun b hb => ?_) (hk.blk A hA2 (fun q => by have := h.mlo _ q; omega)) hk.size (fun b hb => hb.imp id fun q => ⟨q.1, by have := hk.size; omega, q.2.2⟩) (fun q => q.elim (fun q => by have := h.lB; omega) (fun q => q.2.2 rfl))⟩
    rcases hb with q | ⟨q1, q2, _⟩
    · exact hk.bel.block b q
    · exact hk.blk b q2 (fun q => by have := h.mlo _ q; omega)
theorem LN.below (h : LN G M na nc fa fc lo sz s wr s1 acc a c) (hb : Below wr.heap.size wr w4) : LN G M na nc fa fc lo sz s w4 s1 acc a c :=
  h.go (Kn.of hb h.ps.bB) (h.ps.new hb) rfl (Nat.le_refl _)
theorem LN.fin (h : LN G M na nc fa fc lo sz s wr s1 acc a c) : IsSl wr (fun b => b < G.B ∨ (lo ≤ b ∧ b < wr.heap.size)) acc (.slice a acc.length c) := by
  rcases h.row with ⟨rfl, rfl, rfl⟩ | ⟨A, rfl, hL⟩
  · exact ⟨none, 0, rfl, repNil⟩
  · have hA1 : lo ≤ A := by obtain ⟨_, q, _⟩ := hL; exact q
    have hA2 : A < wr.heap.size := by obtain ⟨_, _, q, _⟩ := hL; exact q
    exact ⟨_, _, rfl, hL.rep (fun b hb => hb.imp id fun q => ⟨q.1, q.2.1⟩) (.inr ⟨hA1, hA2⟩)⟩
theorem LN.round {cs : Array Value} {T : TypeId} {nd : Nd} {z : Value} {lo' : Nat} (h : LN G M na nc fa fc lo sz s w4 s1 acc a c) (hl' : lo ≤ lo') (hA' : ∀ A, a = some ⟨A, 0, none⟩ → A < lo')
    (hr : RepR w4 (Own G.B lo' w4.heap.size No) nd cs.toList) (hsz : cs.size = sz) (hs0 : 0 < sz) :
    ∃ hh, ArrS (w4.alloc (.cells cs T)) a acc.length c sz hh ∧ New (w4.alloc (.cells cs T)) lo a (c * sz) ∧ lo ≤ (w4.alloc (.cells cs T)).heap.size ∧
      ∀ a' c' rr w5, (rr = hh ∧ a' = a ∧ c' = c ∨ rr = zcS z ∧ a' = some ⟨(w4.alloc (.cells cs T)).heap.size, 0, none⟩ ∧ (w4.alloc (.cells cs T)).heap.size < w5.heap.size ∧ ∀ p : Addr, p.block < (w4.alloc (.cells cs T)).heap.size → w5.cell? p = (w4.alloc (.cells cs T)).cell? p) →
        ArrS w5 a' (acc.length + 1) c' sz (catS hh (acc.length * sz) sz (cellAt cs) rr) → New w5 lo a' (c' * sz) → Below lo (w4.alloc (.cells cs T)) w5 → Kq (w4.alloc (.cells cs T)) w5 a (acc.length * sz) ((acc.length + 1) * sz) →
        LN G M na nc fa fc lo sz s w5 s1 (acc ++ [nd]) a' c' ∧ Below lo w4 w5 := by
  have ba := below_alloc w4 (.cells cs T); have h1 := h.below ba; have hlB := h.lB; have hlw := h.lw; have e1 : (w4.alloc (.cells cs T)).heap.size = w4.heap.size + 1 := by simp
  -- the node, in the world with the copy
  have hn : RepR (w4.alloc (.cells cs T)) (Own G.B lo' w4.heap.size No) nd ((List.range sz).map (cellAt cs)) := by
    have e : ((List.range sz).map (cellAt cs)) = cs.toList := by
      subst hsz; apply List.ext_getElem
      · simp
      · intro i h1 h2; have h2 : i < cs.size := by simpa using h2
        simp [cellAt, h2]
    rw [e]; exact hr.on (Kb.of ba fun b hb => by rcases hb with q | q <;> omega) (fun _ h => h)
  have hps : ∀ w5, Below lo (w4.alloc (.cells cs T)) w5 → PS G M na nc fa fc w5 s1 := fun w5 b5 => h1.ps.keep (b5.mono hlB) (fun k hk => b5.block k (h.mlo k hk)); have hbl : ∀ w5, Below lo (w4.alloc (.cells cs T)) w5 → Below lo w4 w5 := fun w5 b5 => (ba.mono hlw).trans b5
  rcases h1.row with ⟨rfl, rfl, rfl⟩ | ⟨A, rfl, hL⟩
  · refine ⟨fun _ => .bool false, nil_arr, nil_new, by omega, fun a' c' rr w5 hc A5 N5 b5 _ => ⟨⟨h.sc, h.mono, hps w5 b5, hlB, h.mlo, by have := b5.size; omega, .inr ?_⟩, hbl w5 b5⟩⟩
    rcases hc with ⟨_, rfl, rfl⟩ | ⟨hrr, rfl, hlt, hce⟩
    · have := A5.le; simp at this
    · refine ⟨_, rfl, _, by omega, hlt, fun q => q.elim (fun q => by omega) (fun q => q.2.2 rfl), A5, N5, fun i r hi => ?_⟩
      have hi0 : i = 0 := by
        have := (List.getElem?_eq_some_iff.1 hi).1; simp at this; omega
      subst hi0; have hr0 : r = nd := by simpa using hi.symm
      subst hr0
      have e : ((List.range sz).map fun j => catS (fun _ => .bool false) (([] : List Nd).length * sz) sz (cellAt cs) rr (0 * sz + j)) = (List.range sz).map (cellAt cs) := by
        apply List.map_congr_left; intro j hj; have hj : j < sz := by simpa using hj
        unfold catS; simp only [List.length_nil, Nat.zero_mul, Nat.zero_add, Nat.sub_zero]; rw [if_neg (by omega), if_pos (by omega)]
      rw [e]; refine RepR.keep (fun b hb => hb.imp id fun q => ⟨by have := q.1; omega, by have := q.2.1; omega, by have := q.2.1; omega⟩) (fun b off v hb hc => ?_) hn; rw [← hc]; exact hce ⟨b, off, none⟩ (by rcases hb with q | q <;> (show b < _) <;> omega)
  · obtain ⟨hh, q1, q2, q3, q4, q5, q6⟩ := hL; have hA4 : A < lo' := hA' A rfl; have hL0 : LsA (w4.alloc (.cells cs T)) (LnF G.B lo (w4.alloc (.cells cs T)).heap.size A) lo sz A c acc := ⟨hh, q1, q2, q3, q4, q5, q6⟩; refine ⟨hh, q4, q5, by omega, fun a' c' rr w5 hc A5 N5 b5 kq => ⟨⟨h.sc, h.mono, hps w5 b5, hlB, h.mlo, by have := b5.size; omega, .inr ?_⟩, hbl w5 b5⟩⟩; have hsz5 := b5.size
    have hFF : ∀ b, LnF G.B lo (w4.alloc (.cells cs T)).heap.size A b ∨ Own G.B lo' w4.heap.size No b → b < G.B ∨ (lo ≤ b ∧ b < w5.heap.size ∧ b ≠ A ∧ a' ≠ some ⟨b, 0, none⟩) := fun b hb => by
      have hne : ∀ b, b < (w4.alloc (.cells cs T)).heap.size → b ≠ A → a' ≠ some ⟨b, 0, none⟩ := fun b hb hbA e => by
        rcases hc with ⟨_, e2, _⟩ | ⟨_, e2, _⟩
        · rw [e2] at e; simp only [Option.some.injEq, Addr.mk.injEq, and_true] at e; exact hbA e.symm
        · rw [e2] at e; simp only [Option.some.injEq, Addr.mk.injEq, and_true] at e; omega
      rcases hb with (q | ⟨r1, r2, r3⟩) | (q | ⟨r1, r2, _⟩)
      · exact .inl q
      · exact .inr ⟨r1, by omega, r3, hne b r2 r3⟩
      · exact .inl q
      · exact .inr ⟨by omega, by omega, by omega, hne b (by omega) (by omega)⟩
    have hAA : ∀ A', a' = some ⟨A', 0, none⟩ → ¬ (A' < G.B ∨ (lo ≤ A' ∧ A' < w5.heap.size ∧ A' ≠ A ∧ a' ≠ some ⟨A', 0, none⟩)) := fun A' e q => by
      rcases q with q | q
      · rcases hc with ⟨_, e2, _⟩ | ⟨_, e2, _⟩
        · rw [e2] at e; simp only [Option.some.injEq, Addr.mk.injEq, and_true] at e; omega
        · rw [e2] at e; simp only [Option.some.injEq, Addr.mk.injEq, and_true] at e; omega
      · exact q.2.2.2 e
    obtain ⟨A', e', hor, hL'⟩ := LsA.push (F' := fun b => b < G.B ∨ (lo ≤ b ∧ b < w5.heap.size ∧ b ≠ A ∧ a' ≠ some ⟨b, 0, none⟩)) hs0 q1 q2 q3 q6 (fun b hb => by rcases hb with q | q <;> omega)
      (F1 := Own G.B lo' w4.heap.size No) (fun b hb => by rcases hb with q | q; exact ⟨by omega, by omega⟩; exact ⟨by omega, by omega⟩) hn hc (by omega) A5 N5 kq hFF hAA
    exact ⟨A', e', hL'.keep (Kb.refl _ _) rfl (Nat.le_refl _) (fun b hb => hb.imp id fun q => ⟨q.1, q.2.1, fun e => q.2.2.2 (by rw [e', e])⟩) (fun q => q.elim (fun q => by rcases hor with r | r <;> omega) (fun q => q.2.2 rfl))⟩
end
end Go.Proofs.YtkblonfmjlopaaaGreatDoor
