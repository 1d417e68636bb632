/-
  atpat, walked: tuples, records and some words apart.
-/
import Derived.Test.YtkblonfmjlopaaaGreatDoorRegTIn
import Derived.Test.YtkblonfmjlopaaaGreatDoorSyDp
import Derived.Test.YtkblonfmjlopaaaGreatDoorSyMk
import Derived.Test.YtkblonfmjlopaaaGreatDoorSxT
set_option linter.all false
set_option maxRecDepth 1000000
set_option maxHeartbeats 16000000
namespace Go.Proofs.YtkblonfmjlopaaaGreatDoor
open Go Go.RowKit
def PatSh (nd : Nd) : Prop := ∃ (i : Int) (t : ByteArray) (z m : Int) (x : ByteArray) (l1 l2 l3 : List Nd), nd = [.v (.int .i64 i), .v (.string t), .big z, .v (.int .i64 m), .v (.string x), .sl l1, .sl l2, .sl l3]
theorem listL_pre {X : Tx} {σ : Type} {by_ : Byt} {one : σ → PM (Nd × σ)} : ∀ (n : Nat) (acc : List Nd) (x : σ) (s : PSt) (l : List Nd) (y : σ) (s' : PSt), listL X by_ one n acc x s = some (.ok ((l, y), s')) → ∃ t, l = acc ++ t
  | 0, acc, x, s, l, y, s', h => by cases h
  | n + 1, acc, x, s, l, y, s', h => by
    by_cases hs : seesS X [by_] s = true
    · rw [listL_yes hs] at h
      rcases bind_cases h with ⟨c, q, h1, e⟩ | ⟨⟨a, u⟩, s1, h1, h2⟩
      · cases e
      · obtain ⟨t, rfl⟩ := listL_pre n _ _ _ _ _ _ h2; exact ⟨a :: t, by simp⟩
    · rw [listL_no hs] at h; cases h; exact ⟨[], by simp⟩
theorem upTo_one {X : Tx} {n : Nat} {fin : Byt} {one : PM Nd} {s s' : PSt} {x : Nd} {u : Unit} (h : upTo X n fin (lone one) () s = some (.ok (([x], u), s'))) : ∃ s1 s2, one s1 = some (.ok (x, s2)) := by
  by_cases hs : seesS X [fin] s = true
  · rw [upTo_yes hs] at h; cases h
  · rw [upTo_no hs] at h
    rcases bind_cases h with ⟨c, q, h1, e⟩ | ⟨⟨l, u1⟩, s1, h1, h2⟩
    · cases e
    · rcases bind_cases h2 with ⟨c, q, h3, e⟩ | ⟨_, s3, h3, h4⟩
      · cases e
      · cases h4; unfold list at h1
        rcases bind_cases h1 with ⟨c, q, h5, e⟩ | ⟨⟨a, u2⟩, s5, h5, h6⟩
        · cases e
        · obtain ⟨t, e⟩ := listL_pre _ _ _ _ _ _ _ h6; unfold lone at h5
          rcases bind_cases h5 with ⟨c, q, h7, e2⟩ | ⟨a', s7, h7, h8⟩
          · cases e2
          · cases h8; have : x = a := by simpa using (List.cons.inj (show x :: [] = a :: t from e)).1
            rw [this]; exact ⟨_, _, h7⟩
theorem atomic_in {X : Tx} {s : PSt} (h : atomicS X s = true) : s.i < X.ts.length := by
  unfold atomicS operandS at h; simp only [Bool.or_eq_true, Bool.and_eq_true, beq_iff_eq] at h
  rcases h with (((h | h) | h) | h) | h
  · exact nextS_in (by omega)
  · exact nextS_in (by omega)
  · exact nextS_in (by omega)
  · rcases h.1 with q | q <;> exact nextS_in (by omega)
  · exact sees_in h
section
variable {G : Gh} {f : Fs} {n : Nat}
theorem atpat_any (hG : GOk G) (hp : FN G 65 #[.pointer (some ⟨G.bp, 0, none⟩)] IsPat f.pat) (hapt : ∀ w, f.apt w = PM.none) (hptu : ∀ l, f.ptu l = PM.none) (hsp : ∀ s a s', f.pat s = some (.ok (a, s')) → PatSh a) : FN G 108 #[.pointer (some ⟨G.bp, 0, none⟩)] IsPat (atpat G.X f n) := by
  intro M na nc fa fc w s r hP hx; have hB := hP.bB; have HP := hid hP; have hmf : ∀ (fn : Fn) (first cap : Array Value) (w : World), (Instr.makeFunc fn first cap).run Tryz.prog w = .ok (.func fn first cap) w := fun _ _ _ _ => rfl; unfold atpat at hx
  by_cases ha : atomicS G.X s = true
  · rw [if_pos ha] at hx; have HX := hid hx; have HA := hid ha; have HI := hid (atomic_in ha); clear hx ha hP; go_enter Tryz.func108, Tryz.ntmps108
    go_upto_region 1 with fail
    have R0 : RFr G M na nc fa fc #[.int .i64 0, .string ⟨#[]⟩, .bool false, .slice none 0 0, .int .i64 0, .string ⟨#[]⟩, .slice none 0 0, .slice none 0 0, .slice none 0 0] w (w.alloc (.cells #[.pointer (some ⟨G.bp, 0, none⟩)] 49)).heap.size s ((w.alloc (.cells #[.pointer (some ⟨G.bp, 0, none⟩)] 49)).alloc (.cells #[.int .i64 0, .string ⟨#[]⟩, .bool false, .slice none 0 0, .int .i64 0, .string ⟨#[]⟩, .slice none 0 0, .slice none 0 0, .slice none 0 0] 82)) s := RFr.start2 HP.out (below_alloc w _) 82; have P0 := (BxC.new w #[.pointer (some ⟨G.bp, 0, none⟩)] 49).bl (below_alloc _ (.cells #[.int .i64 0, .string ⟨#[]⟩, .bool false, .slice none 0 0, .int .i64 0, .string ⟨#[]⟩, .slice none 0 0, .slice none 0 0, .slice none 0 0] 82)); rw [show (w.alloc (.cells #[.pointer (some ⟨G.bp, 0, none⟩)] 49)).heap.size = w.heap.size + 1 from by simp] at R0; obtain ⟨rb, hrb⟩ : ∃ rb, w.heap.size + 1 = rb := ⟨_, rfl⟩; rw [hrb] at R0 ⊢; generalize (w.alloc (.cells #[.pointer (some ⟨G.bp, 0, none⟩)] 49)).alloc (.cells #[.int .i64 0, .string ⟨#[]⟩, .bool false, .slice none 0 0, .int .i64 0, .string ⟨#[]⟩, .slice none 0 0, .slice none 0 0, .slice none 0 0] 82) = W0 at R0 P0 ⊢; have HR0 := hid R0; have HP0 := hid P0; have HRB := hid hrb; clear R0 P0 hrb; have p0 : W0.cell? ⟨w.heap.size, 0, none⟩ = some (.pointer (some ⟨G.bp, 0, none⟩)) := HP0.out.2.2 0 (show 0 < 1 by omega)
    go_upto_region 4 with (first
      | (go_at_call 107; refine (atomic_any hG HR0.out.ps).mono ?_; rintro e w1 ⟨rfl, hb⟩; rw [HA.out]; have HR1 := hid (HR0.out.below hb); have HP1 := hid (HP0.out.bl hb); have p1 : w1.cell? ⟨w.heap.size, 0, none⟩ = some (.pointer (some ⟨G.bp, 0, none⟩)) := HP1.out.2.2 0 (show 0 < 1 by omega); clear hb)
      | (go_at_call 63; refine (next_any hG HR1.out.ps).mono ?_; rintro e w2 ⟨sg, am, nm, cm, rfl, hmg, hb⟩; have HMG := hid hmg; have HR2 := hid (HR1.out.below hb); have HP2 := hid (HP1.out.bl hb); clear hmg hb))
    have R3 := HR2.out.below (below_alloc w2 (.cells #[.int .i64 ((nextS G.X s).kind : Nat), .string ⟨(nextS G.X s).text.toArray⟩, .bool sg, .slice am nm cm, .int .u64 ((nextS G.X s).bits : Nat), .int .i64 ((nextS G.X s).n : Nat), .int .i64 ((nextS G.X s).pos : Nat)] 75)); have T3 := BxC.new w2 #[.int .i64 ((nextS G.X s).kind : Nat), .string ⟨(nextS G.X s).text.toArray⟩, .bool sg, .slice am nm cm, .int .u64 ((nextS G.X s).bits : Nat), .int .i64 ((nextS G.X s).n : Nat), .int .i64 ((nextS G.X s).pos : Nat)] 75; have P3 := HP2.out.bl (below_alloc w2 (.cells #[.int .i64 ((nextS G.X s).kind : Nat), .string ⟨(nextS G.X s).text.toArray⟩, .bool sg, .slice am nm cm, .int .u64 ((nextS G.X s).bits : Nat), .int .i64 ((nextS G.X s).n : Nat), .int .i64 ((nextS G.X s).pos : Nat)] 75)); have HTB : Hid (w.heap.size ≤ w2.heap.size ∧ rb < w2.heap.size) := hid ⟨HR2.out.kn.size, HR2.out.lt⟩; obtain ⟨tb, htb⟩ : ∃ tb, w2.heap.size = tb := ⟨_, rfl⟩; rw [htb] at T3 HTB ⊢; generalize w2.alloc (.cells #[.int .i64 ((nextS G.X s).kind : Nat), .string ⟨(nextS G.X s).text.toArray⟩, .bool sg, .slice am nm cm, .int .u64 ((nextS G.X s).bits : Nat), .int .i64 ((nextS G.X s).n : Nat), .int .i64 ((nextS G.X s).pos : Nat)] 75) = W3 at R3 T3 P3 ⊢; clear htb; have HR3 := hid R3; have HT3 := hid T3; have HP3 := hid P3; clear R3 T3 P3; have p3 : W3.cell? ⟨w.heap.size, 0, none⟩ = some (.pointer (some ⟨G.bp, 0, none⟩)) := HP3.out.2.2 0 (show 0 < 1 by omega); have c1 := HR3.out.ps.c1; have fr := HR3.out.ps.fr; have hlen := HI.out; have hfew := hG.few
    go_upto_region 5 with fail
    have KN := ((Kn.refl G.B (Jp G) W3).step HR3.out.ps rfl (.int .i64 ((s.i : Int) + 1))).jp HR3.out.ps.mp; have R4 := HR3.out.step HI.out; have T4 := HT3.out.kn KN (fun q => by have := HR3.out.mw _ q; have := HTB.out.1; omega); have P4 := HP3.out.kn KN (fun q => by have := HR3.out.mw _ q; omega); clear KN p3 c1 fr hlen hfew p0; generalize W3.setCell ⟨G.bp, 1, none⟩ (.int .i64 ((s.i : Int) + 1)) = W4 at R4 T4 P4 ⊢; have HR4 := hid R4; have HT4 := hid T4; have HP4 := hid P4; clear R4 T4 P4; have hx := HX.out; clear HX
    try simp only [] at hx
    by_cases k4 : (nextS G.X s).kind = 4
    · rw [if_pos k4] at hx; have e4 : (((nextS G.X s).kind : Nat) : Int) = 4 := by omega
      obtain rfl := pure_inv hx; clear hx; have t0 : W4.cell? ⟨tb, 0, none⟩ = some (.int .i64 ((nextS G.X s).kind : Nat)) := HT4.out.2.2 0 (show 0 < 7 by omega); have t2 : W4.cell? ⟨tb, 2, none⟩ = some (.bool sg) := HT4.out.2.2 2 (show 2 < 7 by omega); have t3 : W4.cell? ⟨tb, 3, none⟩ = some (.slice am nm cm) := HT4.out.2.2 3 (show 3 < 7 by omega); have HT := ret2Pat HR4.out (by rfl) (show RepR W4 _ _ [.int .i64 3, .string ⟨#[]⟩, .bool sg, .slice am nm cm, .int .i64 0, .string ⟨#[]⟩, .slice none 0 0, .slice none 0 0, .slice none 0 0] from mkPat_rep (w := W4) (F := (fun b => b < G.B)) (kind := 3) (name := []) (n := 0) (text := []) (ls := []) (kids := []) (types := []) (repMg HR4.out.ps HMG.out (fun b hb => hb)) repNil repNil repNil) (fun b hb => .inl hb); have HF := hid HT.2; have HRS := hid HT.1; clear HT; have hz := HR4.out.res.2.2; have hzf := HR4.out.res.2.1; obtain ⟨z0, z1, z2, z3, z4, z5, z6, z7, z8⟩ := bx9 hz; clear hz
      go_wp2_with fail
      refine fin9 HRS.out (by intros; simp [results, Tryz.results108, go_sem, *]) rfl HF.out
    · rw [if_neg k4] at hx; have e4 : ¬ (((nextS G.X s).kind : Nat) : Int) = 4 := by omega
      by_cases k6 : (nextS G.X s).kind = 6
      · rw [if_pos k6] at hx; have e6 : (((nextS G.X s).kind : Nat) : Int) = 6 := by omega
        obtain rfl := pure_inv hx; clear hx; have t0 : W4.cell? ⟨tb, 0, none⟩ = some (.int .i64 ((nextS G.X s).kind : Nat)) := HT4.out.2.2 0 (show 0 < 7 by omega); have t5 : W4.cell? ⟨tb, 5, none⟩ = some (.int .i64 ((nextS G.X s).n : Nat)) := HT4.out.2.2 5 (show 5 < 7 by omega); have HT := ret2Pat HR4.out (by rfl) (show RepR W4 _ _ [.int .i64 4, .string ⟨#[]⟩, .bool false, .slice none 0 0, .int .i64 ((nextS G.X s).n : Nat), .string ⟨#[]⟩, .slice none 0 0, .slice none 0 0, .slice none 0 0] from mkPat_rep (w := W4) (F := (fun b => b < G.B)) (kind := 4) (name := []) (n := ((nextS G.X s).n : Nat)) (text := []) (ls := []) (kids := []) (types := []) repZero repNil repNil repNil) (fun b hb => .inl hb); have HF := hid HT.2; have HRS := hid HT.1; clear HT; have hz := HR4.out.res.2.2; have hzf := HR4.out.res.2.1; obtain ⟨z0, z1, z2, z3, z4, z5, z6, z7, z8⟩ := bx9 hz; clear hz
        go_wp2_with fail
        refine fin9 HRS.out (by intros; simp [results, Tryz.results108, go_sem, *]) rfl HF.out
      · rw [if_neg k6] at hx; have e6 : ¬ (((nextS G.X s).kind : Nat) : Int) = 6 := by omega
        by_cases k7 : (nextS G.X s).kind = 7
        · rw [if_pos k7] at hx; have e7 : (((nextS G.X s).kind : Nat) : Int) = 7 := by omega
          obtain rfl := pure_inv hx; clear hx; have t0 : W4.cell? ⟨tb, 0, none⟩ = some (.int .i64 ((nextS G.X s).kind : Nat)) := HT4.out.2.2 0 (show 0 < 7 by omega); have t1 : W4.cell? ⟨tb, 1, none⟩ = some (.string ⟨(nextS G.X s).text.toArray⟩) := HT4.out.2.2 1 (show 1 < 7 by omega); have HT := ret2Pat HR4.out (by rfl) (show RepR W4 _ _ [.int .i64 5, .string ⟨#[]⟩, .bool false, .slice none 0 0, .int .i64 0, .string ⟨(nextS G.X s).text.toArray⟩, .slice none 0 0, .slice none 0 0, .slice none 0 0] from mkPat_rep (w := W4) (F := (fun b => b < G.B)) (kind := 5) (name := []) (n := 0) (text := (nextS G.X s).text) (ls := []) (kids := []) (types := []) repZero repNil repNil repNil) (fun b hb => .inl hb); have HF := hid HT.2; have HRS := hid HT.1; clear HT; have hz := HR4.out.res.2.2; have hzf := HR4.out.res.2.1; obtain ⟨z0, z1, z2, z3, z4, z5, z6, z7, z8⟩ := bx9 hz; clear hz
          go_wp2_with fail
          refine fin9 HRS.out (by intros; simp [results, Tryz.results108, go_sem, *]) rfl HF.out
        · rw [if_neg k7] at hx; have e7 : ¬ (((nextS G.X s).kind : Nat) : Int) = 7 := by omega
          by_cases k8 : (nextS G.X s).kind = 8
          · rw [if_pos k8] at hx; have e8 : (((nextS G.X s).kind : Nat) : Int) = 8 := by omega
            have p4 : W4.cell? ⟨w.heap.size, 0, none⟩ = some (.pointer (some ⟨G.bp, 0, none⟩)) := HP4.out.2.2 0 (show 0 < 1 by omega); have t0 : W4.cell? ⟨tb, 0, none⟩ = some (.int .i64 ((nextS G.X s).kind : Nat)) := HT4.out.2.2 0 (show 0 < 7 by omega)
            by_cases kp : (nextS G.X s).text = [40]
            · rw [if_pos kp] at hx; have t1 : W4.cell? ⟨tb, 1, none⟩ = some (.string ⟨#[40]⟩) := (HT4.out.2.2 1 (show 1 < 7 by omega)).trans (by rw [kp]; rfl)
              rcases bind_cases hx with ⟨c, q, hy, rfl⟩ | ⟨l0, s0, hy, hz⟩
              · rcases bind_cases hy with ⟨c', q', hy2, hr⟩ | ⟨l', s', hy2, hr⟩
                · cases hr; have HY := hid hy2; clear hx hy hy2
                  go_wp2_with (go_at_call 143; (refine ((upTo_Pat hG (pr := fun _ : Unit => ()) (Mx := fun _ => M) (St := fun _ _ => True) (fun _ _ _ h _ => h) 65 #[.pointer (some ⟨G.bp, 0, none⟩)] #[] (fun _ _ => rfl) [41] (lone f.pat) (FN.clo IsPat.ok hp) n _ _ () _ HR4.out.ps trivial HY.out)).mono ?_; rintro e w5 ⟨hk, rfl⟩; unfold thrown))
                  go_simp; exact ⟨rfl, HR4.out.kn.go hk, rfl⟩
                · cases hr
              · rcases bind_cases hy with ⟨c', q', hy2, hr⟩ | ⟨⟨l, u'⟩, s5, hy2, hr⟩
                · cases hr
                · cases hr; have HY := hid hy2; clear hx hy hy2; cases l with
                  | nil =>
                    have hz : f.ptu [] s0 = some r := hz; rw [hptu] at hz; cases hz
                  | cons x l =>
                  cases l with
                  | cons y l =>
                    have hz : f.ptu (x :: y :: l) s0 = some r := hz; rw [hptu] at hz; cases hz
                  | nil =>
                  have hz : (pure x : PM Nd) s0 = some r := hz; obtain rfl := pure_inv hz; clear hz; obtain ⟨s6, s7, ho⟩ := upTo_one HY.out; obtain ⟨i0, i1, i2, i3, i4, i5, i6, i7, rfl⟩ := hsp _ _ _ ho; clear ho
                  go_upto_region 21 with (go_at_call 143; refine ((upTo_Pat hG (pr := fun _ : Unit => ()) (Mx := fun _ => M) (St := fun _ _ => True) (fun _ _ _ h _ => h) 65 #[.pointer (some ⟨G.bp, 0, none⟩)] #[] (fun _ _ => rfl) [41] (lone f.pat) (FN.clo IsPat.ok hp) n _ _ () _ HR4.out.ps trivial HY.out)).mono ?_; rintro e w5 ⟨hk, hsc, hi, g5, v5, rfl, _, hP5, _, _, _, a5, c5, rfl, hl5⟩; have HR5 := hid (HR4.out.go hk hP5 hsc hi); have HL5 := hid hl5; have HK5 := hid hk; clear hk hsc hi hP5 hl5)
                  have hl5 := HL5.out; unfold RepT at hl5; obtain ⟨_, _, hv, _, _, hr5⟩ := hl5; cases hv
                  rcases hr5 with h0 | ⟨b5, o5, rfl, hb5, hL5⟩
                  · cases h0
                  unfold RepL at hL5; obtain ⟨⟨cs, hcs, hrr⟩, _⟩ := hL5; obtain ⟨x0, x1, x2, Vg, Vi, Vh, x4, x5, Vm, Vo, Vn, Vp, Vr, Vq, Vs, Vu, Vt, he, hrep⟩ := is_Pat hrr
                  have hcs' : cs = [.int .i64 x0, .string x1, .bool x2, .slice Vg Vi Vh, .int .i64 x4, .string x5, .slice Vm Vo Vn, .slice Vp Vr Vq, .slice Vs Vu Vt] := by
                    have := congrArg (fun v : Value => match v with | .agg a => a.toList | _ => []) he
                    simpa using this
                  subst hcs'; have q0 : w5.cell? ⟨b5, o5, none⟩ = some (.int .i64 x0) := hcs 0 (show 0 < 9 by omega); have q1 : w5.cell? ⟨b5, o5 + 1, none⟩ = some (.string x1) := hcs 1 (show 1 < 9 by omega); have q2 : w5.cell? ⟨b5, o5 + 2, none⟩ = some (.bool x2) := hcs 2 (show 2 < 9 by omega); have q3 : w5.cell? ⟨b5, o5 + 3, none⟩ = some (.slice Vg Vi Vh) := hcs 3 (show 3 < 9 by omega); have q4 : w5.cell? ⟨b5, o5 + 4, none⟩ = some (.int .i64 x4) := hcs 4 (show 4 < 9 by omega); have q5 : w5.cell? ⟨b5, o5 + 5, none⟩ = some (.string x5) := hcs 5 (show 5 < 9 by omega); have q6 : w5.cell? ⟨b5, o5 + 6, none⟩ = some (.slice Vm Vo Vn) := hcs 6 (show 6 < 9 by omega); have q7 : w5.cell? ⟨b5, o5 + 7, none⟩ = some (.slice Vp Vr Vq) := hcs 7 (show 7 < 9 by omega); have q8 : w5.cell? ⟨b5, o5 + 8, none⟩ = some (.slice Vs Vu Vt) := hcs 8 (show 8 < 9 by omega); have HREP := hid hrep; clear hcs hrr he hrep HL5; have hz := HR5.out.res.2.2; have hzf := HR5.out.res.2.1; obtain ⟨z0, z1, z2, z3, z4, z5, z6, z7, z8⟩ := bx9 hz; clear hz
                  go_wp2_with fail
                  have HT := ret2Pat HR5.out (by rfl) (show RepR w5 _ _ [.int .i64 x0, .string x1, .bool x2, .slice Vg Vi Vh, .int .i64 x4, .string x5, .slice Vm Vo Vn, .slice Vp Vr Vq, .slice Vs Vu Vt] from HREP.out) (fun b hb => hb.imp id fun q => by have h1 := q.1; have h2 := q.2.1; have h3 := HR4.out.kn.size; have h4 := HR4.out.lt; exact ⟨by omega, h2, by omega⟩); have HF := hid HT.2; have HRS := hid HT.1; clear HT; refine fin9 HRS.out (by intros; simp [results, Tryz.results108, go_sem, *]) rfl HF.out
            · rw [if_neg kp] at hx
              by_cases kq : (nextS G.X s).text = [91]
              · rw [if_pos kq] at hx; have t1 : W4.cell? ⟨tb, 1, none⟩ = some (.string ⟨#[91]⟩) := (HT4.out.2.2 1 (show 1 < 7 by omega)).trans (by rw [kq]; rfl)
                rcases bind_cases hx with ⟨c, q, hy, rfl⟩ | ⟨l0, s0, hy, hz⟩
                · rcases bind_cases hy with ⟨c', q', hy2, hr⟩ | ⟨l', s', hy2, hr⟩
                  · cases hr; have HY := hid hy2; clear hx hy hy2
                    go_wp2_with (go_at_call 143; (refine ((upTo_Pat hG (pr := fun _ : Unit => ()) (Mx := fun _ => M) (St := fun _ _ => True) (fun _ _ _ h _ => h) 65 #[.pointer (some ⟨G.bp, 0, none⟩)] #[] (fun _ _ => rfl) [93] (lone f.pat) (FN.clo IsPat.ok hp) n _ _ () _ HR4.out.ps trivial HY.out)).mono ?_; rintro e w5 ⟨hk, rfl⟩; unfold thrown))
                    go_simp; exact ⟨rfl, HR4.out.kn.go hk, rfl⟩
                  · cases hr
                · rcases bind_cases hy with ⟨c', q', hy2, hr⟩ | ⟨⟨l, u'⟩, s5, hy2, hr⟩
                  · cases hr
                  · cases hr; have HY := hid hy2; clear hx hy hy2; obtain rfl := pure_inv hz; clear hz
                    go_wp2_with (go_at_call 143; refine ((upTo_Pat hG (pr := fun _ : Unit => ()) (Mx := fun _ => M) (St := fun _ _ => True) (fun _ _ _ h _ => h) 65 #[.pointer (some ⟨G.bp, 0, none⟩)] #[] (fun _ _ => rfl) [93] (lone f.pat) (FN.clo IsPat.ok hp) n _ _ () _ HR4.out.ps trivial HY.out)).mono ?_; rintro e w5 ⟨hk, hsc, hi, g5, v5, rfl, _, hP5, _, _, _, a5, c5, rfl, hl5⟩; have HR5 := hid (HR4.out.go hk hP5 hsc hi); have HL5 := hid hl5; have HK5 := hid hk; clear hk hsc hi hP5 hl5; have hz := HR5.out.res.2.2; have hzf := HR5.out.res.2.1; obtain ⟨z0, z1, z2, z3, z4, z5, z6, z7, z8⟩ := bx9 hz; clear hz)
                    have HT := ret2Pat HR5.out (by rfl) (show RepR w5 _ _ [.int .i64 10, .string ⟨#[]⟩, .bool false, .slice none 0 0, .int .i64 0, .string ⟨#[]⟩, .slice none 0 0, .slice a5 l.length c5, .slice none 0 0] from mkPat_rep (w := w5) (F := Own G.B W4.heap.size w5.heap.size M) (kind := 10) (name := []) (n := 0) (text := []) (ls := []) (kids := l) (types := []) repZero repNil HL5.out repNil) (fun b hb => hb.imp id fun q => by have h1 := q.1; have h2 := q.2.1; have h3 := HR4.out.kn.size; have h4 := HR4.out.lt; exact ⟨by omega, h2, by omega⟩); have HF := hid HT.2; have HRS := hid HT.1; clear HT; refine fin9 HRS.out (by intros; simp [results, Tryz.results108, go_sem, *]) rfl HF.out
              · rw [if_neg kq, hapt] at hx; cases hx
          · rw [if_neg k8] at hx; have e8 : ¬ (((nextS G.X s).kind : Nat) : Int) = 8 := by omega
            obtain rfl := pure_inv hx; clear hx; have t0 : W4.cell? ⟨tb, 0, none⟩ = some (.int .i64 ((nextS G.X s).kind : Nat)) := HT4.out.2.2 0 (show 0 < 7 by omega); have t1 : W4.cell? ⟨tb, 1, none⟩ = some (.string ⟨(nextS G.X s).text.toArray⟩) := HT4.out.2.2 1 (show 1 < 7 by omega)
            go_wp2_with (go_at_call 142; refine (named_any (nextS G.X s).text _).mono ?_; rintro e w5 ⟨v5, rfl, hb, hv⟩; obtain ⟨x0, x1, x2, Vg, Vi, Vh, x4, x5, Vm, Vo, Vn, Vp, Vr, Vq, Vs, Vu, Vt, rfl, hrep⟩ := hv (fun b => b < G.B); have HR5 := hid (HR4.out.below hb); have HREP := hid hrep; clear hb hv hrep; have hz := HR5.out.res.2.2; have hzf := HR5.out.res.2.1; obtain ⟨z0, z1, z2, z3, z4, z5, z6, z7, z8⟩ := bx9 hz; clear hz)
            have HT := ret2Pat HR5.out (by rfl) (show RepR w5 _ _ [.int .i64 x0, .string x1, .bool x2, .slice Vg Vi Vh, .int .i64 x4, .string x5, .slice Vm Vo Vn, .slice Vp Vr Vq, .slice Vs Vu Vt] from HREP.out) (fun b hb => .inl hb); have HF := hid HT.2; have HRS := hid HT.1; clear HT; refine fin9 HRS.out (by intros; simp [results, Tryz.results108, go_sem, *]) rfl HF.out
  · rw [if_neg ha] at hx; have HA : Hid (atomicS G.X s = false) := hid (by simpa using ha); have HX := hid hx; clear hx ha hP; go_enter Tryz.func108, Tryz.ntmps108
    go_upto_region 1 with fail
    have R0 : RFr G M na nc fa fc #[.int .i64 0, .string ⟨#[]⟩, .bool false, .slice none 0 0, .int .i64 0, .string ⟨#[]⟩, .slice none 0 0, .slice none 0 0, .slice none 0 0] w (w.alloc (.cells #[.pointer (some ⟨G.bp, 0, none⟩)] 49)).heap.size s ((w.alloc (.cells #[.pointer (some ⟨G.bp, 0, none⟩)] 49)).alloc (.cells #[.int .i64 0, .string ⟨#[]⟩, .bool false, .slice none 0 0, .int .i64 0, .string ⟨#[]⟩, .slice none 0 0, .slice none 0 0, .slice none 0 0] 82)) s := RFr.start2 HP.out (below_alloc w _) 82; have P0 := (BxC.new w #[.pointer (some ⟨G.bp, 0, none⟩)] 49).bl (below_alloc _ (.cells #[.int .i64 0, .string ⟨#[]⟩, .bool false, .slice none 0 0, .int .i64 0, .string ⟨#[]⟩, .slice none 0 0, .slice none 0 0, .slice none 0 0] 82)); rw [show (w.alloc (.cells #[.pointer (some ⟨G.bp, 0, none⟩)] 49)).heap.size = w.heap.size + 1 from by simp] at R0; obtain ⟨rb, hrb⟩ : ∃ rb, w.heap.size + 1 = rb := ⟨_, rfl⟩; rw [hrb] at R0 ⊢; generalize (w.alloc (.cells #[.pointer (some ⟨G.bp, 0, none⟩)] 49)).alloc (.cells #[.int .i64 0, .string ⟨#[]⟩, .bool false, .slice none 0 0, .int .i64 0, .string ⟨#[]⟩, .slice none 0 0, .slice none 0 0, .slice none 0 0] 82) = W0 at R0 P0 ⊢; have HR0 := hid R0; have HP0 := hid P0; have HRB := hid hrb; clear R0 P0 hrb; have p0 : W0.cell? ⟨w.heap.size, 0, none⟩ = some (.pointer (some ⟨G.bp, 0, none⟩)) := HP0.out.2.2 0 (show 0 < 1 by omega)
    go_wp2_with (first
      | (go_at_call 107; refine (atomic_any hG HR0.out.ps).mono ?_; rintro e w1 ⟨rfl, hb⟩; rw [HA.out]; have HR1 := hid (HR0.out.below hb); have HP1 := hid (HP0.out.bl hb); have p1 : w1.cell? ⟨w.heap.size, 0, none⟩ = some (.pointer (some ⟨G.bp, 0, none⟩)) := HP1.out.2.2 0 (show 0 < 1 by omega); clear hb)
      | (go_at_call 13; refine (wrong_any hG HR1.out.ps).mono ?_; rintro e w2 ⟨rfl, hb⟩; have HR2 := hid (HR1.out.below hb); clear hb; unfold thrown))
    go_simp; have hx := HX.out; rw [wrong_eq] at hx; obtain rfl := Option.some.inj hx; exact ⟨rfl, HR2.out.kn, rfl⟩
end
theorem mkPat_sh (kind : Int) (name : Byt) (z n : Int) (text : Byt) (labels : List Byt) (kids types : List Nd) : PatSh (mkPat kind name z n text labels kids types) := ⟨_, _, _, _, _, _, _, _, rfl⟩
theorem named_sh (l : Byt) : PatSh (named l) := by
  unfold named
  split
  · exact mkPat_sh _ _ _ _ _ _ _ _
  · exact mkPat_sh _ _ _ _ _ _ _ _
section
variable {X : Tx} {f : Fs} {n : Nat}
def Shs (x : PM Nd) : Prop := ∀ s a s', x s = some (.ok (a, s')) → PatSh a
theorem atpat_sh (hp : Shs f.pat) (hapt : ∀ w, f.apt w = PM.none) (hptu : ∀ l, f.ptu l = PM.none) : Shs (atpat X f n) := fun s a s' h => by
  unfold atpat at h
  split at h
  · simp only [] at h
    split at h
    · cases pure_inv h; exact mkPat_sh _ _ _ _ _ _ _ _
    split at h
    · cases pure_inv h; exact mkPat_sh _ _ _ _ _ _ _ _
    split at h
    · cases pure_inv h; exact mkPat_sh _ _ _ _ _ _ _ _
    split at h
    · split at h
      · rcases bind_cases h with ⟨c, q, _, e⟩ | ⟨l0, s1, h1, h2⟩
        · cases e
        · rcases bind_cases h1 with ⟨c, q, _, e⟩ | ⟨⟨l, u⟩, s2, h3, h4⟩
          · cases e
          · cases h4; cases l with
            | nil => have h2 : f.ptu [] s1 = _ := h2; rw [hptu] at h2; cases h2
            | cons x l =>
              cases l with
              | cons y l => have h2 : f.ptu (x :: y :: l) s1 = _ := h2; rw [hptu] at h2; cases h2
              | nil =>
                have h2 : (pure x : PM Nd) s1 = some (.ok (a, s')) := h2; cases pure_inv h2; obtain ⟨_, _, ho⟩ := upTo_one h3; exact hp _ _ _ ho
      split at h
      · rcases bind_cases h with ⟨c, q, _, e⟩ | ⟨l, s1, h1, h2⟩
        · cases e
        · cases pure_inv h2; exact mkPat_sh _ _ _ _ _ _ _ _
      · rw [hapt] at h; cases h
    · cases pure_inv h; exact named_sh _
  · cases h
theorem patApp_sh (ha : Shs (atpat X f n)) : Shs (patApp X f n) := fun s a s' h => by
  unfold patApp at h; simp only [] at h
  rcases bind_cases h with ⟨c, q, _, e⟩ | ⟨x, s1, h1, h2⟩
  · cases e
  · rw [get_bind] at h2
    split at h2
    · rcases bind_cases h2 with ⟨c, q, _, e⟩ | ⟨y, s2, h3, h4⟩
      · cases e
      · cases pure_inv h4; exact mkPat_sh _ _ _ _ _ _ _ _
    · cases pure_inv h2; exact ha _ _ _ h1
theorem climbL_sh {level : Int} {must eq : Bool} {again : Int → Bool → PM Nd} : ∀ (m : Nat) (a : Nd) (last : Int × Bool) (s : PSt) (b : Nd) (s' : PSt), PatSh a → climbL X level must eq again twoP m a last s = some (.ok (b, s')) → PatSh b
  | 0, a, last, s, b, s', _, h => by cases h
  | m + 1, a, last, s, b, s', ha, h => by
    unfold climbL at h; simp only [] at h
    split at h
    · cases h; exact ha
    · split at h
      · cases h; exact ha
      · split at h
        · cases h; exact ha
        split at h
        · cases h
        split at h
        · cases h
        · rcases bind_cases h with ⟨c, q, _, e⟩ | ⟨_, s1, h1, h2⟩
          · cases e
          · rcases bind_cases h2 with ⟨c, q, _, e⟩ | ⟨y, s2, h3, h4⟩
            · cases e
            · exact climbL_sh m _ _ _ _ _ (mkPat_sh _ _ _ _ _ _ _ _) h4
theorem climbPS_sh (hp : Shs (patApp X f n)) (l : Int) (b : Bool) : Shs (climbPS X f n l b) := fun s a s' h => by
  unfold climbPS at h
  rcases bind_cases h with ⟨c, q, _, e⟩ | ⟨x, s1, h1, h2⟩
  · cases e
  · exact climbL_sh _ _ _ _ _ _ (hp _ _ _ h1) h2
theorem typedPL_sh : ∀ (m : Nat) (x : Nd) (s : PSt) (b : Nd) (s' : PSt), PatSh x → typedPL X f m x s = some (.ok (b, s')) → PatSh b
  | 0, x, s, b, s', _, h => by cases h
  | m + 1, x, s, b, s', hx, h => by
    unfold typedPL at h
    obtain ⟨o, s1, _, h1⟩ := (fun (h : (takes X [58] >>= fun o => if o = true then (f.ty >>= fun t => typedPL X f m (mkPat 9 [] 0 0 [] [] [x] [t])) else pure x) s = some (.ok (b, s'))) => (by
      by_cases hs : seesS X [[58]] s = true
      · rw [takes_bind hs] at h; exact ⟨true, _, takes_y hs, h⟩
      · rw [takes_bind_no hs] at h; exact ⟨false, _, takes_n hs, h⟩ : ∃ o s1, takes X [58] s = some (.ok (o, s1)) ∧ (if o = true then (f.ty >>= fun t => typedPL X f m (mkPat 9 [] 0 0 [] [] [x] [t])) else pure x : PM Nd) s1 = some (.ok (b, s')))) h
    cases o with
    | true =>
      rw [if_pos rfl] at h1
      rcases bind_cases h1 with ⟨c, q, _, e⟩ | ⟨t, s2, _, h3⟩
      · cases e
      · exact typedPL_sh m _ _ _ _ (mkPat_sh _ _ _ _ _ _ _ _) h3
    | false =>
      rw [if_neg (by decide)] at h1; cases pure_inv h1; exact hx
theorem patS_sh (hc : Shs (f.climbP 0 false)) (hasp : ∀ t, f.asp t = PM.none) : Shs (patS X f n) := fun s a s' h => by
  unfold patS at h; simp only [] at h
  rcases bind_cases h with ⟨c, q, _, e⟩ | ⟨x, s1, h1, h2⟩
  · cases e
  · refine typedPL_sh _ _ _ _ _ ?_ h2
    split at h1
    · rw [hasp] at h1; cases h1
    · exact hc _ _ _ h1
theorem fsR_sh : ∀ n, Shs (fsR X n).pat ∧ ∀ l b, Shs ((fsR X n).climbP l b)
  | 0 => ⟨fun _ _ _ h => (by cases h), fun _ _ _ _ _ h => (by cases h)⟩
  | n + 1 => by
    obtain ⟨h1, h2⟩ := fsR_sh n; have hapt : ∀ w, (fsR X n).apt w = PM.none := fun w => by cases n <;> rfl
    have hptu : ∀ l, (fsR X n).ptu l = PM.none := fun w => by cases n <;> rfl
    have hasp : ∀ t, (fsR X n).asp t = PM.none := fun w => by cases n <;> rfl
    exact ⟨patS_sh (h2 0 false) hasp, fun l b => climbPS_sh (patApp_sh (atpat_sh h1 hapt hptu)) l b⟩
end
end Go.Proofs.YtkblonfmjlopaaaGreatDoor
