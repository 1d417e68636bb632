/-
  The library's decimal read from a text, walked.
-/
import Derived.Test.YtajpeeccomgnnaaGreatDoorPdT
import Derived.BigQuiet
import Derived.Outline
namespace Go.Proofs.YtajpeeccomgnnaaGreatDoor
set_option linter.all false
open Go Go.RowKit

/-- The characters of a real. -/
def RC (s : ByteArray) : Prop := ∀ i, i < s.size → bt s i = 45 ∨ bt s i = 46 ∨ bt s i = 101 ∨ (48 ≤ bt s i ∧ bt s i ≤ 57)
theorem low_same {c : Nat} (h : c = 45 ∨ c = 46 ∨ c = 101 ∨ (48 ≤ c ∧ c ≤ 57)) : bits BinOp.or IntKind.u8 (c : Int) 32 = (c : Int) := by
  have h2 : c = 45 ∨ c = 46 ∨ c = 101 ∨ c = 48 ∨ c = 49 ∨ c = 50 ∨ c = 51 ∨ c = 52 ∨ c = 53 ∨ c = 54 ∨ c = 55 ∨ c = 56 ∨ c = 57 := by omega
  rcases h2 with rfl | rfl | rfl | rfl | rfl | rfl | rfl | rfl | rfl | rfl | rfl | rfl | rfl <;> decide
theorem lower_any {c : Nat} (h : c = 45 ∨ c = 46 ∨ c = 101 ∨ (48 ≤ c ∧ c ≤ 57)) (w : World) : Calls Tryz.prog 141 #[.int .u8 (c : Nat)] w fun e w' => e = .returned (.int .u8 (c : Nat)) ∧ w' = w := by
  have e1 := low_same h
  go_enter Tryz.func141, Tryz.ntmps141
  go_wp2_with fail
  go_ret
  exact ⟨rfl, rfl⟩
/-- How far an exponent's digits reach, and what they are worth. -/
def expE (s : ByteArray) : Nat → Nat → Nat → Nat × Nat
  | 0, i, e => (i, e)
  | k + 1, i, e => if 48 ≤ bt s i ∧ bt s i ≤ 57 then expE s k (i + 1) (if e < 10000 then e * 10 + (bt s i - 48) else e) else (i, e)
/-- A decimal half read. -/
structure Ms where
  bad : Bool
  i : Nat
  D : Nat → Nat
  nd : Nat
  dp : Int
  dot : Bool
  dig : Bool
def setM (s : ByteArray) : Nat → Ms → Ms
  | 0, m => m
  | k + 1, m =>
    if bt s m.i = 46 then (if m.dot then { m with bad := true } else setM s k { m with i := m.i + 1, dp := (m.nd : Nat), dot := true })
    else if 48 ≤ bt s m.i ∧ bt s m.i ≤ 57 then
      (if bt s m.i = 48 ∧ m.nd = 0 then setM s k { m with i := m.i + 1, dp := wrap64 (m.dp - 1), dig := true }
      else setM s k { m with i := m.i + 1, D := upd m.D m.nd (bt s m.i), nd := m.nd + 1, dig := true })
    else m
/-- What is answered: read well? and the decimal. -/
def setP (s : ByteArray) (m : Ms) : Int := if m.dot then m.dp else (m.nd : Nat)
def setX (s : ByteArray) (j : Nat) (sg : Int) (D : Nat → Nat) (nd : Nat) (dp : Int) : Bool × Sd :=
  (decide ((expE s (s.size - j) j 0).1 = s.size), ⟨D, nd, wrap64 (dp + wrap64 (((expE s (s.size - j) j 0).2 : Nat) * sg)), false⟩)
def setE (s : ByteArray) (m : Ms) (p : Int) : Bool × Sd :=
  if m.i < s.size ∧ bt s m.i = 101 then
    if s.size ≤ m.i + 1 then (false, ⟨m.D, m.nd, p, false⟩) else
    if s.size ≤ (if bt s (m.i + 1) = 45 then m.i + 2 else m.i + 1) ∨ ¬ (48 ≤ bt s (if bt s (m.i + 1) = 45 then m.i + 2 else m.i + 1) ∧ bt s (if bt s (m.i + 1) = 45 then m.i + 2 else m.i + 1) ≤ 57) then (false, ⟨m.D, m.nd, p, false⟩)
    else setX s (if bt s (m.i + 1) = 45 then m.i + 2 else m.i + 1) (if bt s (m.i + 1) = 45 then -1 else 1) m.D m.nd p
  else (decide (m.i = s.size), ⟨m.D, m.nd, p, false⟩)
def setR (s : ByteArray) : Bool × Sd :=
  if s.size = 0 then (false, ⟨fun _ => 0, 0, 0, false⟩) else
  let m := setM s (s.size - (if bt s 0 = 45 then 1 else 0)) ⟨false, if bt s 0 = 45 then 1 else 0, fun _ => 0, 0, 0, false, false⟩
  if m.bad ∨ m.dig = false then (false, ⟨m.D, m.nd, m.dp, false⟩) else setE s m (setP s m)
/-- Where a decimal was read: well formed, but perhaps of no digits. -/
structure Sd0 (S : Sd) : Prop where
  le : S.nd ≤ 800
  dg : Digs S.D S.nd
  top : 0 < S.nd → S.D 0 ≠ 48
theorem Sd0.dpx {D : Nat → Nat} {nd : Nat} {p : Int} {tr : Bool} (h : Sd0 ⟨D, nd, p, tr⟩) (p2 : Int) : Sd0 ⟨D, nd, p2, tr⟩ := ⟨h.le, h.dg, h.top⟩
set_option maxRecDepth 100000 in
set_option maxHeartbeats 8000000 in
theorem set_any (s : ByteArray) (hC : RC s) (hs : s.size ≤ 200) (b : Nat) (ng tr : Bool) (w : World) (h : Dc w b (fun _ => 0) 0 0 ng tr) :
    Calls Tryz.prog 127 #[.pointer (some ⟨b, 0, none⟩), .string s] w fun e w' => e = .returned (.bool (setR s).1) ∧ Sd0 (setR s).2 ∧ Below b w w' ∧ ((setR s).1 = true → DwS w b w' (setR s).2 (decide (bt s 0 = 45))) := by
  obtain ⟨R, hR⟩ : ∃ R, setR s = R := ⟨_, rfl⟩
  rw [hR]
  obtain ⟨R1, R2⟩ := R
  dsimp only
  have Hh := hid h
  have HC := hid hC
  have fr := h.fr
  have c0 := h.n
  have c1 := h.p
  have cg := h.g
  have ct := h.t
  unfold setR at hR
  clear h hC
  by_cases h0 : s.size = 0
  · rw [if_pos h0] at hR
    obtain ⟨rfl, rfl⟩ := Prod.mk.inj hR
    have hse : s = ByteArray.empty := by
      rcases s with ⟨⟨l⟩⟩
      cases l with
      | nil => rfl
      | cons a l => simp [ByteArray.size] at h0
    have H0 := hid h0
    clear hR h0
    go_enter Tryz.func127, Tryz.ntmps127
    go_wp2_with fail
    go_ret
    exact ⟨rfl, ⟨by simp, fun i hi => absurd hi (by simp), fun hi => absurd hi (by simp)⟩, ((Below.refl b w).setCell (p := ⟨b, 802, none⟩) (Nat.le_refl b) _).setCell (p := ⟨b, 803, none⟩) (Nat.le_refl b) _, fun hx => by simp at hx⟩
  rw [if_neg h0] at hR
  have h1 : 0 < s.size := by omega
  clear h0
  obtain ⟨sg, hsg⟩ : ∃ sg : Nat, (if bt s 0 = 45 then 1 else 0) = sg := ⟨_, rfl⟩
  rw [hsg] at hR
  have hsg1 : sg ≤ 1 := by rw [← hsg]; split <;> omega
  obtain ⟨M, hM⟩ : ∃ M, setM s (s.size - sg) ⟨false, sg, fun _ => 0, 0, 0, false, false⟩ = M := ⟨_, rfl⟩
  rw [hM] at hR
  dsimp only at hR
  have HM := hid hM
  have HR := hid hR
  have Hsg := hid hsg
  obtain ⟨ng2, hng2⟩ : ∃ x, decide (bt s 0 = 45) = x := ⟨_, rfl⟩
  rw [hng2]
  have Hng := hid hng2
  clear hM hR hsg hng2
  have hix : ∀ w, (Instr.index 9 (.string s) (.int .i64 0)).run Tryz.prog w = .ok (.int .u8 (bt s 0 : Nat)) w := fun w => run_bt Tryz.underlying9 h1 rfl
  obtain ⟨z, hz⟩ : ∃ z, bt s 0 = z := ⟨_, rfl⟩
  have hzc := HC.out 0 h1
  rw [hz] at hix hzc
  have HZ := hid hz
  clear hz
  have hse : ¬ s = ByteArray.empty := by intro e; subst e; exact absurd h1 (by decide)
  go_enter Tryz.func127, Tryz.ntmps127
  go_upto_block 0 with fail
  go_cut [5] from 23 to 33 (fun iv wx => iv = .int .i64 (sg : Nat) ∧ Dw w b wx (fun _ => 0) 0 0 ng2 false)
  case first =>
    by_cases h45 : z = 45
    · subst h45
      have e1 : sg = 1 := by have := Hsg.out; rw [if_pos HZ.out] at this; exact this.symm
      have e2 : ng2 = true := by rw [← Hng.out, show bt s 0 = 45 from HZ.out]; rfl
      subst e1 e2
      go_wp2_with fail
      go_meet
      exact ⟨rfl, ((Hh.out.setg false).sett false).setg true, (((Below.refl b w).setCell (Nat.le_refl b) _).setCell (Nat.le_refl b) _).setCell (Nat.le_refl b) _⟩
    · have e1 : sg = 0 := by have := Hsg.out; rw [if_neg (by rw [HZ.out]; exact h45)] at this; exact this.symm
      have e2 : ng2 = false := by rw [← Hng.out, show bt s 0 = z from HZ.out]; simpa using h45
      subst e1 e2
      have n43 : ((z : Int) == 43) = false := by simp; omega
      have n45 : ((z : Int) == 45) = false := by simp; omega
      go_wp2_with fail
      go_meet
      exact ⟨rfl, (Hh.out.setg false).sett false, ((Below.refl b w).setCell (Nat.le_refl b) _).setCell (Nat.le_refl b) _⟩
  case rest =>
  obtain ⟨rfl, hw0⟩ := hcut
  have Hw0 := hid hw0
  clear hw0 fr c0 c1 cg ct hix hzc
  go_upto_block 1 with fail
  go_cut [5, 6, 7] from 34 to 116 (fun iv dv gv wx => iv = .int .i64 (M.i : Nat) ∧ dv = .bool M.dot ∧ gv = .bool M.dig ∧ M.bad = false ∧ M.i ≤ s.size ∧ Sd0 ⟨M.D, M.nd, M.dp, false⟩ ∧ Dw w b wx M.D M.nd M.dp ng2 false)
  case first =>
    go_wp2_with fail
    go_loopg [5, 6, 7] (s.size - sg) (fun g iv dv gv wr => ∃ i D nd dp dot dig, iv = .int .i64 (i : Nat) ∧ dv = .bool dot ∧ gv = .bool dig ∧ g + i = s.size ∧ nd ≤ i ∧ Hid (setM s g ⟨false, i, D, nd, dp, dot, dig⟩ = M) ∧ Hid (Digs D nd) ∧ Hid (0 < nd → D 0 ≠ 48) ∧ Hid (Dw w b wr D nd dp ng2 false))
    case atStart => exact ⟨sg, fun _ => 0, 0, 0, false, false, rfl, rfl, rfl, by omega, by omega, HM, hid (fun i hi => absurd hi (by omega)), hid (fun hi => absurd hi (by omega)), Hw0⟩
    case round =>
      obtain ⟨i, D, nd, dp, dot, dig, rfl, rfl, rfl, hgi, hni, hm, hdg, htop, hdw⟩ := hrel
      have hdc := hdw.out.dc
      have c0 := hdc.n
      have c1 := hdc.p
      have fr := hdc.fr
      have Hdc := hid hdc
      clear hdc
      rcases gk with _ | g
      · obtain rfl : i = s.size := by omega
        have hm2 := hm.out
        rw [setM] at hm2
        subst hm2
        go_wp2_with fail
        go_meet
        exact ⟨rfl, rfl, rfl, by first | rfl | trivial, Nat.le_refl _, ⟨by show nd ≤ 800; omega, hdg.out, htop.out⟩, hdw.out⟩
      · have hlt : i < s.size := by omega
        have hix : ∀ w, (Instr.index 9 (.string s) (.int .i64 (i : Int))).run Tryz.prog w = .ok (.int .u8 (bt s i : Nat)) w := fun w => run_bt Tryz.underlying9 hlt rfl
        have hm2 := hm.out
        rw [setM] at hm2
        dsimp only at hm2
        have hcc := HC.out i hlt
        obtain ⟨c, hc⟩ : ∃ c, bt s i = c := ⟨_, rfl⟩
        rw [hc] at hix hm2 hcc
        have HCc := hid hc
        clear hc hm
        by_cases h46 : c = 46
        · subst h46
          rw [if_pos rfl] at hm2
          cases dot
          · rw [if_neg (by simp)] at hm2
            have hm := hid hm2
            clear hm2 hcc
            go_wp2_with fail
            go_roundg g
            case measure => omega
            case rel => exact ⟨i + 1, D, nd, (nd : Nat), true, dig, congrArg (Value.int .i64) (by omega), rfl, rfl, by omega, by omega, hm, hdg, htop, hid ⟨Hdc.out.setp rfl, hdw.out.bl.setCell (Nat.le_refl b) _⟩⟩
          · rw [if_pos rfl] at hm2
            subst hm2
            have hR := HR.out
            rw [if_pos (.inl rfl)] at hR
            obtain ⟨rfl, rfl⟩ := Prod.mk.inj hR
            clear hR hcc
            go_wp2_with fail
            go_ret
            exact ⟨rfl, ⟨by show nd ≤ 800; omega, hdg.out, htop.out⟩, hdw.out.bl⟩
        · rw [if_neg h46] at hm2
          by_cases hd : 48 ≤ c ∧ c ≤ 57
          · rw [if_pos hd] at hm2
            have n95 : ((c : Int) == 95) = false := by simp; omega
            have n46 : ((c : Int) == 46) = false := by simp; omega
            have l1 : (48 : Int) ≤ c := by omega
            have l2 : (c : Int) ≤ 57 := by omega
            by_cases hz : c = 48 ∧ nd = 0
            · rw [if_pos hz] at hm2
              obtain ⟨rfl, rfl⟩ := hz
              have hm := hid hm2
              clear hm2 hcc hd h46
              have c0' : wr.cell? ⟨b, 800, none⟩ = some (.int .i64 0) := c0
              clear c0
              go_wp2_with fail
              go_roundg g
              case measure => omega
              case rel => exact ⟨i + 1, D, 0, wrap64 (dp - 1), dot, true, congrArg (Value.int .i64) (by omega), rfl, rfl, by omega, by omega, hm, hdg, htop, hid ⟨Hdc.out.setp rfl, hdw.out.bl.setCell (Nat.le_refl b) _⟩⟩
            · rw [if_neg hz] at hm2
              have hdg2 : Digs (upd D nd c) (nd + 1) := by
                intro j hj
                by_cases e : j = nd
                · subst e; rw [upd_at]; exact hd
                · rw [upd_ne e]; exact hdg.out j (by omega)
              have htop2 : 0 < nd + 1 → upd D nd c 0 ≠ 48 := by
                intro _
                by_cases e : nd = 0
                · subst e; rw [upd_at]; omega
                · rw [upd_ne (by omega)]; exact htop.out (by omega)
              have Hdg2 := hid hdg2
              have Htop2 := hid htop2
              have hm := hid hm2
              have hn8 : (nd : Int) < 800 := by omega
              have hn9 : nd < 800 := by omega
              have c2 := Hdc.out.arr nd hn9
              by_cases h48 : c = 48
              · have hn0 : ((nd : Int) == 0) = false := by simp; omega
                have n48 : ((c : Int) == 48) = true := by simp [h48]
                have H48 := hid h48
                clear hm2 hcc hd h46 hz hdg2 htop2 h48
                go_wp2_with fail
                go_region
                go_wp2_with fail
                go_roundg g
                case measure => omega
                case rel => exact ⟨i + 1, upd D nd c, nd + 1, dp, dot, true, congrArg (Value.int .i64) (by omega), rfl, rfl, by omega, by omega, hm, Hdg2, Htop2, hid ⟨((Hdc.out.keep (dN _ _ _)).setd hn9 rfl).setn (by omega), ((hdw.out.bl.trans (dN _ _ _)).setCell (p := ⟨b, nd, none⟩) (Nat.le_refl b) _).setCell (p := ⟨b, 800, none⟩) (Nat.le_refl b) _⟩⟩
              · have n48 : ((c : Int) == 48) = false := by simp; omega
                clear hm2 hcc hd h46 hz hdg2 htop2 h48
                go_wp2_with fail
                go_region
                go_wp2_with fail
                go_roundg g
                case measure => omega
                case rel => exact ⟨i + 1, upd D nd c, nd + 1, dp, dot, true, congrArg (Value.int .i64) (by omega), rfl, rfl, by omega, by omega, hm, Hdg2, Htop2, hid ⟨((Hdc.out.keep (dN _ _ _)).setd hn9 rfl).setn (by omega), ((hdw.out.bl.trans (dN _ _ _)).setCell (p := ⟨b, nd, none⟩) (Nat.le_refl b) _).setCell (p := ⟨b, 800, none⟩) (Nat.le_refl b) _⟩⟩
          · rw [if_neg hd] at hm2
            subst hm2
            have n95 : ((c : Int) == 95) = false := by simp; omega
            have n46 : ((c : Int) == 46) = false := by simp; omega
            by_cases hl : 48 ≤ c
            · have l1 : (48 : Int) ≤ c := by omega
              have l2 : ¬ (c : Int) ≤ 57 := by omega
              clear hcc hd h46
              go_wp2_with fail
              go_meet
              exact ⟨rfl, rfl, rfl, by first | rfl | trivial, by show i ≤ s.size; omega, ⟨by show nd ≤ 800; omega, hdg.out, htop.out⟩, hdw.out⟩
            · have l1 : ¬ (48 : Int) ≤ c := by omega
              clear hcc hd h46
              go_wp2_with fail
              go_meet
              exact ⟨rfl, rfl, rfl, by first | rfl | trivial, by show i ≤ s.size; omega, ⟨by show nd ≤ 800; omega, hdg.out, htop.out⟩, hdw.out⟩
  case rest =>
  obtain ⟨rfl, rfl, rfl, hbad, hMi, hMs, hw1⟩ := hcut
  obtain ⟨bad, i, D, nd, dp, dot, dig⟩ := M
  dsimp only at hbad hMi hMs hw1 HR ⊢
  subst hbad
  have hr := HR.out
  rw [setP] at hr
  dsimp only at hr
  cases dig
  · rw [if_pos (.inr rfl)] at hr
    obtain ⟨rfl, rfl⟩ := Prod.mk.inj hr
    have HMs := hid hMs
    have Hw2 := hid hw1
    clear hr hMs hw1
    go_wp2_with fail
    go_ret
    first | exact ⟨rfl, HMs.out, Hw2.out.bl⟩ | exact ⟨rfl, HMs.out, Hw2.out.bl, fun hx => by simp at hx⟩
  rw [if_neg (by simp)] at hr
  obtain ⟨q, hq⟩ : ∃ q : Int, (if dot = true then dp else (nd : Nat)) = q := ⟨_, rfl⟩
  rw [hq] at hr
  have HR := hid hr
  have Hq := hid hq
  have c0 := hw1.dc.n
  have c1 := hw1.dc.p
  have fr := hw1.dc.fr
  have Hw1 := hid hw1
  have HMs : Hid (Sd0 ⟨D, nd, q, false⟩) := hid ⟨hMs.le, hMs.dg, hMs.top⟩
  clear hr hq hw1 hMs
  go_upto_if 120 with fail
  go_cut [] from 120 to 127 (fun wx => Dw w b wx D nd q ng2 false)
  case first =>
    cases dot
    · have hq : ((nd : Nat) : Int) = q := Hq.out
      have Hq := hid hq
      clear hq
      go_wp2_with fail
      go_meet
      exact ⟨Hw1.out.dc.setp Hq.out, Hw1.out.bl.setCell (Nat.le_refl b) _⟩
    · have hq : dp = q := Hq.out
      subst hq
      go_wp2_with fail
      go_meet
      exact Hw1.out
  case rest =>
  have Hw2 : Hid (Dw w b wc D nd q ng2 false) := hid hcut
  clear hcut c0 c1 fr
  have hi62 : i ≤ 200 := by omega
  have hr := HR.out
  unfold setE at hr
  dsimp only at hr
  by_cases hE : i < s.size ∧ bt s i = 101
  · rw [if_pos hE] at hr
    obtain ⟨hE1, hE2⟩ := hE
    have hix : ∀ w, (Instr.index 9 (.string s) (.int .i64 (i : Int))).run Tryz.prog w = .ok (.int .u8 (bt s i : Nat)) w := fun w => run_bt Tryz.underlying9 hE1 rfl
    rw [hE2] at hix
    have HE2 := hid hE2
    clear hE2
    by_cases hj1 : s.size ≤ i + 1
    · rw [if_pos hj1] at hr
      obtain ⟨rfl, rfl⟩ := Prod.mk.inj hr
      have hj2 : (s.size : Int) ≤ (i : Int) + 1 := by omega
      clear hr
      go_wp2_with (refine (lower_any (c := 101) (by omega) _).mono ?_; rintro e w' ⟨rfl, rfl⟩)
      go_ret
      first | exact ⟨rfl, HMs.out, Hw2.out.bl⟩ | exact ⟨rfl, HMs.out, Hw2.out.bl, fun hx => by simp at hx⟩
    rw [if_neg hj1] at hr
    have hlt1 : i + 1 < s.size := by omega
    have hj2 : ¬ (s.size : Int) ≤ (i : Int) + 1 := by omega
    have hix1 : ∀ w, (Instr.index 9 (.string s) (.int .i64 ((i : Int) + 1))).run Tryz.prog w = .ok (.int .u8 (bt s (i + 1) : Nat)) w := fun w => run_bt Tryz.underlying9 hlt1 (by omega)
    obtain ⟨c1, hc1⟩ : ∃ c1, bt s (i + 1) = c1 := ⟨_, rfl⟩
    have hcc1 := HC.out (i + 1) hlt1
    rw [hc1] at hix1 hcc1 hr
    have HC1 := hid hc1
    obtain ⟨j, hj⟩ : ∃ j, (if c1 = 45 then i + 2 else i + 1) = j := ⟨_, rfl⟩
    obtain ⟨sn, hsn⟩ : ∃ sn : Int, (if c1 = 45 then -1 else 1) = sn := ⟨_, rfl⟩
    rw [hj, hsn] at hr
    have Hj := hid hj
    have Hsn := hid hsn
    have hjb : i + 1 ≤ j ∧ j ≤ i + 2 := by rw [← hj]; split <;> omega
    have HR := hid hr
    clear hc1 hj hsn hr
    go_upto_block 4 with (refine (lower_any (c := 101) (by omega) _).mono ?_; rintro e w' ⟨rfl, rfl⟩)
    go_cut [5, 8] from 148 to 155 (fun iv sv wx => iv = .int .i64 (j : Nat) ∧ sv = .int .i64 sn ∧ wx = w')
    case first =>
      by_cases h45 : c1 = 45
      · subst h45
        have e1 : i + 2 = j := Hj.out
        have e2 : (-1 : Int) = sn := Hsn.out
        subst e1 e2
        go_wp2_with fail
        go_meet
        exact ⟨congrArg (Value.int .i64) (by omega), rfl, rfl⟩
      · have e1 : i + 1 = j := by have := Hj.out; rwa [if_neg h45] at this
        have e2 : (1 : Int) = sn := by have := Hsn.out; rwa [if_neg h45] at this
        subst e1 e2
        have n43 : ((c1 : Int) == 43) = false := by simp; omega
        have n45 : ((c1 : Int) == 45) = false := by simp; omega
        have H45 := hid h45
        clear h45 hcc1
        go_wp2_with fail
        go_meet
        exact ⟨congrArg (Value.int .i64) (by omega), rfl, rfl⟩
    case rest =>
    obtain ⟨rfl, rfl, rfl⟩ := hcut
    clear hix hix1 hcc1 hj2
    have hr := HR.out
    by_cases hjs : s.size ≤ j
    · rw [if_pos (.inl hjs)] at hr
      obtain ⟨rfl, rfl⟩ := Prod.mk.inj hr
      have hj2 : (s.size : Int) ≤ (j : Int) := by omega
      clear hr
      go_wp2_with fail
      go_ret
      first | exact ⟨rfl, HMs.out, Hw2.out.bl⟩ | exact ⟨rfl, HMs.out, Hw2.out.bl, fun hx => by simp at hx⟩
    have hjl : j < s.size := by omega
    have hj2 : ¬ (s.size : Int) ≤ (j : Int) := by omega
    have hix : ∀ w, (Instr.index 9 (.string s) (.int .i64 (j : Int))).run Tryz.prog w = .ok (.int .u8 (bt s j : Nat)) w := fun w => run_bt Tryz.underlying9 hjl rfl
    obtain ⟨c, hc⟩ : ∃ c, bt s j = c := ⟨_, rfl⟩
    rw [hc] at hix hr
    have HCc := hid hc
    clear hc
    by_cases hdg : 48 ≤ c ∧ c ≤ 57
    · rw [if_neg (by omega)] at hr
      rw [setX] at hr
      obtain ⟨e1, e2⟩ := Prod.mk.inj hr
      obtain ⟨i2, x2, he⟩ : ∃ i2 x2, expE s (s.size - j) j 0 = (i2, x2) := ⟨_, _, rfl⟩
      rw [he] at e1 e2
      dsimp only at e1 e2
      subst e1 e2
      have HE := hid he
      have l1 : (48 : Int) ≤ c := by omega
      have l2 : (c : Int) ≤ 57 := by omega
      have l1' : ¬ (c : Int) < 48 := by omega
      have l2' : ¬ (57 : Int) < c := by omega
      clear hr he hdg
      go_upto_block 5 with fail
      clear l1 l2 l1' l2' hix hj2
      go_cut [5, 9] from 172 to 209 (fun iv ev wx => iv = .int .i64 (i2 : Nat) ∧ ev = .int .i64 (x2 : Nat) ∧ x2 ≤ 100009 ∧ i2 ≤ s.size ∧ wx = wc)
      case first =>
        go_wp2_with fail
        go_loopg [5, 9] (s.size - j) (fun g iv ev wr => ∃ i e : Nat, iv = .int .i64 (i : Nat) ∧ ev = .int .i64 (e : Nat) ∧ g + i = s.size ∧ e ≤ 100009 ∧ Hid (expE s g i e = (i2, x2)) ∧ wr = wc)
        case atStart => exact ⟨j, 0, rfl, rfl, by omega, by omega, HE, rfl⟩
        case round =>
          obtain ⟨i, e, rfl, rfl, hgi, he, hx, rfl⟩ := hrel
          rcases gk with _ | g
          · obtain rfl : i = s.size := by omega
            have hx2 := hx.out
            rw [expE] at hx2
            obtain ⟨rfl, rfl⟩ := Prod.mk.inj hx2
            clear hx2
            go_wp2_with fail
            go_meet
            exact ⟨rfl, rfl, he, Nat.le_refl _, rfl⟩
          · have hlt : i < s.size := by omega
            have hix : ∀ w, (Instr.index 9 (.string s) (.int .i64 (i : Int))).run Tryz.prog w = .ok (.int .u8 (bt s i : Nat)) w := fun w => run_bt Tryz.underlying9 hlt rfl
            have hx2 := hx.out
            rw [expE] at hx2
            have hcc := HC.out i hlt
            obtain ⟨c, hc⟩ : ∃ c, bt s i = c := ⟨_, rfl⟩
            rw [hc] at hix hx2 hcc
            have HCc := hid hc
            clear hc hx
            by_cases hd : 48 ≤ c ∧ c ≤ 57
            · rw [if_pos hd] at hx2
              have l1 : (48 : Int) ≤ c := by omega
              have l2 : (c : Int) ≤ 57 := by omega
              have n95 : ((c : Int) == 95) = false := by simp; omega
              by_cases h4 : e < 10000
              · rw [if_pos h4] at hx2
                have hx := hid hx2
                have h4i : (e : Int) < 10000 := by omega
                clear hx2 hcc
                go_wp2_with fail
                go_roundg g
                case measure => omega
                case rel => exact ⟨i + 1, e * 10 + (c - 48), congrArg (Value.int .i64) (by omega), congrArg (Value.int .i64) (by omega), by omega, by omega, hx, rfl⟩
              · rw [if_neg h4] at hx2
                have hx := hid hx2
                have h4i : ¬ (e : Int) < 10000 := by omega
                clear hx2 hcc
                go_wp2_with fail
                go_roundg g
                case measure => omega
                case rel => exact ⟨i + 1, e, congrArg (Value.int .i64) (by omega), rfl, by omega, he, hx, rfl⟩
            · rw [if_neg hd] at hx2
              obtain ⟨rfl, rfl⟩ := Prod.mk.inj hx2
              clear hx2
              have n95 : ((c : Int) == 95) = false := by simp; omega
              by_cases hl : 48 ≤ c
              · have l1 : (48 : Int) ≤ c := by omega
                have l2 : ¬ (c : Int) ≤ 57 := by omega
                clear hcc hd
                go_wp2_with fail
                go_meet
                exact ⟨rfl, rfl, he, by omega, rfl⟩
              · have l1 : ¬ (48 : Int) ≤ c := by omega
                clear hcc hd
                go_wp2_with fail
                go_meet
                exact ⟨rfl, rfl, he, by omega, rfl⟩
      case rest =>
      obtain ⟨rfl, rfl, hx100, hi2, rfl⟩ := hcut
      have c1 := Hw2.out.dc.p
      have fr := Hw2.out.dc.fr
      by_cases hi : i2 = s.size
      · have hne : ((i2 : Int) != (s.size : Int)) = false := by simp; omega
        have HI := hid hi
        clear hi
        go_wp2_with fail
        go_ret
        exact ⟨congrArg (fun x => Ending.returned (Value.bool x)) (decide_eq_true HI.out).symm, HMs.out.dpx _, Hw2.out.bl.setCell (p := ⟨b, 801, none⟩) (Nat.le_refl b) _, fun _ => ⟨Hw2.out.dc.setp rfl, Hw2.out.bl.setCell (p := ⟨b, 801, none⟩) (Nat.le_refl b) _⟩⟩
      · have hne : ((i2 : Int) != (s.size : Int)) = true := by simp; omega
        have HI := hid hi
        clear hi
        go_wp2_with fail
        go_ret
        exact ⟨congrArg (fun x => Ending.returned (Value.bool x)) (decide_eq_false HI.out).symm, HMs.out.dpx _, Hw2.out.bl.setCell (p := ⟨b, 801, none⟩) (Nat.le_refl b) _, fun _ => ⟨Hw2.out.dc.setp rfl, Hw2.out.bl.setCell (p := ⟨b, 801, none⟩) (Nat.le_refl b) _⟩⟩
    · rw [if_pos (.inr hdg)] at hr
      obtain ⟨rfl, rfl⟩ := Prod.mk.inj hr
      clear hr
      by_cases hl : 48 ≤ c
      · have l1 : ¬ (c : Int) < 48 := by omega
        have l2 : (57 : Int) < (c : Int) := by omega
        clear hdg
        go_wp2_with fail
        go_ret
        first | exact ⟨rfl, HMs.out, Hw2.out.bl⟩ | exact ⟨rfl, HMs.out, Hw2.out.bl, fun hx => by simp at hx⟩
      · have l1 : (c : Int) < 48 := by omega
        clear hdg
        go_wp2_with fail
        go_ret
        first | exact ⟨rfl, HMs.out, Hw2.out.bl⟩ | exact ⟨rfl, HMs.out, Hw2.out.bl, fun hx => by simp at hx⟩
  · rw [if_neg hE] at hr
    obtain ⟨rfl, rfl⟩ := Prod.mk.inj hr
    by_cases hlt : i < s.size
    · have hcc := HC.out i hlt
      have hix : ∀ w, (Instr.index 9 (.string s) (.int .i64 (i : Int))).run Tryz.prog w = .ok (.int .u8 (bt s i : Nat)) w := fun w => run_bt Tryz.underlying9 hlt rfl
      obtain ⟨c, hc⟩ : ∃ c, bt s i = c := ⟨_, rfl⟩
      rw [hc] at hix hcc hE
      have n101 : ((c : Int) == 101) = false := by simp; omega
      have HCc := hid hc
      have Hcc := hid hcc
      have HE := hid hE
      have hne : ((i : Int) != (s.size : Int)) = true := by simp; omega
      clear hcc hc hE hr
      go_wp2_with (refine (lower_any Hcc.out _).mono ?_; rintro e w' ⟨rfl, rfl⟩)
      go_ret
      exact ⟨congrArg (fun x => Ending.returned (Value.bool x)) (decide_eq_false (by omega)).symm, HMs.out, Hw2.out.bl, fun _ => Hw2.out⟩
    · have HE := hid hE
      have hi : i = s.size := by omega
      have hne : ((i : Int) != (s.size : Int)) = false := by simp; omega
      have HI := hid hi
      clear hE hi hr
      go_wp2_with fail
      go_ret
      exact ⟨congrArg (fun x => Ending.returned (Value.bool x)) (decide_eq_true HI.out).symm, HMs.out, Hw2.out.bl, fun _ => Hw2.out⟩
end Go.Proofs.YtajpeeccomgnnaaGreatDoor
