/-
  The library's decimal: a float's bits, walked.
-/
import Derived.Test.YtajpeeccomgnnaaGreatDoorPdU
import Derived.BigQuiet
import Derived.WalkMore
import Derived.ScopeJumps
import Derived.Outline
namespace Go.Proofs.YtajpeeccomgnnaaGreatDoor
set_option linter.all false
open Go Go.RowKit

/-- As Q; by a goto to label l: X. -/
def Exit.to (l : Nat) (X : Act → World → Prop) (Q : Exit → Act → World → Prop) : Exit → Act → World → Prop
  | .goto l', a, w => (l' = l ∧ X a w) ∨ (l' ≠ l ∧ Q (.goto l') a w)
  | e, a, w => Q e a w
section
variable {Q : Exit → Act → World → Prop} {a : Act} {w : World} {l : Nat} {X : Act → World → Prop}
@[go_sem] theorem Exit.to_normal : Exit.to l X Q .normal a w = Q .normal a w := rfl
@[go_sem] theorem Exit.to_exit (id : Nat) : Exit.to l X Q (.exit id) a w = Q (.exit id) a w := rfl
@[go_sem] theorem Exit.to_ret : Exit.to l X Q .ret a w = Q .ret a w := rfl
@[go_sem] theorem Exit.to_panic (ch : List PanicEntry) : Exit.to l X Q (.panic ch) a w = Q (.panic ch) a w := rfl
theorem Exit.to_same (h : X a w) : Exit.to l X Q (.goto l) a w := .inl ⟨rfl, h⟩
theorem Exit.to_else {l' : Nat} (hl : l' ≠ l) (h : Q (.goto l') a w) : Exit.to l X Q (.goto l') a w := .inr ⟨hl, h⟩
end
theorem wp_scope_once {P : Program} {a : Act} {w : World} {Q : Exit → Act → World → Prop} {c r1 r2 : Code} (l1 l2 : Nat) (hl : l1 ≠ l2) (h1 : findLabel c l1 = some r1) (h2 : findLabel c l2 = some r2)
    (first : c.wp P (Exit.to l1 (fun a w => r1.wp P (Exit.to l2 (fun a w => r2.wp P (Exit.noGoto Q) a w) (Exit.noGoto Q)) a w) (Exit.to l2 (fun a w => r2.wp P (Exit.noGoto Q) a w) (Exit.noGoto Q))) a w) : (Code.scope c).wp P Q a w := by
  intro b k cs
  have g1 : gotoIn l1 (.inScope c :: k) = some (.code r1 :: .inScope c :: k) := by simp [gotoIn, h1]
  have g2 : gotoIn l2 (.inScope c :: k) = some (.code r2 :: .inScope c :: k) := by simp [gotoIn, h2]
  have k2 : ∀ a w, r2.wp P (Exit.noGoto Q) a w → ∃ e a' w', Q e a' w' ∧ Arrives P (lone (b.at a (.code r2 :: .inScope c :: k)) cs w) b k cs e a' w' := by
    intro a w h
    obtain ⟨e, a₁, w₁, hq, harr⟩ := h b (.inScope c :: k) cs
    cases e with
    | normal => exact ⟨.normal, a₁, w₁, hq, Steps.trans harr (.one step_inScope)⟩
    | exit id => exact ⟨.exit id, a₁, w₁, hq, fun k' hk => harr k' (by simp [exitTo, hk])⟩
    | goto l' => exact hq.elim
    | ret => exact ⟨_, a₁, w₁, hq, harr⟩
    | panic ch => exact ⟨_, a₁, w₁, hq, harr⟩
    | outgrown => exact ⟨_, a₁, w₁, hq, harr⟩
  have k1 : ∀ a w, r1.wp P (Exit.to l2 (fun a w => r2.wp P (Exit.noGoto Q) a w) (Exit.noGoto Q)) a w → ∃ e a' w', Q e a' w' ∧ Arrives P (lone (b.at a (.code r1 :: .inScope c :: k)) cs w) b k cs e a' w' := by
    intro a w h
    obtain ⟨e, a₁, w₁, hq, harr⟩ := h b (.inScope c :: k) cs
    cases e with
    | normal => exact ⟨.normal, a₁, w₁, hq, Steps.trans harr (.one step_inScope)⟩
    | exit id => exact ⟨.exit id, a₁, w₁, hq, fun k' hk => harr k' (by simp [exitTo, hk])⟩
    | goto l' =>
      rcases hq with ⟨rfl, hX⟩ | ⟨_, hq⟩
      · obtain ⟨e₂, a₂, w₂, hq₂, harr₂⟩ := k2 _ _ hX
        exact ⟨e₂, a₂, w₂, hq₂, .of_steps (harr _ g2) harr₂⟩
      · exact hq.elim
    | ret => exact ⟨_, a₁, w₁, hq, harr⟩
    | panic ch => exact ⟨_, a₁, w₁, hq, harr⟩
    | outgrown => exact ⟨_, a₁, w₁, hq, harr⟩
  obtain ⟨e, a₁, w₁, hq, harr⟩ := first b (.inScope c :: k) cs
  cases e with
  | normal => exact ⟨.normal, a₁, w₁, hq, .head step_scope (Steps.trans harr (.one step_inScope))⟩
  | exit id => exact ⟨.exit id, a₁, w₁, hq, fun k' hk => .head step_scope (harr k' (by simp [exitTo, hk]))⟩
  | goto l' =>
    rcases hq with ⟨rfl, hX⟩ | ⟨_, ⟨rfl, hX⟩ | ⟨_, hq⟩⟩
    · obtain ⟨e₂, a₂, w₂, hq₂, harr₂⟩ := k1 _ _ hX
      exact ⟨e₂, a₂, w₂, hq₂, .of_steps (.head step_scope (harr _ g1)) harr₂⟩
    · obtain ⟨e₂, a₂, w₂, hq₂, harr₂⟩ := k2 _ _ hX
      exact ⟨e₂, a₂, w₂, hq₂, .of_steps (.head step_scope (harr _ g2)) harr₂⟩
    · exact hq.elim
  | ret => exact ⟨_, a₁, w₁, hq, .of_steps (.one step_scope) harr⟩
  | panic ch => exact ⟨_, a₁, w₁, hq, .of_steps (.one step_scope) harr⟩
  | outgrown => exact ⟨_, a₁, w₁, hq, .of_steps (.one step_scope) harr⟩

def powt (i : Nat) : Nat := ([1, 3, 6, 9, 13, 16, 19, 23, 26] : List Nat).getD i 27
theorem powt_le (i : Nat) : 1 ≤ powt i ∧ powt i ≤ 27 ∧ (0 < i → 3 ≤ powt i) := by
  rcases Nat.lt_or_ge i 9 with h | h
  · rcases i with _ | _ | _ | _ | _ | _ | _ | _ | _ | i <;> first | decide | omega
  · have : powt i = 27 := by unfold powt; rw [List.getD_eq_getElem?_getD, List.getElem?_eq_none (by simpa using h)]; rfl
    omega
/-- The tables that a float's bits are read from. -/
structure Tf (cd : Nat → Nat) (cs : Nat → ByteArray) (x off y off2 b : Nat) (w : World) : Prop where
  tb : Tb cd cs x off b w
  ly : y < b
  f0 : w.cell? ⟨8, 0, none⟩ = some (.int .u64 52)
  f1 : w.cell? ⟨8, 1, none⟩ = some (.int .u64 11)
  f2 : w.cell? ⟨8, 2, none⟩ = some (.int .i64 (-1023))
  p0 : w.cell? ⟨10, 0, none⟩ = some (.slice (some ⟨y, off2, none⟩) 9 9)
  pp : ∀ i, i < 9 → w.cell? ⟨y, off2 + i, none⟩ = some (.int .i64 (powt i : Nat))
theorem Tf.keep {cd : Nat → Nat} {cs : Nat → ByteArray} {x off y off2 b : Nat} {w w' : World} (h : Tf cd cs x off y off2 b w) (k : Below b w w') : Tf cd cs x off y off2 b w' := by
  obtain ⟨h1, h2, h3, h4, h5, h6, h7⟩ := h
  have hlo := h1.lo
  refine ⟨h1.keep k, h2, ?_, ?_, ?_, ?_, fun i hi => ?_⟩
  · rw [k.cell (by simp; omega)]; exact h3
  · rw [k.cell (by simp; omega)]; exact h4
  · rw [k.cell (by simp; omega)]; exact h5
  · rw [k.cell (by simp; omega)]; exact h6
  · rw [k.cell (by simpa using h2)]; exact h7 i hi
noncomputable def rint (S : Sd) : Int := open Classical in if h : SdOk S then Classical.choose (int_ex S h) else 0
theorem rint_any {S : Sd} (ho : SdOk S) {w : World} {b : Nat} {ng : Bool} (h : DcS w b S ng) :
    Calls Tryz.prog 152 #[.pointer (some ⟨b, 0, none⟩)] w fun e w' => e = .returned (.int .u64 (rint S)) ∧ ∃ q, w' = w.drewN q := by
  unfold rint
  rw [dif_pos ho]
  exact Classical.choose_spec (int_ex S ho) w b ng h
theorem Dw.dn {w w' : World} {b nd : Nat} {D : Nat → Nat} {dp : Int} {ng tr : Bool} (h : Dw w b w' D nd dp ng tr) (q : Nat) : Dw w b (w'.drewN q) D nd dp ng tr := ⟨h.dc.keep (dN _ _ _), h.bl.trans (dN _ _ _)⟩
theorem w64r (n : Int) : -9223372036854775808 ≤ wrap64 n ∧ wrap64 n ≤ 9223372036854775807 := by unfold wrap64; omega
/-- The first loop's measure, and the second's. -/
def m1 (S : Sd) : Nat := if 0 < S.dp then (2 * S.dp + (if 56 ≤ S.D 0 then 1 else 0)).toNat else 0
def c2 (S : Sd) : Prop := S.dp < 0 ∨ (S.dp = 0 ∧ S.D 0 < 53)
instance (S : Sd) : Decidable (c2 S) := by unfold c2; infer_instance
def m2 (S : Sd) : Nat := if c2 S then (20 * (-S.dp) + (58 - (S.D 0 : Int))).toNat + 1 else 0
noncomputable def fb1 (cd : Nat → Nat) (cs : Nat → ByteArray) : Nat → Sd → Int → Sd × Int
  | 0, S, e => (S, e)
  | f + 1, S, e => if 0 < S.dp then fb1 cd cs f (shS cd cs (-(powt S.dp.toNat : Int)) S) (wrap64 (e + (powt S.dp.toNat : Nat))) else (S, e)
noncomputable def fb2 (cd : Nat → Nat) (cs : Nat → ByteArray) : Nat → Sd → Int → Sd × Int
  | 0, S, e => (S, e)
  | f + 1, S, e => if c2 S then fb2 cd cs f (shS cd cs (powt (-S.dp).toNat : Nat) S) (wrap64 (e - (powt (-S.dp).toNat : Nat))) else (S, e)
theorem down1 {cd : Nat → Nat} {cs : Nat → ByteArray} {S : Sd} (ho : SdOk S) (h0 : 0 < S.dp) (h1 : S.dp ≤ 310) :
    m1 (shS cd cs (-(powt S.dp.toNat : Int)) S) < m1 S ∧ (shS cd cs (-(powt S.dp.toNat : Int)) S).dp ≤ 310 ∧ -330 ≤ (shS cd cs (-(powt S.dp.toNat : Int)) S).dp := by
  have hp := powt_le S.dp.toNat
  have hp3 := hp.2.2 (by omega)
  generalize powt S.dp.toNat = n at *
  have e1 : shS cd cs (-(n : Int)) S = shr n S := by
    unfold shS
    rw [if_neg (by omega), if_pos (by omega), show (-(-(n : Int))).toNat = n by omega, shR, if_neg (by omega)]
  rw [e1]
  obtain ⟨a1, a2, a3⟩ := shr_dp (k := n) hp3 (by omega) ho h0 (by omega)
  refine ⟨?_, by omega, by omega⟩
  unfold m1
  rw [if_pos h0]
  split
  · omega
  · split <;> omega
theorem down2 {cd : Nat → Nat} {cs : Nat → ByteArray} {S : Sd} (hc : Cheats cd cs) (ho : SdOk S) (h0 : c2 S) (h1 : -330 ≤ S.dp) :
    m2 (shS cd cs (powt (-S.dp).toNat : Nat) S) < m2 S ∧ -330 ≤ (shS cd cs (powt (-S.dp).toNat : Nat) S).dp := by
  have hp := powt_le (-S.dp).toNat
  generalize powt (-S.dp).toNat = n at *
  have e1 : shS cd cs (n : Int) S = shl cd cs n S := by
    unfold shS
    rw [if_pos (by omega), show ((n : Int)).toNat = n by omega, shL, if_neg (by omega)]
  rw [e1]
  have hd : S.dp ≤ 0 := by unfold c2 at h0; omega
  obtain ⟨dl, d1, d2, d3⟩ := shl_dp (k := n) hc hp.1 (by omega) ho
  rw [IntWalk.i64_in _ (by omega)] at d2
  have o2 := shl_ok (k := n) hc hp.1 (by omega) ho
  have g1 := ho.dg 0 ho.pos
  have g2 := o2.dg 0 o2.pos
  generalize shl cd cs n S = S' at *
  refine ⟨?_, by omega⟩
  unfold m2
  rw [if_pos h0]
  split
  · rename_i hc'
    have hd' : S'.dp ≤ 0 := by unfold c2 at hc'; omega
    rcases dl with _ | dl
    · have := d3 rfl
      omega
    · omega
  · omega
/-- The bits put together. -/
def outB (m E : Int) (ng : Bool) : Int :=
  if ng then bits BinOp.or IntKind.u64 (bits BinOp.or IntKind.u64 (bits BinOp.and IntKind.u64 m 4503599627370495) (IntKind.u64.wrap (IntKind.u64.wrap (bits BinOp.and IntKind.i64 E 2047) * 4503599627370496))) 9223372036854775808
  else bits BinOp.or IntKind.u64 (bits BinOp.and IntKind.u64 m 4503599627370495) (IntKind.u64.wrap (IntKind.u64.wrap (bits BinOp.and IntKind.i64 E 2047) * 4503599627370496))
def fbT (m e : Int) (ng : Bool) : Int × Bool := if bits BinOp.and IntKind.u64 m 4503599627370496 = 0 then (outB m 0 ng, false) else (outB m (wrap64 (e + 1023)) ng, false)
noncomputable def fbE (cd : Nat → Nat) (cs : Nat → ByteArray) (S : Sd) (e : Int) (ng : Bool) : Int × Bool :=
  if 2047 ≤ wrap64 (e + 1023) then (outB 0 2047 ng, true) else
  if rint (shS cd cs 53 S) = 9007199254740992 then (if 2047 ≤ wrap64 (wrap64 (e + 1) + 1023) then (outB 0 2047 ng, true) else fbT 4503599627370496 (wrap64 (e + 1)) ng) else fbT (rint (shS cd cs 53 S)) e ng
noncomputable def fbD (cd : Nat → Nat) (cs : Nat → ByteArray) (S : Sd) (e : Int) (ng : Bool) : Int × Bool :=
  if e < -1022 then fbE cd cs (shS cd cs (wrap64 (-(wrap64 (-1022 - e)))) S) (wrap64 (e + wrap64 (-1022 - e))) ng else fbE cd cs S e ng
noncomputable def fbits (cd : Nat → Nat) (cs : Nat → ByteArray) (S : Sd) (ng : Bool) : Int × Bool :=
  if 310 < S.dp then (outB 0 2047 ng, true) else if S.dp < -330 then (outB 0 0 ng, false) else
  fbD cd cs (fb2 cd cs (m2 (fb1 cd cs (m1 S) S 0).1) (fb1 cd cs (m1 S) S 0).1 (fb1 cd cs (m1 S) S 0).2).1 (wrap64 ((fb2 cd cs (m2 (fb1 cd cs (m1 S) S 0).1) (fb1 cd cs (m1 S) S 0).1 (fb1 cd cs (m1 S) S 0).2).2 - 1)) ng
set_option maxRecDepth 100000 in
set_option maxHeartbeats 8000000 in
theorem fb_any (cd : Nat → Nat) (cs : Nat → ByteArray) (x off y off2 b : Nat) (S : Sd) (ng : Bool) (w : World) (hc : Cheats cd cs) (ht : Tf cd cs x off y off2 b w) (ho : SdOk S) (h : DcS w b S ng) :
    Calls Tryz.prog 128 #[.pointer (some ⟨b, 0, none⟩), .pointer (some ⟨8, 0, none⟩)] w fun e w' => e = .returned (.tuple #[.int .u64 (fbits cd cs S ng).1, .bool (fbits cd cs S ng).2]) ∧ Below b w w' := by
  obtain ⟨R, hR⟩ : ∃ R, fbits cd cs S ng = R := ⟨_, rfl⟩
  rw [hR]
  obtain ⟨R1, R2⟩ := R
  have c0 := h.n
  have c1 := h.p
  have cg := h.g
  have f0 := ht.f0
  have f1 := ht.f1
  have f2 := ht.f2
  have hn0 : ((S.nd : Int) == 0) = false := by have := ho.pos; simp; omega
  have Hh := hid h
  have Ho := hid ho
  have Ht := hid ht
  have Hc := hid hc
  unfold fbits at hR
  clear h ho ht hc
  by_cases h310 : 310 < S.dp
  · rw [if_pos h310] at hR
    have HR := hid hR
    clear hR
    go_enter Tryz.func128, Tryz.ntmps128
    go_wp2_with fail
    apply wp_scope_once 1 0 (by decide) rfl rfl
    go_wp2_with fail
    go_step3
    go_wp2_with fail
    refine Exit.to_same ?_
    go_wp2_with fail
    go_quiet (fail)
    go_wp2_with fail
    go_step3
    go_wp2_with fail
    go_quiet (fail)
    cases ng
    · go_wp2_with fail
      (try rw [Exit.to_ret]); (try rw [Exit.noGoto_ret])
      go_ret2
      have h1 := HR.out
      unfold outB at h1
      rw [if_neg (by simp)] at h1
      obtain ⟨rfl, rfl⟩ := Prod.mk.inj h1
      first | exact ⟨rfl, below_drewN (Below.refl _ _) _⟩ | exact ⟨rfl, below_drewN (below_drewN (Below.refl _ _) _) _⟩ | exact ⟨rfl, below_drewN (below_drewN (below_drewN (Below.refl _ _) _) _) _⟩
    · go_wp2_with fail
      go_quiet (fail)
      go_wp2_with fail
      (try rw [Exit.to_ret]); (try rw [Exit.noGoto_ret])
      go_ret2
      have h1 := HR.out
      unfold outB at h1
      rw [if_pos rfl] at h1
      obtain ⟨rfl, rfl⟩ := Prod.mk.inj h1
      first | exact ⟨rfl, below_drewN (Below.refl _ _) _⟩ | exact ⟨rfl, below_drewN (below_drewN (Below.refl _ _) _) _⟩ | exact ⟨rfl, below_drewN (below_drewN (below_drewN (Below.refl _ _) _) _) _⟩
  rw [if_neg h310] at hR
  by_cases h330 : S.dp < -330
  · rw [if_pos h330] at hR
    have HR := hid hR
    clear hR
    go_enter Tryz.func128, Tryz.ntmps128
    go_wp2_with fail
    apply wp_scope_once 1 0 (by decide) rfl rfl
    go_wp2_with fail
    go_step3
    go_wp2_with fail
    refine Exit.to_else (by decide) (Exit.to_same ?_)
    go_wp2_with fail
    go_quiet (fail)
    cases ng
    · go_wp2_with fail
      (try rw [Exit.to_ret]); (try rw [Exit.noGoto_ret])
      go_ret2
      have h1 := HR.out
      unfold outB at h1
      rw [if_neg (by simp)] at h1
      obtain ⟨rfl, rfl⟩ := Prod.mk.inj h1
      first | exact ⟨rfl, below_drewN (Below.refl _ _) _⟩ | exact ⟨rfl, below_drewN (below_drewN (Below.refl _ _) _) _⟩ | exact ⟨rfl, below_drewN (below_drewN (below_drewN (Below.refl _ _) _) _) _⟩
    · go_wp2_with fail
      go_quiet (fail)
      go_wp2_with fail
      (try rw [Exit.to_ret]); (try rw [Exit.noGoto_ret])
      go_ret2
      have h1 := HR.out
      unfold outB at h1
      rw [if_pos rfl] at h1
      obtain ⟨rfl, rfl⟩ := Prod.mk.inj h1
      first | exact ⟨rfl, below_drewN (Below.refl _ _) _⟩ | exact ⟨rfl, below_drewN (below_drewN (Below.refl _ _) _) _⟩ | exact ⟨rfl, below_drewN (below_drewN (below_drewN (Below.refl _ _) _) _) _⟩
  rw [if_neg h330] at hR
  obtain ⟨S1, x1, hS1⟩ : ∃ S1 e1, fb1 cd cs (m1 S) S 0 = (S1, e1) := ⟨_, _, rfl⟩
  rw [hS1] at hR
  dsimp only at hR
  obtain ⟨S2, x2, hS2⟩ : ∃ S2 e2, fb2 cd cs (m2 S1) S1 x1 = (S2, e2) := ⟨_, _, rfl⟩
  rw [hS2] at hR
  dsimp only at hR
  have HS2 := hid hS2
  have HS1 := hid hS1
  have HR := hid hR
  clear hS1 hS2 hR
  have h310' : S.dp ≤ 310 := by omega
  have h330' : -330 ≤ S.dp := by omega
  go_enter Tryz.func128, Tryz.ntmps128
  go_wp2_with fail
  apply wp_scope_once 1 0 (by decide) rfl rfl
  go_upto_block 0 with fail
  go_cut [6] from 35 to 60 (fun ev wx => ev = .int .i64 x1 ∧ SdOk S1 ∧ -330 ≤ S1.dp ∧ DwS w b wx S1 ng)
  case first =>
    clear c0 c1 cg f0 f1 f2 hn0
    go_wp2_with fail
    go_loopg [6] (m1 S) (fun g ev wr => ∃ S' e, ev = .int .i64 e ∧ m1 S' ≤ g ∧ SdOk S' ∧ S'.dp ≤ 310 ∧ -330 ≤ S'.dp ∧ Hid (fb1 cd cs g S' e = (S1, x1)) ∧ DwS w b wr S' ng)
    case atStart => exact ⟨S, 0, rfl, Nat.le_refl _, Ho.out, h310', h330', HS1, Hh.out, Below.refl _ _⟩
    case round =>
      obtain ⟨S', e, rfl, hm, ho, h3, h4, hf, hw⟩ := hrel
      have c1 := hw.dc.p
      have Hw := hid hw
      have Ho' := hid ho
      have ht := Ht.out.keep hw.bl
      clear hw ho
      by_cases h0 : 0 < S'.dp
      · rcases gk with _ | g
        · exfalso
          unfold m1 at hm
          rw [if_pos h0] at hm
          split at hm <;> omega
        · have hd := down1 (cd := cd) (cs := cs) Ho'.out h0 h3
          have hok := shS_ok (k := (-(powt S'.dp.toNat : Int))) Hc.out Ho'.out
          have hf2 := hf.out
          rw [fb1, if_pos h0] at hf2
          have hf := hid hf2
          clear hf2
          obtain ⟨d, hdd⟩ : ∃ d : Nat, S'.dp = (d : Int) := ⟨S'.dp.toNat, by omega⟩
          have hdn : S'.dp.toNat = d := by omega
          rw [hdn] at hf hd hok
          rw [hdd] at c1
          have hp := powt_le d
          have p0 := ht.p0
          have Hd := hid hd
          have Hok := hid hok
          have Ht' := hid ht
          have Hdd := hid hdd
          have hd310 : d ≤ 310 := by omega
          have hd0 : 0 < d := by omega
          clear hd hok ht hdd hdn
          by_cases h9 : 9 ≤ d
          · have h9i : (9 : Int) ≤ (d : Int) := by omega
            have hpw : powt d = 27 := by unfold powt; rw [List.getD_eq_getElem?_getD, List.getElem?_eq_none (by simpa using h9)]; rfl
            rw [hpw] at hf Hd Hok
            have Hpw := hid hpw
            clear hpw hp
            go_wp2_with fail
            go_quiet (fail)
            go_wp2_with fail
            refine (shift_S (-27) (by omega) Hc.out (Ht'.out.tb.keep (dN _ _ _)) Ho'.out (Hw.out.dc.keep (dN _ _ _))).mono ?_
            rintro er w' ⟨rfl, hw2⟩
            have Hw2 := hid hw2
            clear hw2
            go_wp2_with fail
            go_roundg g
            case measure => omega
            case rel => exact ⟨_, _, rfl, by have := Hd.out; omega, Hok.out, Hd.out.2.1, Hd.out.2.2, hf, Dw.trans (Hw.out.dn _) Hw2.out⟩
          · have h9i : ¬ (9 : Int) ≤ (d : Int) := by omega
            have h9j : (d : Int) < 9 := by omega
            have h00 : (0 : Int) ≤ (d : Int) := by omega
            have pp := Ht'.out.pp d (by omega)
            go_wp2_with fail
            go_quiet (fail)
            go_wp2_with fail
            go_quiet (fail)
            go_wp2_with fail
            refine (shift_S (-(powt d : Int)) (by omega) Hc.out (Ht'.out.tb.keep (dN _ _ _)) Ho'.out (Hw.out.dc.keep (dN _ _ _))).mono ?_
            rintro er w' ⟨rfl, hw2⟩
            have Hw2 := hid hw2
            clear hw2
            go_wp2_with fail
            go_roundg g
            case measure => omega
            case rel => exact ⟨_, _, rfl, by have := Hd.out; omega, Hok.out, Hd.out.2.1, Hd.out.2.2, hf, Dw.trans (Hw.out.dn _) Hw2.out⟩
      · have hf2 := hf.out
        have hf3 : (S', e) = (S1, x1) := by
          rcases gk with _ | g
          · rw [fb1] at hf2; exact hf2
          · rw [fb1, if_neg h0] at hf2; exact hf2
        obtain ⟨rfl, rfl⟩ := Prod.mk.inj hf3
        clear hf2 hf3 hf
        go_wp2_with fail
        go_meet
        exact ⟨rfl, Ho'.out, h4, Hw.out⟩
  case rest =>
  obtain ⟨rfl, ho1, hs330, hw1⟩ := hcut
  have Ho1 := hid ho1
  have Hw1 := hid hw1
  clear ho1 hw1 c0 c1 cg f0 f1 f2 hn0
  go_upto_block 2 with fail
  go_cut [6] from 61 to 102 (fun ev wx => ev = .int .i64 x2 ∧ SdOk S2 ∧ DwS w b wx S2 ng)
  case first =>
    go_wp2_with fail
    go_loopg [6] (m2 S1) (fun g ev wr => ∃ S' e, ev = .int .i64 e ∧ m2 S' ≤ g ∧ SdOk S' ∧ -330 ≤ S'.dp ∧ Hid (fb2 cd cs g S' e = (S2, x2)) ∧ DwS w b wr S' ng)
    case atStart => exact ⟨S1, x1, rfl, Nat.le_refl _, Ho1.out, hs330, HS2, Hw1.out⟩
    case round =>
      obtain ⟨S', e, rfl, hm, ho, h4, hf, hw⟩ := hrel
      have c1 := hw.dc.p
      have cd0 := hw.dc.arr 0 (by omega)
      have Hw := hid hw
      have Ho' := hid ho
      have ht := Ht.out.keep hw.bl
      clear hw ho
      by_cases h0 : c2 S'
      · rcases gk with _ | g
        · exfalso
          unfold m2 at hm
          rw [if_pos h0] at hm
          omega
        · have hd := down2 (cd := cd) (cs := cs) Hc.out Ho'.out h0 h4
          have hok := shS_ok (k := (powt (-S'.dp).toNat : Int)) Hc.out Ho'.out
          have hf2 := hf.out
          rw [fb2, if_pos h0] at hf2
          have hf := hid hf2
          clear hf2
          have hle : S'.dp ≤ 0 := by unfold c2 at h0; omega
          obtain ⟨d, hdd⟩ : ∃ d : Nat, S'.dp = -(d : Int) := ⟨(-S'.dp).toNat, by omega⟩
          have hdn : (-S'.dp).toNat = d := by omega
          have h53 : d = 0 → (S'.D 0 : Int) < 53 := by unfold c2 at h0; omega
          rw [hdn] at hf hd hok
          rw [hdd] at c1
          have hp := powt_le d
          have p0 := ht.p0
          have Hd := hid hd
          have Hok := hid hok
          have Ht' := hid ht
          have Hdd := hid hdd
          have hd330 : d ≤ 330 := by omega
          have H0 := hid h0
          clear hd hok ht hdd hdn h0 hle
          by_cases h9 : 9 ≤ d
          · have h9i : (9 : Int) ≤ (d : Int) := by omega
            have hneg : -(d : Int) < 0 := by omega
            have hpw : powt d = 27 := by unfold powt; rw [List.getD_eq_getElem?_getD, List.getElem?_eq_none (by simpa using h9)]; rfl
            rw [hpw] at hf Hd Hok
            have Hpw := hid hpw
            clear hpw hp h53
            go_wp2_with fail
            go_quiet (fail)
            go_wp2_with fail
            refine (shift_S (27) (by omega) Hc.out (Ht'.out.tb.keep (dN _ _ _)) Ho'.out (Hw.out.dc.keep (dN _ _ _))).mono ?_
            rintro er w' ⟨rfl, hw2⟩
            have Hw2 := hid hw2
            clear hw2
            go_wp2_with fail
            go_roundg g
            case measure => omega
            case rel => exact ⟨_, _, rfl, by have := Hd.out; omega, Hok.out, Hd.out.2, hf, Dw.trans (Hw.out.dn _) Hw2.out⟩
          · have h9i : ¬ (9 : Int) ≤ (d : Int) := by omega
            have h9j : (d : Int) < 9 := by omega
            have h00 : (0 : Int) ≤ (d : Int) := by omega
            have pp := Ht'.out.pp d (by omega)
            by_cases hd0 : d = 0
            · have h53' := h53 hd0
              subst hd0
              have c1' : wr.cell? ⟨b, 801, none⟩ = some (.int .i64 0) := c1
              have pp' : wr.cell? ⟨y, off2, none⟩ = some (.int .i64 (powt 0 : Nat)) := pp
              clear c1 h53 pp
              go_wp2_with fail
              go_quiet (fail)
              go_wp2_with fail
              go_quiet (fail)
              go_wp2_with fail
              refine (shift_S ((powt 0 : Nat)) (by omega) Hc.out (Ht'.out.tb.keep (dN _ _ _)) Ho'.out (Hw.out.dc.keep (dN _ _ _))).mono ?_
              rintro er w' ⟨rfl, hw2⟩
              have Hw2 := hid hw2
              clear hw2
              go_wp2_with fail
              go_roundg g
              case measure => omega
              case rel => exact ⟨_, _, rfl, by have := Hd.out; omega, Hok.out, Hd.out.2, hf, Dw.trans (Hw.out.dn _) Hw2.out⟩
            · have hneg : -(d : Int) < 0 := by omega
              clear h53
              go_wp2_with fail
              go_quiet (fail)
              go_wp2_with fail
              go_quiet (fail)
              go_wp2_with fail
              refine (shift_S ((powt d : Nat)) (by omega) Hc.out (Ht'.out.tb.keep (dN _ _ _)) Ho'.out (Hw.out.dc.keep (dN _ _ _))).mono ?_
              rintro er w' ⟨rfl, hw2⟩
              have Hw2 := hid hw2
              clear hw2
              go_wp2_with fail
              go_roundg g
              case measure => omega
              case rel => exact ⟨_, _, rfl, by have := Hd.out; omega, Hok.out, Hd.out.2, hf, Dw.trans (Hw.out.dn _) Hw2.out⟩
      · have hf2 := hf.out
        have hf3 : (S', e) = (S2, x2) := by
          rcases gk with _ | g
          · rw [fb2] at hf2; exact hf2
          · rw [fb2, if_neg h0] at hf2; exact hf2
        obtain ⟨rfl, rfl⟩ := Prod.mk.inj hf3
        clear hf2 hf3 hf
        have h0a : ¬ S'.dp < 0 := by unfold c2 at h0; omega
        have h0b : S'.dp = 0 → ¬ (S'.D 0 : Int) < 53 := by unfold c2 at h0; omega
        have H0 := hid h0
        clear h0
        by_cases hz : S'.dp = 0
        · have h53 := h0b hz
          rw [hz] at c1
          have Hz := hid hz
          clear hz h0b h0a
          go_wp2_with fail
          go_meet
          exact ⟨rfl, Ho'.out, Hw.out⟩
        · have hz2 : (S'.dp == 0) = false := by simpa using hz
          clear h0b
          go_wp2_with fail
          go_meet
          exact ⟨rfl, Ho'.out, Hw.out⟩
  case rest =>
  obtain ⟨rfl, ho2, hw2⟩ := hcut
  have Ho2 := hid ho2
  have Hw2 := hid hw2
  have ht2 := Ht.out.keep hw2.bl
  have f2 := ht2.f2
  obtain ⟨e3, he3⟩ : ∃ e, wrap64 (x2 - 1) = e := ⟨_, rfl⟩
  rw [he3] at HR
  obtain ⟨S3, e4, hS3⟩ : ∃ S3 e4, (if e3 < -1022 then (shS cd cs (wrap64 (-(wrap64 (-1022 - e3)))) S2, wrap64 (e3 + wrap64 (-1022 - e3))) else (S2, e3)) = (S3, e4) := ⟨_, _, rfl⟩
  have hR : fbE cd cs S3 e4 ng = (R1, R2) := by
    have := HR.out
    unfold fbD at this
    by_cases c : e3 < -1022
    · rw [if_pos c] at this hS3
      obtain ⟨rfl, rfl⟩ := Prod.mk.inj hS3
      exact this
    · rw [if_neg c] at this hS3
      obtain ⟨rfl, rfl⟩ := Prod.mk.inj hS3
      exact this
  have HR3 := hid hR
  have HS3 := hid hS3
  have Ht2 := hid ht2
  have HE3 := hid he3
  clear hR hS3 HR ho2 hw2 ht2 he3
  go_upto_if 111 with fail
  rw [show wrap64 (x2 - 1) = e3 from HE3.out]
  go_cut [6, 10] from 111 to 125 (fun ev _ wx => ev = .int .i64 e4 ∧ SdOk S3 ∧ DwS w b wx S3 ng)
  case first =>
    by_cases c : e3 < -1022
    · have hS3 := HS3.out
      rw [if_pos c] at hS3
      obtain ⟨h5, h6⟩ := Prod.mk.inj hS3
      have H5 := hid h5
      have H6 := hid h6
      clear h5 h6 hS3
      go_wp2_with fail
      refine (shift_S (wrap64 (-wrap64 (-1022 - e3))) (w64r _) Hc.out Ht2.out.tb Ho2.out Hw2.out.dc).mono ?_
      rintro er w' ⟨rfl, hw3⟩
      have Hw3 := hid hw3
      clear hw3
      go_wp2_with fail
      go_meet
      exact ⟨by rw [H6.out], H5.out ▸ shS_ok Hc.out Ho2.out, H5.out ▸ Dw.trans Hw2.out Hw3.out⟩
    · have hS3 := HS3.out
      rw [if_neg c] at hS3
      obtain ⟨h5, h6⟩ := Prod.mk.inj hS3
      have H5 := hid h5
      have H6 := hid h6
      clear h5 h6 hS3
      go_wp2_with fail
      go_meet
      exact ⟨by rw [H6.out], H5.out ▸ Ho2.out, H5.out ▸ Hw2.out⟩
  case rest =>
  obtain ⟨rfl, ho3, hw3⟩ := hcut
  have Ho3 := hid ho3
  have Hw3 := hid hw3
  have ht3 := Ht.out.keep hw3.bl
  have cg := hw3.dc.g
  clear f2
  have f0 := ht3.f0
  have f1 := ht3.f1
  have f2 := ht3.f2
  have Ht3 := hid ht3
  clear ho3 hw3 ht3
  have hR := HR3.out
  unfold fbE at hR
  by_cases hv : 2047 ≤ wrap64 (e4 + 1023)
  · rw [if_pos hv] at hR
    have HR := hid hR
    clear hR
    go_wp2_with fail
    go_quiet (fail)
    go_wp2_with fail
    go_step3
    go_wp2_with fail
    refine Exit.to_same ?_
    go_wp2_with fail
    go_quiet (fail)
    go_wp2_with fail
    go_step3
    go_wp2_with fail
    go_quiet (fail)
    cases ng
    · go_wp2_with fail
      (try rw [Exit.to_ret]); (try rw [Exit.noGoto_ret])
      go_ret2
      have h1 := HR.out
      unfold outB at h1
      rw [if_neg (by simp)] at h1
      obtain ⟨rfl, rfl⟩ := Prod.mk.inj h1
      first | exact ⟨rfl, below_drewN (Hw3.out.bl) _⟩ | exact ⟨rfl, below_drewN (below_drewN (Hw3.out.bl) _) _⟩ | exact ⟨rfl, below_drewN (below_drewN (below_drewN (Hw3.out.bl) _) _) _⟩
    · go_wp2_with fail
      go_quiet (fail)
      go_wp2_with fail
      (try rw [Exit.to_ret]); (try rw [Exit.noGoto_ret])
      go_ret2
      have h1 := HR.out
      unfold outB at h1
      rw [if_pos rfl] at h1
      obtain ⟨rfl, rfl⟩ := Prod.mk.inj h1
      first | exact ⟨rfl, below_drewN (Hw3.out.bl) _⟩ | exact ⟨rfl, below_drewN (below_drewN (Hw3.out.bl) _) _⟩ | exact ⟨rfl, below_drewN (below_drewN (below_drewN (Hw3.out.bl) _) _) _⟩
  · rw [if_neg hv] at hR
    have HR := hid hR
    clear hR
    go_wp2_with fail
    go_quiet (fail)
    go_wp2_with fail
    refine (shift_S 53 (by omega) Hc.out (Ht3.out.tb.keep (dN _ _ _)) Ho3.out (Hw3.out.dc.keep (dN _ _ _))).mono ?_
    rintro er w4 ⟨rfl, hw4⟩
    have hw5 := Dw.trans (Hw3.out.dn _) hw4
    have ho5 := shS_ok (k := 53) Hc.out Ho3.out
    have cal := rint_any ho5 hw5.dc
    have ht5 := Ht.out.keep hw5.bl
    clear f0 f1 f2 cg
    have cg := hw5.dc.g
    have f0 := ht5.f0
    have f1 := ht5.f1
    have f2 := ht5.f2
    have Hw5 := hid hw5
    have Ho5 := hid ho5
    have Cal := hid cal
    clear hw4 hw5 ho5 cal ht5
    go_wp2_with fail
    refine Cal.out.mono ?_
    rintro er w6 ⟨rfl, q6, rfl⟩
    have h1 := HR.out
    obtain ⟨m, hm⟩ : ∃ m, rint (shS cd cs 53 S3) = m := ⟨_, rfl⟩
    rw [hm] at h1 ⊢
    clear hm
    by_cases hm : m = 9007199254740992
    · subst hm
      rw [if_pos rfl] at h1
      by_cases hv2 : 2047 ≤ wrap64 (wrap64 (e4 + 1) + 1023)
      · rw [if_pos hv2] at h1
        have HR := hid h1
        clear h1
        go_wp2_with fail
        go_quiet (fail)
        go_wp2_with fail
        go_step3
        go_wp2_with fail
        refine Exit.to_same ?_
        go_wp2_with fail
        go_quiet (fail)
        go_wp2_with fail
        go_step3
        go_wp2_with fail
        go_quiet (fail)
        cases ng
        · go_wp2_with fail
          (try rw [Exit.to_ret]); (try rw [Exit.noGoto_ret])
          go_ret2
          have h1 := HR.out
          unfold outB at h1
          rw [if_neg (by simp)] at h1
          obtain ⟨rfl, rfl⟩ := Prod.mk.inj h1
          first | exact ⟨rfl, below_drewN (Hw5.out.bl) _⟩ | exact ⟨rfl, below_drewN (below_drewN (Hw5.out.bl) _) _⟩ | exact ⟨rfl, below_drewN (below_drewN (below_drewN (Hw5.out.bl) _) _) _⟩
        · go_wp2_with fail
          go_quiet (fail)
          go_wp2_with fail
          (try rw [Exit.to_ret]); (try rw [Exit.noGoto_ret])
          go_ret2
          have h1 := HR.out
          unfold outB at h1
          rw [if_pos rfl] at h1
          obtain ⟨rfl, rfl⟩ := Prod.mk.inj h1
          first | exact ⟨rfl, below_drewN (Hw5.out.bl) _⟩ | exact ⟨rfl, below_drewN (below_drewN (Hw5.out.bl) _) _⟩ | exact ⟨rfl, below_drewN (below_drewN (below_drewN (Hw5.out.bl) _) _) _⟩
      · rw [if_neg hv2] at h1
        have HR := hid h1
        clear h1
        go_wp2_with fail
        go_quiet (fail)
        by_cases hb : bits BinOp.and IntKind.u64 (4503599627370496) 4503599627370496 = 0
        · exact absurd hb (by decide)
        · have hb1 : (bits BinOp.and IntKind.u64 (4503599627370496) 4503599627370496 == 0) = false := by simpa using hb
          have h1 := HR.out
          unfold fbT at h1
          rw [if_neg hb] at h1
          have HR := hid h1
          have HB := hid hb
          clear hb h1
          go_wp2_with fail
          go_step3
          go_wp2_with fail
          refine Exit.to_else (by decide) (Exit.to_same ?_)
          go_wp2_with fail
          go_quiet (fail)
          cases ng
          · go_wp2_with fail
            (try rw [Exit.to_ret]); (try rw [Exit.noGoto_ret])
            go_ret2
            have h1 := HR.out
            unfold outB at h1
            rw [if_neg (by simp)] at h1
            obtain ⟨rfl, rfl⟩ := Prod.mk.inj h1
            first | exact ⟨rfl, below_drewN (Hw5.out.bl) _⟩ | exact ⟨rfl, below_drewN (below_drewN (Hw5.out.bl) _) _⟩ | exact ⟨rfl, below_drewN (below_drewN (below_drewN (Hw5.out.bl) _) _) _⟩
          · go_wp2_with fail
            go_quiet (fail)
            go_wp2_with fail
            (try rw [Exit.to_ret]); (try rw [Exit.noGoto_ret])
            go_ret2
            have h1 := HR.out
            unfold outB at h1
            rw [if_pos rfl] at h1
            obtain ⟨rfl, rfl⟩ := Prod.mk.inj h1
            first | exact ⟨rfl, below_drewN (Hw5.out.bl) _⟩ | exact ⟨rfl, below_drewN (below_drewN (Hw5.out.bl) _) _⟩ | exact ⟨rfl, below_drewN (below_drewN (below_drewN (Hw5.out.bl) _) _) _⟩
    · rw [if_neg hm] at h1
      have HR := hid h1
      clear h1
      have hm1 : (m == 9007199254740992) = false := by simpa using hm
      have HM := hid hm
      clear hm
      by_cases hb : bits BinOp.and IntKind.u64 (m) 4503599627370496 = 0
      · have hb1 : (bits BinOp.and IntKind.u64 (m) 4503599627370496 == 0) = true := by rw [hb]; rfl
        have h1 := HR.out
        unfold fbT at h1
        rw [if_pos hb] at h1
        have HR := hid h1
        have HB := hid hb
        clear hb h1
        go_wp2_with fail
        go_step3
        go_wp2_with fail
        refine Exit.to_else (by decide) (Exit.to_same ?_)
        go_wp2_with fail
        go_quiet (fail)
        cases ng
        · go_wp2_with fail
          (try rw [Exit.to_ret]); (try rw [Exit.noGoto_ret])
          go_ret2
          have h1 := HR.out
          unfold outB at h1
          rw [if_neg (by simp)] at h1
          obtain ⟨rfl, rfl⟩ := Prod.mk.inj h1
          first | exact ⟨rfl, below_drewN (Hw5.out.bl) _⟩ | exact ⟨rfl, below_drewN (below_drewN (Hw5.out.bl) _) _⟩ | exact ⟨rfl, below_drewN (below_drewN (below_drewN (Hw5.out.bl) _) _) _⟩
        · go_wp2_with fail
          go_quiet (fail)
          go_wp2_with fail
          (try rw [Exit.to_ret]); (try rw [Exit.noGoto_ret])
          go_ret2
          have h1 := HR.out
          unfold outB at h1
          rw [if_pos rfl] at h1
          obtain ⟨rfl, rfl⟩ := Prod.mk.inj h1
          first | exact ⟨rfl, below_drewN (Hw5.out.bl) _⟩ | exact ⟨rfl, below_drewN (below_drewN (Hw5.out.bl) _) _⟩ | exact ⟨rfl, below_drewN (below_drewN (below_drewN (Hw5.out.bl) _) _) _⟩
      · have hb1 : (bits BinOp.and IntKind.u64 (m) 4503599627370496 == 0) = false := by simpa using hb
        have h1 := HR.out
        unfold fbT at h1
        rw [if_neg hb] at h1
        have HR := hid h1
        have HB := hid hb
        clear hb h1
        go_wp2_with fail
        go_step3
        go_wp2_with fail
        refine Exit.to_else (by decide) (Exit.to_same ?_)
        go_wp2_with fail
        go_quiet (fail)
        cases ng
        · go_wp2_with fail
          (try rw [Exit.to_ret]); (try rw [Exit.noGoto_ret])
          go_ret2
          have h1 := HR.out
          unfold outB at h1
          rw [if_neg (by simp)] at h1
          obtain ⟨rfl, rfl⟩ := Prod.mk.inj h1
          first | exact ⟨rfl, below_drewN (Hw5.out.bl) _⟩ | exact ⟨rfl, below_drewN (below_drewN (Hw5.out.bl) _) _⟩ | exact ⟨rfl, below_drewN (below_drewN (below_drewN (Hw5.out.bl) _) _) _⟩
        · go_wp2_with fail
          go_quiet (fail)
          go_wp2_with fail
          (try rw [Exit.to_ret]); (try rw [Exit.noGoto_ret])
          go_ret2
          have h1 := HR.out
          unfold outB at h1
          rw [if_pos rfl] at h1
          obtain ⟨rfl, rfl⟩ := Prod.mk.inj h1
          first | exact ⟨rfl, below_drewN (Hw5.out.bl) _⟩ | exact ⟨rfl, below_drewN (below_drewN (Hw5.out.bl) _) _⟩ | exact ⟨rfl, below_drewN (below_drewN (below_drewN (Hw5.out.bl) _) _) _⟩
end Go.Proofs.YtajpeeccomgnnaaGreatDoor
