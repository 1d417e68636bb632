/-
  The shapes of the trees' nodes as values.
-/
import Derived.Test.YtkblonfmjlopaaaGreatDoorSyLs
import Derived.BigQuiet
import Derived.BigRegion
import Derived.RegionTactic
import Derived.Deep.QuietTactic
import Derived.Test.YtkblonfmjlopaaaGreatDoorSxT
import Derived.Lib.IndexAny
import Derived.IntWalk
import Derived.Test.YtkblonfmjlopaaaGreatDoorLxTok
set_option linter.all false
set_option maxRecDepth 1000000
set_option maxHeartbeats 16000000
namespace Go.Proofs.YtkblonfmjlopaaaGreatDoor
open Go Go.RowKit
def ShpOk (I : Shp) : Prop := ∀ w w' F F' nd v, I w F nd v → Kb w w' F → (∀ b, F b → F' b) → I w' F' nd v
def IsPat (w : World) (F : Nat → Prop) (nd : Nd) (v : Value) : Prop := ∃ (x0 : Int) (x1 : ByteArray) (x2 : Bool) (Vg : Option Addr) (Vi Vh : Nat) (x4 : Int) (x5 : ByteArray) (Vm : Option Addr) (Vo Vn : Nat) (Vp : Option Addr) (Vr Vq : Nat) (Vs : Option Addr) (Vu Vt : Nat), v = .agg #[.int .i64 x0, .string x1, .bool x2, .slice Vg Vi Vh, .int .i64 x4, .string x5, .slice Vm Vo Vn, .slice Vp Vr Vq, .slice Vs Vu Vt] ∧ RepR w F nd [.int .i64 x0, .string x1, .bool x2, .slice Vg Vi Vh, .int .i64 x4, .string x5, .slice Vm Vo Vn, .slice Vp Vr Vq, .slice Vs Vu Vt]
theorem IsPat.ok : ShpOk IsPat := fun w w' F F' nd v h hk hF => by
  obtain ⟨x0, x1, x2, Vg, Vi, Vh, x4, x5, Vm, Vo, Vn, Vp, Vr, Vq, Vs, Vu, Vt, e, h⟩ := h; exact ⟨x0, x1, x2, Vg, Vi, Vh, x4, x5, Vm, Vo, Vn, Vp, Vr, Vq, Vs, Vu, Vt, e, h.on hk hF⟩
def zPat : Value := .agg #[.int .i64 0, .string ⟨#[]⟩, .bool false, .slice none 0 0, .int .i64 0, .string ⟨#[]⟩, .slice none 0 0, .slice none 0 0, .slice none 0 0]
theorem Tryz.info82 : (Tryz.prog.info? 82).map (fun i => (i.zero, i.size, i.bytes)) = some (some zPat, 9, 152) := by kernel_rfl
def IsExp (w : World) (F : Nat → Prop) (nd : Nd) (v : Value) : Prop := ∃ (x0 : Int) (x1 : ByteArray) (x2 : Bool) (Vg : Option Addr) (Vi Vh : Nat) (x4 : Int) (x5 : Int) (x6 : ByteArray) (Vp : Option Addr) (Vr Vq : Nat) (Vs : Option Addr) (Vu Vt : Nat) (Vv : Option Addr) (Vx Vw : Nat) (Vy : Option Addr) (VA Vz : Nat) (VB : Option Addr) (VD VC : Nat), v = .agg #[.int .i64 x0, .string x1, .bool x2, .slice Vg Vi Vh, .int .i64 x4, .int .u64 x5, .string x6, .slice Vp Vr Vq, .slice Vs Vu Vt, .slice Vv Vx Vw, .slice Vy VA Vz, .slice VB VD VC] ∧ RepR w F nd [.int .i64 x0, .string x1, .bool x2, .slice Vg Vi Vh, .int .i64 x4, .int .u64 x5, .string x6, .slice Vp Vr Vq, .slice Vs Vu Vt, .slice Vv Vx Vw, .slice Vy VA Vz, .slice VB VD VC]
theorem IsExp.ok : ShpOk IsExp := fun w w' F F' nd v h hk hF => by
  obtain ⟨x0, x1, x2, Vg, Vi, Vh, x4, x5, x6, Vp, Vr, Vq, Vs, Vu, Vt, Vv, Vx, Vw, Vy, VA, Vz, VB, VD, VC, e, h⟩ := h; exact ⟨x0, x1, x2, Vg, Vi, Vh, x4, x5, x6, Vp, Vr, Vq, Vs, Vu, Vt, Vv, Vx, Vw, Vy, VA, Vz, VB, VD, VC, e, h.on hk hF⟩
def zExp : Value := .agg #[.int .i64 0, .string ⟨#[]⟩, .bool false, .slice none 0 0, .int .i64 0, .int .u64 0, .string ⟨#[]⟩, .slice none 0 0, .slice none 0 0, .slice none 0 0, .slice none 0 0, .slice none 0 0]
theorem Tryz.info87 : (Tryz.prog.info? 87).map (fun i => (i.zero, i.size, i.bytes)) = some (some zExp, 12, 208) := by kernel_rfl
def IsDec (w : World) (F : Nat → Prop) (nd : Nd) (v : Value) : Prop := ∃ (x0 : Int) (x1 : ByteArray) (Vd : Option Addr) (Vf Ve : Nat) (x3 : Int) (x4 : Bool) (x5 : Bool) (Vm : Option Addr) (Vo Vn : Nat) (Vp : Option Addr) (Vr Vq : Nat) (Vs : Option Addr) (Vu Vt : Nat) (Vv : Option Addr) (Vx Vw : Nat) (Vy : Option Addr) (VA Vz : Nat) (VB : Option Addr) (VD VC : Nat) (VE : Option Addr) (VG VF : Nat) (VH : Option Addr) (VJ VI : Nat), v = .agg #[.int .i64 x0, .string x1, .slice Vd Vf Ve, .int .i64 x3, .bool x4, .bool x5, .slice Vm Vo Vn, .slice Vp Vr Vq, .slice Vs Vu Vt, .slice Vv Vx Vw, .slice Vy VA Vz, .slice VB VD VC, .slice VE VG VF, .slice VH VJ VI] ∧ RepR w F nd [.int .i64 x0, .string x1, .slice Vd Vf Ve, .int .i64 x3, .bool x4, .bool x5, .slice Vm Vo Vn, .slice Vp Vr Vq, .slice Vs Vu Vt, .slice Vv Vx Vw, .slice Vy VA Vz, .slice VB VD VC, .slice VE VG VF, .slice VH VJ VI]
theorem IsDec.ok : ShpOk IsDec := fun w w' F F' nd v h hk hF => by
  obtain ⟨x0, x1, Vd, Vf, Ve, x3, x4, x5, Vm, Vo, Vn, Vp, Vr, Vq, Vs, Vu, Vt, Vv, Vx, Vw, Vy, VA, Vz, VB, VD, VC, VE, VG, VF, VH, VJ, VI, e, h⟩ := h; exact ⟨x0, x1, Vd, Vf, Ve, x3, x4, x5, Vm, Vo, Vn, Vp, Vr, Vq, Vs, Vu, Vt, Vv, Vx, Vw, Vy, VA, Vz, VB, VD, VC, VE, VG, VF, VH, VJ, VI, e, h.on hk hF⟩
def zDec : Value := .agg #[.int .i64 0, .string ⟨#[]⟩, .slice none 0 0, .int .i64 0, .bool false, .bool false, .slice none 0 0, .slice none 0 0, .slice none 0 0, .slice none 0 0, .slice none 0 0, .slice none 0 0, .slice none 0 0, .slice none 0 0]
theorem Tryz.info42 : (Tryz.prog.info? 42).map (fun i => (i.zero, i.size, i.bytes)) = some (some zDec, 14, 256) := by kernel_rfl
def IsFun (w : World) (F : Nat → Prop) (nd : Nd) (v : Value) : Prop := ∃ (x0 : ByteArray) (x1 : Int) (Vd : Option Addr) (Vf Ve : Nat), v = .agg #[.string x0, .int .i64 x1, .slice Vd Vf Ve] ∧ RepR w F nd [.string x0, .int .i64 x1, .slice Vd Vf Ve]
theorem IsFun.ok : ShpOk IsFun := fun w w' F F' nd v h hk hF => by
  obtain ⟨x0, x1, Vd, Vf, Ve, e, h⟩ := h; exact ⟨x0, x1, Vd, Vf, Ve, e, h.on hk hF⟩
def zFun : Value := .agg #[.string ⟨#[]⟩, .int .i64 0, .slice none 0 0]
theorem Tryz.info45 : (Tryz.prog.info? 45).map (fun i => (i.zero, i.size, i.bytes)) = some (some zFun, 3, 48) := by kernel_rfl
def IsClause (w : World) (F : Nat → Prop) (nd : Nd) (v : Value) : Prop := ∃ (Va : Option Addr) (Vc Vb : Nat) (x1 : Int) (x2 : ByteArray) (x3 : Bool) (Vj : Option Addr) (Vl Vk : Nat) (x5 : Int) (x6 : Int) (x7 : ByteArray) (Vs : Option Addr) (Vu Vt : Nat) (Vv : Option Addr) (Vx Vw : Nat) (Vy : Option Addr) (VA Vz : Nat) (VB : Option Addr) (VD VC : Nat) (VE : Option Addr) (VG VF : Nat), v = .agg #[.slice Va Vc Vb, .int .i64 x1, .string x2, .bool x3, .slice Vj Vl Vk, .int .i64 x5, .int .u64 x6, .string x7, .slice Vs Vu Vt, .slice Vv Vx Vw, .slice Vy VA Vz, .slice VB VD VC, .slice VE VG VF] ∧ RepR w F nd [.slice Va Vc Vb, .int .i64 x1, .string x2, .bool x3, .slice Vj Vl Vk, .int .i64 x5, .int .u64 x6, .string x7, .slice Vs Vu Vt, .slice Vv Vx Vw, .slice Vy VA Vz, .slice VB VD VC, .slice VE VG VF]
theorem IsClause.ok : ShpOk IsClause := fun w w' F F' nd v h hk hF => by
  obtain ⟨Va, Vc, Vb, x1, x2, x3, Vj, Vl, Vk, x5, x6, x7, Vs, Vu, Vt, Vv, Vx, Vw, Vy, VA, Vz, VB, VD, VC, VE, VG, VF, e, h⟩ := h; exact ⟨Va, Vc, Vb, x1, x2, x3, Vj, Vl, Vk, x5, x6, x7, Vs, Vu, Vt, Vv, Vx, Vw, Vy, VA, Vz, VB, VD, VC, VE, VG, VF, e, h.on hk hF⟩
def zClause : Value := .agg #[.slice none 0 0, .int .i64 0, .string ⟨#[]⟩, .bool false, .slice none 0 0, .int .i64 0, .int .u64 0, .string ⟨#[]⟩, .slice none 0 0, .slice none 0 0, .slice none 0 0, .slice none 0 0, .slice none 0 0]
theorem Tryz.info105 : (Tryz.prog.info? 105).map (fun i => (i.zero, i.size, i.bytes)) = some (some zClause, 13, 232) := by kernel_rfl
def zStr : Value := .string ⟨#[]⟩
theorem Tryz.info9 : (Tryz.prog.info? 9).map (fun i => (i.zero, i.size, i.bytes)) = some (some zStr, 1, 16) := by kernel_rfl
def FN (G : Gh) (k : Nat) (args : Array Value) (I : Shp) (x : PM Nd) : Prop := ∀ (M : Nat → Prop) (na : Option Addr) (nc : Nat) (fa : Option Addr) (fc : Nat) (w : World) (s : PSt) (r : Except (Nat × Nat) (Nd × PSt)), PS G M na nc fa fc w s → x s = some r → Calls Tryz.prog k args w fun e w' => PN G M na nc fa fc I w s r e w'
def FLs (G : Gh) (k : Nat) (args : Array Value) (x : PM (List Nd)) : Prop := ∀ (M : Nat → Prop) (na : Option Addr) (nc : Nat) (fa : Option Addr) (fc : Nat) (w : World) (s : PSt) (r : Except (Nat × Nat) (List Nd × PSt)), PS G M na nc fa fc w s → x s = some r → Calls Tryz.prog k args w fun e w' => PL G M na nc fa fc w s r e w'
def CloOK (G : Gh) (na : Option Addr) (nc : Nat) (fa : Option Addr) (fc : Nat) (I : Shp) {σ Γ : Type} (k : Nat) (fb cp : Array Value) (one : σ → PM (Nd × σ)) (pr : Γ → σ) (Mx : Γ → Nat → Prop) (St : World → Γ → Prop) : Prop :=
  ∀ (w : World) (s : PSt) (g : Γ) (r : Except (Nat × Nat) ((Nd × σ) × PSt)), PS G (Mx g) na nc fa fc w s → St w g → one (pr g) s = some r →
    Calls Tryz.prog k (fb ++ cp) w fun e w' => Kn G.B (Mx g) w w' ∧ match r with
      | .error (c, q) => e = thrown c q
      | .ok ((nd, x), s') => s'.sc = s.sc ∧ s.i ≤ s'.i ∧ ∃ g' v, e = .returned v ∧ pr g' = x ∧ PS G (Mx g') na nc fa fc w' s' ∧ St w' g' ∧ (∀ j, Mx g j → Mx g' j) ∧ (∀ j, Mx g' j → Mx g j ∨ w.heap.size ≤ j) ∧ I w' (Own G.B w.heap.size w'.heap.size (Mx g')) nd v
def PostL (G : Gh) (na : Option Addr) (nc : Nat) (fa : Option Addr) (fc : Nat) {σ Γ : Type} (pr : Γ → σ) (Mx : Γ → Nat → Prop) (St : World → Γ → Prop) (w : World) (s : PSt) (g : Γ) (r : Except (Nat × Nat) ((List Nd × σ) × PSt)) (e : Ending) (w' : World) : Prop :=
  Kn G.B (Mx g) w w' ∧ match r with
    | .error (c, q) => e = thrown c q
    | .ok ((l, x), s') => s'.sc = s.sc ∧ s.i ≤ s'.i ∧ ∃ g' v, e = .returned v ∧ pr g' = x ∧ PS G (Mx g') na nc fa fc w' s' ∧ St w' g' ∧ (∀ j, Mx g j → Mx g' j) ∧ (∀ j, Mx g' j → Mx g j ∨ w.heap.size ≤ j) ∧ IsSl w' (Own G.B w.heap.size w'.heap.size (Mx g')) l v
theorem FN.clo {G : Gh} {M : Nat → Prop} {na : Option Addr} {nc : Nat} {fa : Option Addr} {fc k : Nat} {fb cp : Array Value} {I : Shp} {x : PM Nd} (hI : ShpOk I) (h : FN G k (fb ++ cp) I x) :
    CloOK G na nc fa fc I k fb cp (lone x) (fun _ : Unit => ()) (fun _ => M) (fun _ _ => True) := fun w s g r hP _ hx => by
  unfold lone at hx
  rcases bind_cases hx with ⟨c, q, h1, rfl⟩ | ⟨nd, s1, h1, h2⟩
  · refine (h M na nc fa fc w s _ hP h1).mono ?_; rintro e w' ⟨hk, he⟩; exact ⟨hk, he⟩
  · obtain rfl := pure_inv h2; refine (h M na nc fa fc w s _ hP h1).mono ?_; rintro e w' ⟨hk, h2, h3, h4, v, h5, h6⟩; exact ⟨hk, h2, h3, (), v, h5, rfl, h4, trivial, fun _ h => h, fun _ h => .inl h, hI _ _ _ _ _ _ h6 (Kb.refl _ _) (fun b hb => hb.imp id fun q => ⟨q.1, q.2.1, fun hm => by have := (hP.mB b hm).2; omega⟩)⟩
def StOk (G : Gh) {Γ : Type} (Mx : Γ → Nat → Prop) (St : World → Γ → Prop) : Prop := ∀ w w' g, St w g → (∀ k, Mx g k → k ≠ G.bp → w'.heap[k]? = w.heap[k]?) → St w' g
theorem Toks.at {w : World} {la : Option Addr} {lc : Nat} {ts : List Tok} (h : Toks w la ts.length lc ts) {i : Nat} {t : Tok} (ht : ts[i]? = some t) : ∃ x off sg a nn c, la = some ⟨x, off, none⟩ ∧ (w.cell? ⟨x, off + i * 7, none⟩ = some (.int .i64 (t.kind : Nat)) ∧ w.cell? ⟨x, off + i * 7 + 1, none⟩ = some (.string ⟨t.text.toArray⟩) ∧ w.cell? ⟨x, off + i * 7 + 2, none⟩ = some (.bool sg) ∧ w.cell? ⟨x, off + i * 7 + 3, none⟩ = some (.slice a nn c) ∧ w.cell? ⟨x, off + i * 7 + 4, none⟩ = some (.int .u64 (t.bits : Nat)) ∧ w.cell? ⟨x, off + i * 7 + 5, none⟩ = some (.int .i64 (t.n : Nat)) ∧ w.cell? ⟨x, off + i * 7 + 6, none⟩ = some (.int .i64 (t.pos : Nat))) ∧ Mg w sg a nn c t.num := by
  obtain ⟨hh, A, _, _, tk⟩ := h; have hi := (List.getElem?_eq_some_iff.1 ht).1; have hle := A.le; obtain ⟨x, off, rfl, hc⟩ := A.addr (by omega); obtain ⟨sg, a, nn, c, t0, t1, t2, t3, t4, t5, t6, m⟩ := tk i t ht; refine ⟨x, off, sg, a, nn, c, rfl, ⟨?_, ?_, ?_, ?_, ?_, ?_, ?_⟩, m⟩
  · exact (hc (i * 7) (by omega)).trans (congrArg some t0)
  · rw [Nat.add_assoc]; exact (hc (i * 7 + 1) (by omega)).trans (congrArg some t1)
  · rw [Nat.add_assoc]; exact (hc (i * 7 + 2) (by omega)).trans (congrArg some t2)
  · rw [Nat.add_assoc]; exact (hc (i * 7 + 3) (by omega)).trans (congrArg some t3)
  · rw [Nat.add_assoc]; exact (hc (i * 7 + 4) (by omega)).trans (congrArg some t4)
  · rw [Nat.add_assoc]; exact (hc (i * 7 + 5) (by omega)).trans (congrArg some t5)
  · rw [Nat.add_assoc]; exact (hc (i * 7 + 6) (by omega)).trans (congrArg some t6)
section
variable {G : Gh} {M : Nat → Prop} {na : Option Addr} {nc : Nat} {fa : Option Addr} {fc : Nat} {w w' : World} {s : PSt}
theorem PS.tok (hG : GOk G) (h : PS G M na nc fa fc w s) {j : Nat} {t : Tok} (ht : G.X.ts[j]? = some t) : ∃ x off sg a n c, G.la = some ⟨x, off, none⟩ ∧ x < G.B ∧
    (w.cell? ⟨x, off + j * 7, none⟩ = some (.int .i64 (t.kind : Nat)) ∧ w.cell? ⟨x, off + j * 7 + 1, none⟩ = some (.string ⟨t.text.toArray⟩) ∧ w.cell? ⟨x, off + j * 7 + 2, none⟩ = some (.bool sg) ∧ w.cell? ⟨x, off + j * 7 + 3, none⟩ = some (.slice a n c) ∧ w.cell? ⟨x, off + j * 7 + 4, none⟩ = some (.int .u64 (t.bits : Nat)) ∧ w.cell? ⟨x, off + j * 7 + 5, none⟩ = some (.int .i64 (t.n : Nat)) ∧ w.cell? ⟨x, off + j * 7 + 6, none⟩ = some (.int .i64 (t.pos : Nat))) ∧ Mg G.w0 sg a n c t.num := by
  obtain ⟨x, off, sg, a, n, c, e, ⟨h0, h1, h2, h3, h4, h5, h6⟩, m⟩ := hG.tk.at ht; have hx : x < G.B := World.block_lt_of_cell? G.w0 _ h0; have k : ∀ o, w.cell? ⟨x, o, none⟩ = G.w0.cell? ⟨x, o, none⟩ := fun o => h.low.cell (p := ⟨x, o, none⟩) hx; exact ⟨x, off, sg, a, n, c, e, hx, ⟨(k _).trans h0, (k _).trans h1, (k _).trans h2, (k _).trans h3, (k _).trans h4, (k _).trans h5, (k _).trans h6⟩, m⟩
theorem nextS_at {X : Tx} {s : PSt} {t : Tok} (h : X.ts[s.i]? = some t) : nextS X s = t := by unfold nextS; rw [h]; rfl
theorem nextS_end {X : Tx} {s : PSt} (h : ¬ s.i < X.ts.length) : nextS X s = tok0 := by unfold nextS; rw [List.getElem?_eq_none (by omega)]; rfl
end
theorem mg0 (w : World) : Mg w false none 0 0 0 := ⟨fun _ => 0, Us.nil _ _, Nat.zero_le _, .inl rfl, fun _ => rfl, rfl⟩
def tokA (t : Tok) (sg : Bool) (am : Option Addr) (nm cm : Nat) : Value := .agg #[.int .i64 (t.kind : Nat), .string ⟨t.text.toArray⟩, .bool sg, .slice am nm cm, .int .u64 (t.bits : Nat), .int .i64 (t.n : Nat), .int .i64 (t.pos : Nat)]
theorem next_any {G : Gh} {M : Nat → Prop} {na : Option Addr} {nc : Nat} {fa : Option Addr} {fc : Nat} {w : World} {s : PSt} (hG : GOk G) (h : PS G M na nc fa fc w s) :
    Calls Tryz.prog 63 #[.pointer (some ⟨G.bp, 0, none⟩)] w fun e w' => ∃ sg am nm cm, e = .returned (.agg #[.int .i64 ((nextS G.X s).kind : Nat), .string ⟨(nextS G.X s).text.toArray⟩, .bool sg, .slice am nm cm, .int .u64 ((nextS G.X s).bits : Nat), .int .i64 ((nextS G.X s).n : Nat), .int .i64 ((nextS G.X s).pos : Nat)]) ∧ Mg G.w0 sg am nm cm (nextS G.X s).num ∧ Below w.heap.size w w' := by
  have c0 := h.c0; have c1 := h.c1; have hbp : G.bp < w.heap.size := h.lt; have hne : ¬ G.bp = w.heap.size := by omega
  have hf := hG.few
  by_cases hi : s.i < G.X.ts.length
  · obtain ⟨t, ht⟩ : ∃ t, G.X.ts[s.i]? = some t := ⟨_, List.getElem?_eq_getElem hi⟩; have HN := hid (nextS_at ht); obtain ⟨x, off, sg, a, n, c, e, hx, ⟨h0, h1, h2, h3, h4, h5, h6⟩, m⟩ := h.tok hG ht; have HM := hid m; have hB := h.bB; have hlt : (s.i : Int) < (G.X.ts.length : Int) := by omega
    rw [e] at c0; have hxB : x < w.heap.size := by omega
    have hxn : ¬ x = w.heap.size := by omega
    clear ht m e h; go_enter Tryz.func63, Tryz.ntmps63
    go_wp2_with fail
    go_quiet (fail)
    go_wp2_with fail
    go_region
    go_wp2_with fail
    refine bodyPost_ret (v := tokA t sg a n c) ?_ rfl ?_
    · simp [results, Tryz.results63, go_sem, tokA]
    refine ⟨sg, a, n, c, ?_, ?_, ?_⟩
    · rw [HN.out]; rfl
    · rw [HN.out]; exact HM.out
    · repeat (with_reducible first | refine bl_set ?_ (Nat.le_refl _) | refine Below.drew ?_ | refine Below.drewN ?_ _ | refine bl_alloc ?_ (Nat.le_refl _) | exact Below.refl _ _)
  · have HN := hid (nextS_end hi); have hlt : ¬ (s.i : Int) < (G.X.ts.length : Int) := by omega
    clear h; go_enter Tryz.func63, Tryz.ntmps63
    go_wp2_with fail
    go_quiet (fail)
    go_wp2_with fail
    refine bodyPost_ret (v := tokA tok0 false none 0 0) (by simp [results, Tryz.results63, go_sem, tokA, tok0]) rfl ⟨false, none, 0, 0, ?_, ?_, ?_⟩
    · rw [HN.out]; rfl
    · rw [HN.out]; exact mg0 _
    · repeat (with_reducible first | refine bl_set ?_ (Nat.le_refl _) | refine Below.drew ?_ | refine Below.drewN ?_ _ | refine bl_alloc ?_ (Nat.le_refl _) | exact Below.refl _ _)
theorem field_kind (w : World) (v0 v1 v2 v3 v4 v5 v6 : Value) : (Instr.field 75 (.agg #[v0, v1, v2, v3, v4, v5, v6]) 0).run Tryz.prog w = .ok v0 w := by kernel_rfl
theorem field_text (w : World) (v0 v1 v2 v3 v4 v5 v6 : Value) : (Instr.field 75 (.agg #[v0, v1, v2, v3, v4, v5, v6]) 1).run Tryz.prog w = .ok v1 w := by kernel_rfl
theorem contains_bytes (zs : List ByteArray) (l : List UInt8) : Lib.containsS zs ⟨l.toArray⟩ = (zs.map fun z => z.data.toList).contains l := by
  rw [Bool.eq_iff_iff, Lib.containsS_iff, List.contains_iff_mem, List.mem_map]
  constructor
  · intro h; exact ⟨_, h, rfl⟩
  · rintro ⟨z, hz, e⟩
    have : z = ⟨l.toArray⟩ := by
      cases z with
      | mk d => simp only at e; rw [← e]
    rw [← this]; exact hz
def StrB (w : World) (b : Nat) (zs : List ByteArray) : Prop := b < w.heap.size ∧ ∀ j, j < zs.length → w.cell? ⟨b, 0 + j, none⟩ = some (.string (zs.getD j ByteArray.empty))
theorem StrB.made (w : World) (zs : List ByteArray) (cs : Array Value) (T : TypeId) (h : cs = (zs.map Value.string).toArray) : StrB (w.alloc (.cells cs T)) w.heap.size zs := by
  refine ⟨by simp, fun j hj => ?_⟩; rw [Nat.zero_add, World.cell?_alloc_new, h, List.getElem?_toArray, List.getElem?_map, List.getD_eq_getElem?_getD, List.getElem?_eq_getElem hj]
  rfl
theorem StrB.made' (w : World) (b : Nat) (zs : List ByteArray) (cs : Array Value) (T : TypeId) (hb : b = w.heap.size) (h : cs = (zs.map Value.string).toArray) : StrB (w.alloc (.cells cs T)) b zs := by subst hb; exact StrB.made w zs cs T h
theorem StrB.below {w w' : World} {b : Nat} {zs : List ByteArray} (h : StrB w b zs) (hb : Below w.heap.size w w') : StrB w' b zs :=
  ⟨by have := h.1; have := hb.size; omega, fun j hj => (hb.cell (p := ⟨b, 0 + j, none⟩) h.1).trans (h.2 j hj)⟩
theorem sees_any {G : Gh} {M : Nat → Prop} {na : Option Addr} {nc : Nat} {fa : Option Addr} {fc : Nat} {w : World} {s : PSt} (hG : GOk G) (h : PS G M na nc fa fc w s) (b n : Nat) (zs : List ByteArray) (hn : zs.length = n) (hsm : n ≤ 100) (hc : StrB w b zs) :
    Calls Tryz.prog 22 #[.pointer (some ⟨G.bp, 0, none⟩), .slice (some ⟨b, 0, none⟩) n n] w fun e w' => e = .returned (.bool (seesS G.X (zs.map fun z => z.data.toList) s)) ∧ Below w.heap.size w w' := by
  have HN := hid hn; clear hn; have HC := hid hc; clear hc
  by_cases hk : (nextS G.X s).kind = 8
  · have HE : Hid (seesS G.X (zs.map fun z => z.data.toList) s = (zs.map fun z => z.data.toList).contains (nextS G.X s).text) := hid (by unfold seesS; rw [hk]; simp); have hb8 : (((nextS G.X s).kind : Int) == 8) = true := by rw [hk]; rfl
    clear hk; go_enter Tryz.func22, Tryz.ntmps22
    go_wp2_with (first
      | (go_at_call 63; refine (next_any hG h).mono ?_; rintro e w1 ⟨sg, am, nm, cm, rfl, hm, hb⟩; have HB := hid hb; clear hb hm)
      | (go_at_call 64; refine (Tryz.slices_Contains_string b 0 n n zs _ _ (Nat.le_of_eq HN.out.symm) (by omega) ((HC.out.below HB.out).below (below_alloc _ _)).2).mono ?_; rintro e w2 ⟨rfl, rfl⟩))
    go_ret; refine ⟨?_, ?_⟩
    · rw [HE.out, ← contains_bytes, ← HN.out, List.take_length]; rfl
    · exact HB.out.alloc HB.out.size _
  · have HE : Hid (seesS G.X (zs.map fun z => z.data.toList) s = false) := hid (by unfold seesS; simp [hk]); have hb8 : (((nextS G.X s).kind : Int) == 8) = false := by simp; omega
    clear hk; go_enter Tryz.func22, Tryz.ntmps22
    go_wp2_with (go_at_call 63; refine (next_any hG h).mono ?_; rintro e w1 ⟨sg, am, nm, cm, rfl, hm, hb⟩; have HB := hid hb; clear hb hm)
    go_ret; refine ⟨by rw [HE.out]; rfl, ?_⟩; exact HB.out.alloc HB.out.size _
def wrongE (X : Tx) (s : PSt) : Nat × Nat := match X.ts[s.i]? with | some t => (40, t.pos) | none => (31, X.en)
theorem wrong_eq {α : Type} (X : Tx) (s : PSt) : (wrong X : PM α) s = some (.error (wrongE X s)) := rfl
section
variable {G : Gh} {M : Nat → Prop} {na : Option Addr} {nc : Nat} {fa : Option Addr} {fc : Nat} {w : World} {s : PSt}
theorem wrong_any (hG : GOk G) (h : PS G M na nc fa fc w s) :
    Calls Tryz.prog 13 #[.pointer (some ⟨G.bp, 0, none⟩)] w fun e w' => e = thrown (wrongE G.X s).1 (wrongE G.X s).2 ∧ Below w.heap.size w w' := by
  have c0 := h.c0; have c1 := h.c1; have c2 := h.c2; have hf := hG.few
  by_cases hi : s.i < G.X.ts.length
  · obtain ⟨t, ht⟩ : ∃ t, G.X.ts[s.i]? = some t := ⟨_, List.getElem?_eq_getElem hi⟩; have HN : Hid (wrongE G.X s = (40, t.pos)) := hid (by unfold wrongE; rw [ht]); obtain ⟨x, off, sg, a, n, c, e, hx, ⟨h0, h1, h2, h3, h4, h5, h6⟩, m⟩ := h.tok hG ht; have hlt : (s.i : Int) < (G.X.ts.length : Int) := by omega
    rw [e] at c0; clear ht m e h h0 h1 h2 h3 h4 h5; go_enter Tryz.func13, Tryz.ntmps13
    go_wp2_with fail
    go_quiet (fail)
    go_wp2_with fail
    refine region_T (S := fun wx => wx.cell? ⟨G.bp, 0, none⟩ = some (.slice (some ⟨x, off, none⟩) G.X.ts.length G.lc) ∧ wx.cell? ⟨G.bp, 1, none⟩ = some (.int .i64 (s.i : Nat)) ∧ wx.cell? ⟨x, off + s.i * 7 + 6, none⟩ = some (.int .i64 (t.pos : Nat))) (T := fun j => false) (by kernel_rfl) ?_; have hS0 := And.intro (c0) (And.intro (c1) (h6)); refine tq 0 hS0 ?_; refine tq 1 hS0 ?_; refine tq 2 hS0 ?_; refine tq 3 hS0 ?_; refine tq 4 hS0 ?_; refine tq 5 hS0 ?_; refine tq 6 hS0 ?_; refine tq 7 hS0 ?_; refine tq 8 hS0 ?_; refine tq 9 hS0 ?_; refine tq 10 hS0 ?_; refine tq 11 hS0 ?_; refine tq 12 hS0 ?_; refine on1 13 fun K hK => ?_; go_simp; refine ⟨rfl, ?_, Below.drewN (Below.refl _ _) _⟩; rw [HN.out]; rfl
  · have HN : Hid (wrongE G.X s = (31, G.X.en)) := hid (by unfold wrongE; rw [List.getElem?_eq_none (by omega)]); have hlt : ¬ (s.i : Int) < (G.X.ts.length : Int) := by omega
    clear h; go_enter Tryz.func13, Tryz.ntmps13
    go_wp2_with fail
    go_quiet (fail)
    go_wp2_with fail
    go_simp; refine ⟨rfl, ?_, Below.drewN (Below.refl _ _) _⟩; rw [HN.out]; rfl
theorem takes_yes (hG : GOk G) (h : PS G M na nc fa fc w s) (word : List UInt8) (hs : seesS G.X [word] s = true) :
    Calls Tryz.prog 21 #[.pointer (some ⟨G.bp, 0, none⟩), .string ⟨word.toArray⟩] w fun e w' => e = .returned (.bool true) ∧ PS G M na nc fa fc w' { s with i := s.i + 1 } ∧ Kn G.B (Jp G) w w' := by
  have hi := sees_in hs; have hf := hG.few; have HS := hid hs; have hlt := h.lt; clear hs; go_enter Tryz.func21, Tryz.ntmps21
  go_wp2_with (go_at_call 22; refine (sees_any hG (h.alloc _) w.heap.size 1 [⟨word.toArray⟩] rfl (by omega) (StrB.made w [⟨word.toArray⟩] _ _ rfl)).mono ?_; rintro e w1 ⟨rfl, hb⟩; rw [show seesS G.X ([(⟨word.toArray⟩ : ByteArray)].map fun z => z.data.toList) s = true from HS.out]; have hp := (h.alloc (.cells #[.string ⟨word.toArray⟩] 9)).new hb; have HB := hid ((below_alloc w _).trans (hb.mono (by simp))); have d1 := hp.c1; have f1 := hp.fr 1; have HP := hid hp; clear hb hp)
  go_ret; exact ⟨rfl, HP.out.step (Nat.le_succ _) hi, (Kn.of HB.out h.bB).step HP.out rfl _⟩
theorem takes_no (hG : GOk G) (h : PS G M na nc fa fc w s) (word : List UInt8) (hs : ¬ seesS G.X [word] s = true) :
    Calls Tryz.prog 21 #[.pointer (some ⟨G.bp, 0, none⟩), .string ⟨word.toArray⟩] w fun e w' => e = .returned (.bool false) ∧ Below w.heap.size w w' := by
  have HS : Hid (seesS G.X [word] s = false) := hid (by simpa using hs); clear hs; go_enter Tryz.func21, Tryz.ntmps21
  go_wp2_with (go_at_call 22; refine (sees_any hG (h.alloc _) w.heap.size 1 [⟨word.toArray⟩] rfl (by omega) (StrB.made w [⟨word.toArray⟩] _ _ rfl)).mono ?_; rintro e w1 ⟨rfl, hb⟩; rw [show seesS G.X ([(⟨word.toArray⟩ : ByteArray)].map fun z => z.data.toList) s = false from HS.out]; have HB := hid ((below_alloc w _).trans (hb.mono (by simp))); clear hb)
  go_ret; exact ⟨rfl, HB.out⟩
theorem needs_yes (hG : GOk G) (h : PS G M na nc fa fc w s) (word : List UInt8) (hs : seesS G.X [word] s = true) :
    Calls Tryz.prog 66 #[.pointer (some ⟨G.bp, 0, none⟩), .string ⟨word.toArray⟩] w fun e w' => e = .returned (.tuple #[]) ∧ PS G M na nc fa fc w' { s with i := s.i + 1 } ∧ Kn G.B (Jp G) w w' := by
  have HS := hid hs; clear hs; go_enter Tryz.func66, Tryz.ntmps66
  go_wp2_with (go_at_call 21; refine (takes_yes hG h word HS.out).mono ?_; rintro e w1 ⟨rfl, hp, hk⟩; have HH := hid (And.intro hp hk); clear hp hk)
  go_end0; exact ⟨rfl, HH.out⟩
theorem needs_no (hG : GOk G) (h : PS G M na nc fa fc w s) (word : List UInt8) (hs : ¬ seesS G.X [word] s = true) :
    Calls Tryz.prog 66 #[.pointer (some ⟨G.bp, 0, none⟩), .string ⟨word.toArray⟩] w fun e w' => e = thrown (wrongE G.X s).1 (wrongE G.X s).2 ∧ Below w.heap.size w w' := by
  have HS := hid hs; clear hs; go_enter Tryz.func66, Tryz.ntmps66
  go_wp2_with (go_at_call 21; refine (takes_no hG h word HS.out).mono ?_; rintro e w1 ⟨rfl, hb⟩; have HB := hid hb; clear hb)
  refine (wrong_any hG (h.new HB.out)).mono ?_; rintro e w2 ⟨rfl, hb⟩; unfold thrown; go_simp; exact ⟨rfl, rfl, HB.out.trans (hb.mono HB.out.size)⟩
end
theorem dotted_eq (l : List UInt8) : decide (0 ≤ Lib.indexByte l 46) = dotted l := by
  unfold dotted; rw [Lib.contains_iff_indexByte]
section
variable {G : Gh} {M : Nat → Prop} {na : Option Addr} {nc : Nat} {fa : Option Addr} {fc : Nat} {w : World} {s : PSt}
theorem short_any (hG : GOk G) (h : PS G M na nc fa fc w s) (sym : Bool) :
    Calls Tryz.prog 97 #[.pointer (some ⟨G.bp, 0, none⟩), .bool sym] w fun e w' => e = .returned (.bool (shortP G.X sym s)) ∧ Below w.heap.size w w' := by
  have HS : Hid (shortP G.X sym s = ((nextS G.X s).kind == 1 && !dotted (nextS G.X s).text || sym && ((nextS G.X s).kind == 2 || seesS G.X [[61]] s))) := hid rfl; generalize shortP G.X sym s = r at HS ⊢; have HT : Hid (nextS G.X s = nextS G.X s) := hid rfl
  by_cases h1 : (nextS G.X s).kind = 1
  · have e1 : (((nextS G.X s).kind : Int) == 1) = true := by rw [h1]; rfl
    have e2 : (((nextS G.X s).kind : Int) == 2) = false := by rw [h1]; rfl
    have hk8 : Hid (seesS G.X [[61]] s = false) := hid (by unfold seesS; rw [h1]; rfl)
    rcases hd : dotted (nextS G.X s).text with _ | _
    · have hr : r = true := by rw [HS.out, h1, hd]; rfl
      have HR := hid hr; have HD := hid ((dotted_eq _).trans hd); clear hr hd h1 HS; go_enter Tryz.func97, Tryz.ntmps97
      go_wp2_with (first
        | (go_at_call 63; refine (next_any hG h).mono ?_; rintro e w1 ⟨sg, am, nm, cm, rfl, hm, hb⟩; have HB := hid hb; clear hb hm)
        | (go_at_call 94; refine (Tryz.strings_Contains_one _ 46 _).mono ?_; rintro e w2 ⟨rfl, rfl⟩; rw [HD.out]))
      go_ret; refine ⟨by rw [HR.out]; rfl, HB.out.alloc HB.out.size _⟩
    · cases sym with
      | false =>
        have hr : r = false := by rw [HS.out, h1, hd]; rfl
        have HR := hid hr; have HD := hid ((dotted_eq _).trans hd); clear hr hd h1 HS; go_enter Tryz.func97, Tryz.ntmps97
        go_wp2_with (first
          | (go_at_call 63; refine (next_any hG h).mono ?_; rintro e w1 ⟨sg, am, nm, cm, rfl, hm, hb⟩; have HB := hid hb; clear hb hm)
          | (go_at_call 94; refine (Tryz.strings_Contains_one _ 46 _).mono ?_; rintro e w2 ⟨rfl, rfl⟩; rw [HD.out]))
        go_ret; refine ⟨by rw [HR.out]; rfl, HB.out.alloc HB.out.size _⟩
      | true =>
        have hr : r = false := by rw [HS.out, h1, hd, hk8.out]; rfl
        have HR := hid hr; have HD := hid ((dotted_eq _).trans hd); clear hr hd h1 HS; go_enter Tryz.func97, Tryz.ntmps97
        go_wp2_with (first
          | (go_at_call 63; refine (next_any hG h).mono ?_; rintro e w1 ⟨sg, am, nm, cm, rfl, hm, hb⟩; have HB := hid hb; clear hb hm)
          | (go_at_call 94; refine (Tryz.strings_Contains_one _ 46 _).mono ?_; rintro e w2 ⟨rfl, rfl⟩; rw [HD.out])
          | (go_at_call 22; refine (sees_any hG ((((h.new HB.out).alloc _)).alloc _) (w1.heap.size + 1) 1 [⟨([61] : List UInt8).toArray⟩] rfl (by omega) (StrB.made' _ _ [⟨([61] : List UInt8).toArray⟩] _ _ (by simp) rfl)).mono ?_; rintro e w3 ⟨rfl, hb3⟩; rw [show seesS G.X ([(⟨([61] : List UInt8).toArray⟩ : ByteArray)].map fun z => z.data.toList) s = false from hk8.out]; have HB3 := hid hb3; clear hb3))
        go_ret; refine ⟨by rw [HR.out]; rfl, ((HB.out.alloc HB.out.size _).alloc (by have := HB.out.size; simp; omega) _).trans (HB3.out.mono (by have := HB.out.size; simp; omega))⟩
  · have e1 : (((nextS G.X s).kind : Int) == 1) = false := by simp; omega
    cases sym with
    | false =>
      have hr : r = false := by rw [HS.out]; simp [h1]
      have HR := hid hr; clear hr h1 HS; go_enter Tryz.func97, Tryz.ntmps97
      go_wp2_with (first
        | (go_at_call 63; refine (next_any hG h).mono ?_; rintro e w1 ⟨sg, am, nm, cm, rfl, hm, hb⟩; have HB := hid hb; clear hb hm))
      go_ret; refine ⟨by rw [HR.out]; rfl, HB.out.alloc HB.out.size _⟩
    | true =>
      by_cases h2 : (nextS G.X s).kind = 2
      · have e2 : (((nextS G.X s).kind : Int) == 2) = true := by rw [h2]; rfl
        have hr : r = true := by rw [HS.out, h2]; rfl
        have HR := hid hr; clear hr h1 h2 HS; go_enter Tryz.func97, Tryz.ntmps97
        go_wp2_with (first
          | (go_at_call 63; refine (next_any hG h).mono ?_; rintro e w1 ⟨sg, am, nm, cm, rfl, hm, hb⟩; have HB := hid hb; clear hb hm))
        go_ret; refine ⟨by rw [HR.out]; rfl, HB.out.alloc HB.out.size _⟩
      · have e2 : (((nextS G.X s).kind : Int) == 2) = false := by simp; omega
        have a1 : ((nextS G.X s).kind == 1) = false := by simpa using h1
        have a2 : ((nextS G.X s).kind == 2) = false := by simpa using h2
        have hr : r = seesS G.X [[61]] s := by rw [HS.out, a1, a2]; rfl
        have HR := hid hr; clear hr h1 h2 HS a1 a2; go_enter Tryz.func97, Tryz.ntmps97
        go_wp2_with (first
          | (go_at_call 63; refine (next_any hG h).mono ?_; rintro e w1 ⟨sg, am, nm, cm, rfl, hm, hb⟩; have HB := hid hb; clear hb hm)
          | (go_at_call 22; refine (sees_any hG ((((h.new HB.out).alloc _)).alloc _) (w1.heap.size + 1) 1 [⟨([61] : List UInt8).toArray⟩] rfl (by omega) (StrB.made' _ _ [⟨([61] : List UInt8).toArray⟩] _ _ (by simp) rfl)).mono ?_; rintro e w3 ⟨rfl, hb3⟩; have HB3 := hid hb3; clear hb3))
        go_ret; refine ⟨?_, ((HB.out.alloc HB.out.size _).alloc (by have := HB.out.size; simp; omega) _).trans (HB3.out.mono (by have := HB.out.size; simp; omega))⟩; rw [HR.out]; rfl
end
section
variable {G : Gh} {M : Nat → Prop} {na : Option Addr} {nc : Nat} {fa : Option Addr} {fc : Nat} {w : World} {s : PSt}
theorem name_yes (hG : GOk G) (h : PS G M na nc fa fc w s) (sym : Bool) (hs : shortP G.X sym s = true) :
    Calls Tryz.prog 73 #[.pointer (some ⟨G.bp, 0, none⟩), .bool sym] w fun e w' => e = .returned (.string ⟨(nextS G.X s).text.toArray⟩) ∧ PS G M na nc fa fc w' { s with i := s.i + 1 } ∧ Kn G.B (Jp G) w w' := by
  have hi := short_in hs; have hf := hG.few; obtain ⟨t, ht⟩ : ∃ t, G.X.ts[s.i]? = some t := ⟨_, List.getElem?_eq_getElem hi⟩; rw [nextS_at ht]; have HT := hid ht; have HS := hid hs; clear hs ht; go_enter Tryz.func73, Tryz.ntmps73
  go_wp2_with (go_at_call 97; refine (short_any hG h sym).mono ?_; rintro e w1 ⟨rfl, hb⟩; rw [HS.out]; have hp := h.new hb; have HB := hid hb; have d1 := hp.c1; have f1 := hp.fr 1; have HP := hid hp; clear hb hp)
  have hp2 := HP.out.step1 hi; have hk2 := (Kn.of HB.out h.bB).step HP.out rfl (.int .i64 ((s.i : Int) + 1)); generalize w1.setCell ⟨G.bp, 1, none⟩ (.int .i64 ((s.i : Int) + 1)) = W2 at hp2 hk2 ⊢; obtain ⟨x, off, sg, a, n, c, e, hx, ⟨_, k1, _⟩, _⟩ := hp2.tok hG HT.out; have c0 := hp2.c0; have c1 : W2.cell? ⟨G.bp, 1, none⟩ = some (.int .i64 ((s.i : Int) + 1)) := hp2.c1; rw [e] at c0; have hw1 : IntKind.i64.wrap ((s.i : Int) + 1 - 1) = (s.i : Int) := by rw [Int.add_sub_cancel]; exact IntWalk.i64_in _ (by omega)
  have hlt : (s.i : Int) < (G.X.ts.length : Int) := by omega
  have hnn : (0 : Int) ≤ (s.i : Int) := by omega
  have HH := hid (And.intro hp2 hk2); clear hp2 hk2 e d1 f1
  go_wp2_with fail
  go_quiet (fail)
  go_wp2_with fail
  go_ret; exact ⟨rfl, HH.out.1.drewN _, HH.out.2.drewN _⟩
theorem name_no (hG : GOk G) (h : PS G M na nc fa fc w s) (sym : Bool) (hs : ¬ shortP G.X sym s = true) :
    Calls Tryz.prog 73 #[.pointer (some ⟨G.bp, 0, none⟩), .bool sym] w fun e w' => e = thrown (wrongE G.X s).1 (wrongE G.X s).2 ∧ Below w.heap.size w w' := by
  have HS : Hid (shortP G.X sym s = false) := hid (by simpa using hs); clear hs; go_enter Tryz.func73, Tryz.ntmps73
  go_wp2_with (go_at_call 97; refine (short_any hG h sym).mono ?_; rintro e w1 ⟨rfl, hb⟩; rw [HS.out]; have HB := hid hb; clear hb)
  refine (wrong_any hG (h.new HB.out)).mono ?_; rintro e w2 ⟨rfl, hb⟩; unfold thrown; go_simp; exact ⟨rfl, rfl, HB.out.trans (hb.mono HB.out.size)⟩
end
end Go.Proofs.YtkblonfmjlopaaaGreatDoor
