/-
  begin, walked.
-/
import Derived.Test.YtkblonfmjlopaaaGreatDoorSySet
import Derived.Test.YtkblonfmjlopaaaGreatDoorSyLs
import Derived.Test.YtkblonfmjlopaaaGreatDoorSyMk
import Derived.Deep.Cut
import Derived.Deep.LoopGhost
import Derived.Test.YtkblonfmjlopaaaGreatDoorSxT
import Derived.Test.YtkblonfmjlopaaaGreatDoorSyDp
import Derived.Test.YtkblonfmjlopaaaGreatDoorSyRet
import Derived.Test.YtkblonfmjlopaaaGreatDoorRegTIn
set_option linter.all false
set_option maxRecDepth 1000000
set_option maxHeartbeats 16000000
namespace Go.Proofs.YtkblonfmjlopaaaGreatDoor
open Go Go.RowKit
def rowS (i : Nat) : List UInt8 := [[42, 32, 47, 32, 100, 105, 118, 32, 109, 111, 100], [43, 32, 45, 32, 94], [58, 58, 32, 64], [61, 32, 60, 62, 32, 60, 32, 60, 61, 32, 62, 32, 62, 61], [58, 61, 32, 111]][i]?.getD []
def rowF (i : Nat) : List (List UInt8) := [[[42], [47], [100, 105, 118], [109, 111, 100]], [[43], [45], [94]], [[58, 58], [64]], [[61], [60, 62], [60], [60, 61], [62], [62, 61]], [[58, 61], [111]]][i]?.getD []
def rowO (i : Nat) : Nat := [0, 4, 7, 9, 15, 17][i]?.getD 17
theorem row_fields : ∀ i, i < 5 → Lib.fields (rowS i) = rowF i := by decide +kernel
theorem row_ascii : ∀ i, i < 5 → ∀ b ∈ rowS i, b.toNat < 128 := by decide
theorem row_len : ∀ i, i < 5 → (rowS i).length ≤ 100 ∧ rowO (i + 1) = rowO i + (rowF i).length ∧ (rowF i).length ≤ 100 ∧ rowO i ≤ 17 := by decide
theorem row_at (i : Nat) (hi : i < 5) (j : Nat) (hj : j < (rowF i).length) : begin0[rowO i + j]? = some ⟨(rowF i)[j]?.getD [], 7 - (i : Int), ((i : Int) == 2)⟩ := by
  have h : i = 0 ∨ i = 1 ∨ i = 2 ∨ i = 3 ∨ i = 4 := by omega
  rcases h with rfl | rfl | rfl | rfl | rfl
  · have h2 : j = 0 ∨ j = 1 ∨ j = 2 ∨ j = 3 := by have : (rowF 0).length = 4 := rfl; omega
    rcases h2 with rfl | rfl | rfl | rfl <;> rfl
  · have h2 : j = 0 ∨ j = 1 ∨ j = 2 := by have : (rowF 1).length = 3 := rfl; omega
    rcases h2 with rfl | rfl | rfl <;> rfl
  · have h2 : j = 0 ∨ j = 1 := by have : (rowF 2).length = 2 := rfl; omega
    rcases h2 with rfl | rfl <;> rfl
  · have h2 : j = 0 ∨ j = 1 ∨ j = 2 ∨ j = 3 ∨ j = 4 ∨ j = 5 := by have : (rowF 3).length = 6 := rfl; omega
    rcases h2 with rfl | rfl | rfl | rfl | rfl | rfl <;> rfl
  · have h2 : j = 0 ∨ j = 1 := by have : (rowF 4).length = 2 := rfl; omega
    rcases h2 with rfl | rfl <;> rfl
structure BG (w : World) (k : Nat) (na : Option Addr) (nc : Nat) (hn : Nat → Value) (fa : Option Addr) (fc : Nat) (hf : Nat → Value) (wr : World) : Prop where
  bl : Below w.heap.size w wr
  bs : w.heap.size + 3 ≤ wr.heap.size
  bx : BxC wr (w.heap.size + 1) #[.slice na k nc, .slice fa k fc]
  an : ArrS wr na k nc 1 hn
  wn : New wr (w.heap.size + 1) na (nc * 1)
  af : ArrS wr fa k fc 2 hf
  wf : New wr (w.heap.size + 1) fa (fc * 2)
  ln : ∀ b o, na = some ⟨b, o, none⟩ → b < wr.heap.size ∧ w.heap.size + 3 ≤ b
  lf : ∀ b o, fa = some ⟨b, o, none⟩ → b < wr.heap.size ∧ w.heap.size + 3 ≤ b
  nf : ∀ b o1 o2, na = some ⟨b, o1, none⟩ → fa = some ⟨b, o2, none⟩ → False
  rs : BxC wr w.heap.size #[.slice none 0 0, .slice none 0 0]
  rw : ∀ i, i < 5 → wr.cell? ⟨w.heap.size + 2, i, none⟩ = some (.string ⟨(rowS i).toArray⟩)
  ct : ∀ j f, j < k → begin0[j]? = some f → hn j = .string ⟨f.name.toArray⟩ ∧ hf (2 * j) = .int .i64 f.level ∧ hf (2 * j + 1) = .bool f.right
section
variable {w wr w2 : World} {k : Nat} {na fa : Option Addr} {nc fc : Nat} {hn hf : Nat → Value}
theorem BG.below (h : BG w k na nc hn fa fc hf wr) (hb : Below wr.heap.size wr w2) : BG w k na nc hn fa fc hf w2 :=
  ⟨h.bl.trans (hb.mono (by have := h.bs; omega)), Nat.le_trans h.bs hb.size, h.bx.bl hb, h.an.blocks (fun b o e => hb.block b (h.ln b o e).1), h.wn.blocks (fun b o e => hb.block b (h.ln b o e).1), h.af.blocks (fun b o e => hb.block b (h.lf b o e).1), h.wf.blocks (fun b o e => hb.block b (h.lf b o e).1),
    fun b o e => ⟨Nat.lt_of_lt_of_le (h.ln b o e).1 hb.size, (h.ln b o e).2⟩, fun b o e => ⟨Nat.lt_of_lt_of_le (h.lf b o e).1 hb.size, (h.lf b o e).2⟩, h.nf, h.rs.bl hb, fun i hi => (hb.cell (p := ⟨w.heap.size + 2, i, none⟩) (by have := h.bs; show w.heap.size + 2 < _; omega)).trans (h.rw i hi), h.ct⟩
theorem BG.push {nm : List UInt8} {lv : Int} {rt : Bool} {tb nc1 fc1 : Nat} {na1 fa1 : Option Addr} {r1 r2 : Nat → Value} (h : BG w k na nc hn fa fc hf wr) (hk : begin0[k]? = some ⟨nm, lv, rt⟩)
    (s : SF wr na fa (w.heap.size + 1) (w.heap.size + 1) tb #[.slice na1 (k + 1) nc1, .slice fa1 (k + 1) fc1] #[.int .i64 lv, .bool rt] na1 (k + 1) nc1 (catS hn (k * 1) 1 (cellAt #[.string ⟨nm.toArray⟩]) r1) fa1 (k + 1) fc1 (catS hf (k * 2) 2 (cellAt #[.int .i64 lv, .bool rt]) r2) w2) :
    BG w (k + 1) na1 nc1 (catS hn (k * 1) 1 (cellAt #[.string ⟨nm.toArray⟩]) r1) fa1 fc1 (catS hf (k * 2) 2 (cellAt #[.int .i64 lv, .bool rt]) r2) w2 := by
  have hbs := h.bs; have hsz := s.sz; have hkp : w2.heap[w.heap.size + 2]? = wr.heap[w.heap.size + 2]? := s.kp _ (by omega) (by omega) (fun o e => by have := (h.ln _ o e).2; omega) (fun o e => by have := (h.lf _ o e).2; omega)
  refine ⟨h.bl.trans (s.bl.mono (Nat.le_succ _)), by omega, s.bx, s.an, s.wn, s.af, s.wf, fun b o e => ⟨(s.ln b o e).1, ?_⟩, fun b o e => ⟨(s.lf b o e).1, ?_⟩, s.nf, h.rs.keep (s.bl.block _ (Nat.lt_succ_self _)) hsz,
    fun i hi => (World.cell?_of_block (w := wr) (a := ⟨w.heap.size + 2, i, none⟩) hkp).trans (h.rw i hi), fun j f hj hf' => ?_⟩
  · rcases s.n0 b o e with q | q
    · exact (h.ln b o q).2
    · omega
  · rcases s.f0 b o e with q | q
    · exact (h.lf b o q).2
    · omega
  · by_cases hjk : j < k
    · obtain ⟨c1, c2, c3⟩ := h.ct j f hjk hf'; refine ⟨?_, ?_, ?_⟩
      · unfold catS; rw [if_pos (by omega)]; exact c1
      · unfold catS; rw [if_pos (by omega)]; exact c2
      · unfold catS; rw [if_pos (by omega)]; exact c3
    · obtain rfl : j = k := by omega
      rw [hk] at hf'; cases hf'; refine ⟨?_, ?_, ?_⟩
      · unfold catS; rw [if_neg (by omega), if_pos (by omega), Nat.mul_one, Nat.sub_self]; rfl
      · unfold catS; rw [if_neg (by omega), if_pos (by omega), show 2 * j - j * 2 = 0 by omega]; rfl
      · unfold catS; rw [if_neg (by omega), if_pos (by omega), show 2 * j + 1 - j * 2 = 1 by omega]; rfl
end
theorem begin_any (w : World) (htab : ∀ w', Below w.heap.size w w' → Lib.TabIs Tryz.prog w' "strings.asciiSpace" .u8 Lib.asciiSpaceTab) :
    Calls Tryz.prog 11 #[] w fun e w' => ∃ na nc fa fc, e = .returned (.agg #[.slice na 17 nc, .slice fa 17 fc]) ∧ Below w.heap.size w w' ∧ Scp w' w.heap.size na nc fa fc begin0 ∧ (∀ b o, na = some ⟨b, o, none⟩ → b < w'.heap.size ∧ w.heap.size ≤ b) ∧ (∀ b o, fa = some ⟨b, o, none⟩ → b < w'.heap.size ∧ w.heap.size ≤ b) ∧ ∀ b o1 o2, na = some ⟨b, o1, none⟩ → fa = some ⟨b, o2, none⟩ → False := by
  have HTAB := hid htab; clear htab; go_enter Tryz.func11, Tryz.ntmps11
  go_upto_region 3 with fail
  have hs1 : (w.alloc (.cells #[.slice none 0 0, .slice none 0 0] 52)).heap.size = w.heap.size + 1 := by simp
  have hs2 : ((w.alloc (.cells #[.slice none 0 0, .slice none 0 0] 52)).alloc (.cells #[.slice none 0 0, .slice none 0 0] 52)).heap.size = w.heap.size + 2 := by simp
  have hs3 : (((w.alloc (.cells #[.slice none 0 0, .slice none 0 0] 52)).alloc (.cells #[.slice none 0 0, .slice none 0 0] 52)).alloc (.cells #[.string ⟨#[42, 32, 47, 32, 100, 105, 118, 32, 109, 111, 100]⟩, .string ⟨#[43, 32, 45, 32, 94]⟩, .string ⟨#[58, 58, 32, 64]⟩, .string ⟨#[61, 32, 60, 62, 32, 60, 32, 60, 61, 32, 62, 32, 62, 61]⟩, .string ⟨#[58, 61, 32, 111]⟩] 9)).heap.size = w.heap.size + 3 := by simp
  have b1 := below_alloc w (.cells #[.slice none 0 0, .slice none 0 0] 52); have b2 := below_alloc (w.alloc (.cells #[.slice none 0 0, .slice none 0 0] 52)) (.cells #[.slice none 0 0, .slice none 0 0] 52); have b3 := below_alloc ((w.alloc (.cells #[.slice none 0 0, .slice none 0 0] 52)).alloc (.cells #[.slice none 0 0, .slice none 0 0] 52)) (.cells #[.string ⟨#[42, 32, 47, 32, 100, 105, 118, 32, 109, 111, 100]⟩, .string ⟨#[43, 32, 45, 32, 94]⟩, .string ⟨#[58, 58, 32, 64]⟩, .string ⟨#[61, 32, 60, 62, 32, 60, 32, 60, 61, 32, 62, 32, 62, 61]⟩, .string ⟨#[58, 61, 32, 111]⟩] 9)
  have HB0 : Hid (BG w (rowO 0) none 0 (fun _ => .bool false) none 0 (fun _ => .bool false) (((w.alloc (.cells #[.slice none 0 0, .slice none 0 0] 52)).alloc (.cells #[.slice none 0 0, .slice none 0 0] 52)).alloc (.cells #[.string ⟨#[42, 32, 47, 32, 100, 105, 118, 32, 109, 111, 100]⟩, .string ⟨#[43, 32, 45, 32, 94]⟩, .string ⟨#[58, 58, 32, 64]⟩, .string ⟨#[61, 32, 60, 62, 32, 60, 32, 60, 61, 32, 62, 32, 62, 61]⟩, .string ⟨#[58, 61, 32, 111]⟩] 9))) := hid ⟨(b1.trans (b2.mono (by omega))).trans (b3.mono (by omega)), by omega, (BxC.new' _ (w.heap.size + 1) _ 52 hs1.symm).bl b3, nil_arr, nil_new, nil_arr, nil_new, fun _ _ e => (by cases e), fun _ _ e => (by cases e), fun _ _ _ e => (by cases e), ((BxC.new w _ 52).bl b2).bl b3, fun i hi => by
    have h := BxC.new' ((w.alloc (.cells #[.slice none 0 0, .slice none 0 0] 52)).alloc (.cells #[.slice none 0 0, .slice none 0 0] 52)) (w.heap.size + 2) #[.string ⟨#[42, 32, 47, 32, 100, 105, 118, 32, 109, 111, 100]⟩, .string ⟨#[43, 32, 45, 32, 94]⟩, .string ⟨#[58, 58, 32, 64]⟩, .string ⟨#[61, 32, 60, 62, 32, 60, 32, 60, 61, 32, 62, 32, 62, 61]⟩, .string ⟨#[58, 61, 32, 111]⟩] 9 hs2.symm; have h2 := h.2.2 i hi; rw [Nat.zero_add] at h2; have h5 : i = 0 ∨ i = 1 ∨ i = 2 ∨ i = 3 ∨ i = 4 := by omega
    rcases h5 with rfl | rfl | rfl | rfl | rfl <;> exact h2, fun j f hj => absurd hj (Nat.not_lt_zero j)⟩
  clear b1 b2 b3 hs1 hs2 hs3; generalize ((w.alloc (.cells #[.slice none 0 0, .slice none 0 0] 52)).alloc (.cells #[.slice none 0 0, .slice none 0 0] 52)).alloc (.cells #[.string ⟨#[42, 32, 47, 32, 100, 105, 118, 32, 109, 111, 100]⟩, .string ⟨#[43, 32, 45, 32, 94]⟩, .string ⟨#[58, 58, 32, 64]⟩, .string ⟨#[61, 32, 60, 62, 32, 60, 32, 60, 61, 32, 62, 32, 62, 61]⟩, .string ⟨#[58, 61, 32, 111]⟩] 9) = W0 at HB0 ⊢
  go_loopg [8] 5 (fun g iv wr => ∃ i na nc hn fa fc hf, iv = .int .i64 (i : Nat) ∧ g + i = 5 ∧ Hid (BG w (rowO i) na nc hn fa fc hf wr))
  case atStart => exact ⟨0, none, 0, _, none, 0, _, rfl, rfl, HB0⟩
  case round =>
  clear HB0; obtain ⟨i, na, nc, hn, fa, fc, hf, rfl, hgi, HB1⟩ := hrel
  by_cases hi : i < 5
  · have hlt : (i : Int) < 5 := by omega
    have w0 : wr.cell? ⟨w.heap.size + 2, i, none⟩ = some (.string ⟨(rowS i).toArray⟩) := HB1.out.rw i hi; have HTB := hid (HTAB.out wr HB1.out.bl); have HFL : Hid (Lib.fields (⟨(rowS i).toArray⟩ : ByteArray).data.toList = rowF i) := hid (by simpa using row_fields i hi); have hln := row_len i hi; have HASC : Hid (∀ (j : Nat) b, (⟨(rowS i).toArray⟩ : ByteArray).data.toList[j]? = some b → b.toNat < 128) := hid (fun j b hb => row_ascii i hi b (List.mem_of_getElem? hb)); have HSZ : Hid ((⟨(rowS i).toArray⟩ : ByteArray).size < 4294967281) := hid (by show (rowS i).toArray.size < _; simp; omega)
    go_upto_region 6 with (go_at_call 19; refine (Tryz.strings_Fields ⟨(rowS i).toArray⟩ wr HSZ.out HASC.out HTB.out).mono ?_; rintro e w2 ⟨rfl, rfl⟩; rw [HFL.out])
    have hF : ∀ j, j < (rowF i).length → (wr.alloc (.cells ((rowF i).map fun l => Value.string ⟨l.toArray⟩).toArray 9)).cell? ⟨wr.heap.size, j, none⟩ = some (.string ⟨((rowF i)[j]?.getD []).toArray⟩) := fun j hj => by
      rw [World.cell?_alloc_new]; simp [hj]
    have HB2 := hid (HB1.out.below (below_alloc wr (.cells ((rowF i).map fun l => Value.string ⟨l.toArray⟩).toArray 9)))
    have HX2 : Hid (wr.heap.size < (wr.alloc (.cells ((rowF i).map fun l => Value.string ⟨l.toArray⟩).toArray 9)).heap.size ∧ w.heap.size + 3 ≤ wr.heap.size ∧ (∀ b o, na = some ⟨b, o, none⟩ → b ≠ wr.heap.size) ∧ (∀ b o, fa = some ⟨b, o, none⟩ → b ≠ wr.heap.size)) :=
      hid ⟨by simp, HB1.out.bs, fun b o e => by have := (HB1.out.ln b o e).1; omega, fun b o e => by have := (HB1.out.lf b o e).1; omega⟩
    have HF2 := hid hF; clear hF HTB HFL HASC HSZ w0 HB1; obtain ⟨fb, hfb⟩ : ∃ fb, wr.heap.size = fb := ⟨_, rfl⟩; rw [hfb] at HX2 HF2 ⊢; generalize wr.alloc (.cells ((rowF i).map fun l => Value.string ⟨l.toArray⟩).toArray 9) = W2 at HB2 HX2 HF2 ⊢; clear hfb
    go_loopg [16] (rowF i).length (fun g2 jv wr2 => ∃ j na nc hn fa fc hf, jv = .int .i64 (j : Nat) ∧ g2 + j = (rowF i).length ∧ Hid (BG w (rowO i + j) na nc hn fa fc hf wr2) ∧ Hid (∀ j, j < (rowF i).length → wr2.cell? ⟨fb, j, none⟩ = some (.string ⟨((rowF i)[j]?.getD []).toArray⟩)) ∧ Hid (fb < wr2.heap.size ∧ w.heap.size + 3 ≤ fb ∧ (∀ b o, na = some ⟨b, o, none⟩ → b ≠ fb) ∧ (∀ b o, fa = some ⟨b, o, none⟩ → b ≠ fb)))
    case atStart => exact ⟨0, na, nc, hn, fa, fc, hf, rfl, by omega, HB2, HF2, HX2⟩
    case round =>
    clear HB2 HF2 HX2; obtain ⟨j, na, nc, hn, fa, fc, hf, rfl, hgj, HB3, HF3, HX3⟩ := hrel
    by_cases hj : j < (rowF i).length
    · have hjl : (j : Int) < ((rowF i).length : Int) := by omega
      have w1 : wr.cell? ⟨fb, j, none⟩ = some (.string ⟨((rowF i)[j]?.getD []).toArray⟩) := HF3.out j hj; have HAT := hid (row_at i hi j hj); obtain ⟨nm, hnm⟩ : ∃ nm, (rowF i)[j]?.getD [] = nm := ⟨_, rfl⟩; rw [hnm] at w1 HAT; clear hnm; obtain ⟨lv, hlv⟩ : ∃ lv : Int, 7 - (i : Int) = lv := ⟨_, rfl⟩; rw [hlv] at HAT; obtain ⟨rt, hrt⟩ : ∃ rt : Bool, ((i : Int) == 2) = rt := ⟨_, rfl⟩; rw [hrt] at HAT; have hw7 : IntKind.i64.wrap (7 - (i : Int)) = lv := by rw [IntKind.wrap_i64]; omega
      have HLE : Hid (rowO i + j ≤ 100000) := hid (by omega)
      go_wp2_with (go_at_call 20; refine (set_any wr (w.heap.size + 1) (w.heap.size + 1) na nc hn fa fc hf (rowO i + j) nm lv rt HLE.out (Nat.le_refl _) (by have := HB3.out.bs; omega) HB3.out.bx HB3.out.an HB3.out.wn HB3.out.af HB3.out.wf (fun b o e => ⟨(HB3.out.ln b o e).1, by have := (HB3.out.ln b o e).2; omega⟩) (fun b o e => ⟨(HB3.out.lf b o e).1, by have := (HB3.out.lf b o e).2; omega⟩) HB3.out.nf).mono ?_; rintro e w3 ⟨rfl, tb, na1, nc1, r1, fa1, fc1, r2, hsf⟩; have HB4 := hid (HB3.out.push HAT.out hsf); have HK4 := hid (hsf.kp fb HX3.out.1 (by have := HX3.out.2.1; omega) (fun o e => HX3.out.2.2.1 fb o e rfl) (fun o e => HX3.out.2.2.2 fb o e rfl)); have HX4 : Hid (fb < w3.heap.size ∧ w.heap.size + 3 ≤ fb ∧ (∀ b o, na1 = some ⟨b, o, none⟩ → b ≠ fb) ∧ (∀ b o, fa1 = some ⟨b, o, none⟩ → b ≠ fb)) := hid ⟨Nat.lt_of_lt_of_le HX3.out.1 hsf.sz, HX3.out.2.1, fun b o e => (hsf.n0 b o e).elim (fun q => HX3.out.2.2.1 b o q) (fun q => by have := HX3.out.1; omega), fun b o e => (hsf.f0 b o e).elim (fun q => HX3.out.2.2.2 b o q) (fun q => by have := HX3.out.1; omega)⟩; clear hsf)
      go_roundg (gk - 1)
      case measure => omega
      case rel => exact ⟨j + 1, na1, nc1, _, fa1, fc1, _, rfl, by omega, HB4, hid (fun j2 hj2 => (World.cell?_of_block (w := wr) (a := ⟨fb, j2, none⟩) HK4.out).trans (HF3.out j2 hj2)), HX4⟩
    · have hjl : ¬ (j : Int) < ((rowF i).length : Int) := by omega
      obtain rfl : j = (rowF i).length := by omega
      go_wp2_with fail
      go_roundg (4 - i)
      case measure => omega
      case rel => exact ⟨i + 1, na, nc, hn, fa, fc, hf, rfl, by omega, hid (by rw [hln.2.1]; exact HB3.out)⟩
  · have hlt : ¬ (i : Int) < 5 := by omega
    obtain rfl : i = 5 := by omega
    obtain ⟨b0, b1⟩ := bx2 HB1.out.bx.2.2; obtain ⟨z0, z1⟩ := bx2 HB1.out.rs.2.2; have zf := HB1.out.rs.2.1
    go_wp2_with fail
    obtain ⟨g1, g2, g3, g4⟩ := HB1.out.rs.store [.slice na 17 nc, .slice fa 17 fc] rfl; change bodyPost _ _ _ _ _ (wr.setCells w.heap.size 0 [.slice na 17 nc, .slice fa 17 fc]); have HW := hid (And.intro g1 (And.intro g2 (And.intro g3 g4))); clear b0 b1 z0 z1 zf g1 g2 g3 g4; generalize wr.setCells w.heap.size 0 [.slice na 17 nc, .slice fa 17 fc] = W9 at HW ⊢; obtain ⟨r0, r1⟩ := bx2 HW.out.1.2.2; have hne : ∀ b o, na = some ⟨b, o, none⟩ → W9.heap[b]? = wr.heap[b]? := fun b o e => HW.out.2.1 b (by have := (HB1.out.ln b o e).2; omega); have hfe : ∀ b o, fa = some ⟨b, o, none⟩ → W9.heap[b]? = wr.heap[b]? := fun b o e => HW.out.2.1 b (by have := (HB1.out.lf b o e).2; omega); have hz := HW.out.2.2.1; refine bodyPost_ret (v := .agg #[.slice na 17 nc, .slice fa 17 fc]) (by simp [results, Tryz.results11, go_sem, r0, r1]) rfl ⟨na, nc, fa, fc, rfl, HB1.out.bl.trans HW.out.2.2.2, ⟨hn, hf, HB1.out.an.blocks hne, HB1.out.af.blocks hfe, (HB1.out.wn.mono (Nat.le_succ _)).blocks hne, (HB1.out.wf.mono (Nat.le_succ _)).blocks hfe, fun j f h => HB1.out.ct j f (by have := (List.getElem?_eq_some_iff.1 h).1; exact this) h⟩, fun b o e => ⟨by rw [hz]; exact (HB1.out.ln b o e).1, by have := (HB1.out.ln b o e).2; omega⟩, fun b o e => ⟨by rw [hz]; exact (HB1.out.lf b o e).1, by have := (HB1.out.lf b o e).2; omega⟩, HB1.out.nf⟩
section
mutual
def GdT : Tr → Prop
  | .v _ => True
  | .big _ => True
  | .sl es => GdL es
def GdR : List Tr → Prop
  | [] => True
  | t :: r => GdT t ∧ GdR r
def GdL : List (List Tr) → Prop
  | [] => True
  | r :: rs => (2 ≤ widN r ∨ ∃ s, r = [.v (.string s)]) ∧ GdR r ∧ GdL rs
end
section
variable {w : World} {F : Nat → Prop} {lb : Nat}
mutual
theorem RepT.avoid (hc : ∃ a n c, w.cell? ⟨lb, 0, none⟩ = some (.slice a n c)) (h1 : ∀ j, 1 ≤ j → w.cell? ⟨lb, j, none⟩ = none) : ∀ {t : Tr} {cs : List Value}, GdT t → RepT w F t cs → RepT w (fun b => F b ∧ b ≠ lb) t cs
  | .v x, cs, _, h => by unfold RepT at h ⊢; exact h
  | .big z, cs, _, h => by
    unfold RepT at h ⊢; obtain ⟨sg, a, n, c, f, e, u, hn, hm, h0, hz, hf⟩ := h; refine ⟨sg, a, n, c, f, e, u, hn, hm, h0, hz, fun b off ha hcp => ⟨hf b off ha hcp, fun e2 => ?_⟩⟩; subst e2; obtain ⟨b', off', ha', hcl⟩ := u.cell 0 hcp; rw [ha] at ha'; simp only [Option.some.injEq, Addr.mk.injEq, and_true] at ha'; obtain ⟨rfl, rfl⟩ := ha'; rw [Nat.add_zero] at hcl
    by_cases ho : off = 0
    · subst ho; obtain ⟨a2, n2, c2, hs⟩ := hc; rw [hs] at hcl; cases hcl
    · rw [h1 off (by omega)] at hcl; cases hcl
  | .sl es, cs, hg, h => by
    unfold RepT at h ⊢; unfold GdT at hg; obtain ⟨a, c, e, hl, hm, h⟩ := h; refine ⟨a, c, e, hl, hm, ?_⟩
    rcases h with h | ⟨b, off, ha, hb, hr⟩
    · exact .inl h
    · cases es with
      | nil => exact .inl rfl
      | cons r rs =>
        refine .inr ⟨b, off, ha, ⟨hb, fun e2 => ?_⟩, RepL.avoid hc h1 hg hr⟩; subst e2; unfold GdL at hg; unfold RepL at hr; obtain ⟨⟨ds, hds, hrr⟩, _⟩ := hr; have hlen := hrr.len
        rcases hg.1 with h2 | ⟨s, rfl⟩
        · have := hds 1 (by omega); rw [h1 (off + 1) (by omega), List.getElem?_eq_getElem (by omega)] at this; cases this
        · have h0 := hds 0 (by rw [hlen]; show 0 < 1 + 0; omega); unfold RepR at hrr; obtain ⟨c1, c2, rfl, hv, _⟩ := hrr; unfold RepT at hv; subst hv; rw [Nat.add_zero] at h0; have h0 : w.cell? ⟨b, off, none⟩ = some (.string s) := h0
          by_cases ho : off = 0
          · subst ho; obtain ⟨a2, n2, c3, hs⟩ := hc; rw [hs] at h0; cases h0
          · rw [h1 off (by omega)] at h0; cases h0
theorem RepR.avoid (hc : ∃ a n c, w.cell? ⟨lb, 0, none⟩ = some (.slice a n c)) (h1 : ∀ j, 1 ≤ j → w.cell? ⟨lb, j, none⟩ = none) : ∀ {r : List Tr} {cs : List Value}, GdR r → RepR w F r cs → RepR w (fun b => F b ∧ b ≠ lb) r cs
  | [], cs, _, h => by unfold RepR at h ⊢; exact h
  | t :: r, cs, hg, h => by
    unfold RepR at h ⊢; unfold GdR at hg; obtain ⟨c1, c2, e, h2, h3⟩ := h; exact ⟨c1, c2, e, RepT.avoid hc h1 hg.1 h2, RepR.avoid hc h1 hg.2 h3⟩
theorem RepL.avoid (hc : ∃ a n c, w.cell? ⟨lb, 0, none⟩ = some (.slice a n c)) (h1 : ∀ j, 1 ≤ j → w.cell? ⟨lb, j, none⟩ = none) {b : Nat} : ∀ {off : Nat} {rs : List (List Tr)}, GdL rs → RepL w F b off rs → RepL w (fun b => F b ∧ b ≠ lb) b off rs
  | off, [], _, h => by unfold RepL; trivial
  | off, r :: rs, hg, h => by
    unfold RepL at h ⊢; unfold GdL at hg; obtain ⟨⟨cs, h2, h3⟩, h4⟩ := h; exact ⟨⟨cs, h2, RepR.avoid hc h1 hg.2.1 h3⟩, RepL.avoid hc h1 hg.2.2 h4⟩
end
end
theorem IsSl.avoid {w : World} {F : Nat → Prop} {lb : Nat} {l : List Nd} {v : Value} (hc : ∃ a n c, w.cell? ⟨lb, 0, none⟩ = some (.slice a n c)) (h1 : ∀ j, 1 ≤ j → w.cell? ⟨lb, j, none⟩ = none) (hg : GdL l) (h : IsSl w F l v) (x : Value) : IsSl (w.setCell ⟨lb, 0, none⟩ x) (fun b => F b ∧ b ≠ lb) l v := by
  obtain ⟨a, c, e, h⟩ := h; refine ⟨a, c, e, (RepT.avoid (t := .sl l) hc h1 (by unfold GdT; exact hg) h).on (fun b hb => ?_) (fun _ h => h)⟩; exact Below.heap_setCell _ _ _ _ (show b ≠ lb from hb.2)
/-! ### The same, decided -/
def strNd : List Tr → Bool
  | [.v (.string _)] => true
  | _ => false
mutual
def gdT : Tr → Bool
  | .v _ => true
  | .big _ => true
  | .sl es => gdL es
def gdR : List Tr → Bool
  | [] => true
  | t :: r => gdT t && gdR r
def gdL : List (List Tr) → Bool
  | [] => true
  | r :: rs => (decide (2 ≤ widN r) || strNd r) && gdR r && gdL rs
end
theorem strNd_spec {r : List Tr} (h : strNd r = true) : ∃ s, r = [.v (.string s)] := by
  unfold strNd at h
  split at h
  · exact ⟨_, rfl⟩
  · cases h
mutual
theorem gdT_spec : ∀ {t : Tr}, gdT t = true → GdT t
  | .v _, _ => by unfold GdT; trivial
  | .big _, _ => by unfold GdT; trivial
  | .sl es, h => by unfold gdT at h; unfold GdT; exact gdL_spec h
theorem gdR_spec : ∀ {r : List Tr}, gdR r = true → GdR r
  | [], _ => by unfold GdR; trivial
  | t :: r, h => by
    unfold gdR at h; rw [Bool.and_eq_true] at h; unfold GdR; exact ⟨gdT_spec h.1, gdR_spec h.2⟩
theorem gdL_spec : ∀ {es : List (List Tr)}, gdL es = true → GdL es
  | [], _ => by unfold GdL; trivial
  | r :: rs, h => by
    unfold gdL at h; rw [Bool.and_eq_true, Bool.and_eq_true, Bool.or_eq_true] at h; unfold GdL; exact ⟨h.1.1.imp of_decide_eq_true strNd_spec, gdR_spec h.1.2, gdL_spec h.2⟩
end
end
def DpF (k : Nat) (I : Shp) (one : Nd → Option Nat) : Prop := ∀ (w : World) (F : Nat → Prop) (nd : Nd) (v : Value) (d : Nat), I w F nd v → (∀ b, F b → b < w.heap.size) → one nd = some d → d ≤ 1000000000 →
  Calls Tryz.prog k #[v] w fun e w' => e = .returned (.int .i64 (d : Nat)) ∧ Below w.heap.size w w'
theorem deep_Type (w : World) (F : Nat → Prop) (v : Value) (fv : Value) (z : Nat) (hz : z = 0) (hl : IsSl w F [] v) :
    Calls Tryz.prog 24 #[v, fv] w fun e w' => e = .returned (.int .i64 (z : Nat)) ∧ Below w.heap.size w w' := by
  obtain ⟨a, c, rfl, hr⟩ := hl; subst hz; clear hr; go_enter Tryz.func24, Tryz.ntmps24
  go_wp2_with fail
  go_loopg [5, 10] 0 (fun g nv iv wr => nv = .int .i64 0 ∧ iv = .int .i64 0 ∧ wr = w)
  case atStart => exact ⟨rfl, rfl, rfl⟩
  case round =>
  obtain ⟨rfl, rfl, rfl⟩ := hrel
  go_wp2_with fail
  refine bodyPost_ret (v := .int .i64 0) (by simp [results, Tryz.results24, go_sem]) rfl ⟨rfl, Below.refl _ _⟩
theorem deep_Spec (w : World) (F : Nat → Prop) (v : Value) (fv : Value) (z : Nat) (hz : z = 0) (hl : IsSl w F [] v) :
    Calls Tryz.prog 30 #[v, fv] w fun e w' => e = .returned (.int .i64 (z : Nat)) ∧ Below w.heap.size w w' := by
  obtain ⟨a, c, rfl, hr⟩ := hl; subst hz; clear hr; go_enter Tryz.func30, Tryz.ntmps30
  go_wp2_with fail
  go_loopg [5, 10] 0 (fun g nv iv wr => nv = .int .i64 0 ∧ iv = .int .i64 0 ∧ wr = w)
  case atStart => exact ⟨rfl, rfl, rfl⟩
  case round =>
  obtain ⟨rfl, rfl, rfl⟩ := hrel
  go_wp2_with fail
  refine bodyPost_ret (v := .int .i64 0) (by simp [results, Tryz.results30, go_sem]) rfl ⟨rfl, Below.refl _ _⟩
theorem deep_Data (w : World) (F : Nat → Prop) (v : Value) (fv : Value) (z : Nat) (hz : z = 0) (hl : IsSl w F [] v) :
    Calls Tryz.prog 32 #[v, fv] w fun e w' => e = .returned (.int .i64 (z : Nat)) ∧ Below w.heap.size w w' := by
  obtain ⟨a, c, rfl, hr⟩ := hl; subst hz; clear hr; go_enter Tryz.func32, Tryz.ntmps32
  go_wp2_with fail
  go_loopg [5, 10] 0 (fun g nv iv wr => nv = .int .i64 0 ∧ iv = .int .i64 0 ∧ wr = w)
  case atStart => exact ⟨rfl, rfl, rfl⟩
  case round =>
  obtain ⟨rfl, rfl, rfl⟩ := hrel
  go_wp2_with fail
  refine bodyPost_ret (v := .int .i64 0) (by simp [results, Tryz.results32, go_sem]) rfl ⟨rfl, Below.refl _ _⟩
theorem deep_Sig (w : World) (F : Nat → Prop) (v : Value) (fv : Value) (z : Nat) (hz : z = 0) (hl : IsSl w F [] v) :
    Calls Tryz.prog 34 #[v, fv] w fun e w' => e = .returned (.int .i64 (z : Nat)) ∧ Below w.heap.size w w' := by
  obtain ⟨a, c, rfl, hr⟩ := hl; subst hz; clear hr; go_enter Tryz.func34, Tryz.ntmps34
  go_wp2_with fail
  go_loopg [5, 10] 0 (fun g nv iv wr => nv = .int .i64 0 ∧ iv = .int .i64 0 ∧ wr = w)
  case atStart => exact ⟨rfl, rfl, rfl⟩
  case round =>
  obtain ⟨rfl, rfl, rfl⟩ := hrel
  go_wp2_with fail
  refine bodyPost_ret (v := .int .i64 0) (by simp [results, Tryz.results34, go_sem]) rfl ⟨rfl, Below.refl _ _⟩
theorem deep_Rule (w : World) (F : Nat → Prop) (v : Value) (fv : Value) (z : Nat) (hz : z = 0) (hl : IsSl w F [] v) :
    Calls Tryz.prog 79 #[v, fv] w fun e w' => e = .returned (.int .i64 (z : Nat)) ∧ Below w.heap.size w w' := by
  obtain ⟨a, c, rfl, hr⟩ := hl; subst hz; clear hr; go_enter Tryz.func79, Tryz.ntmps79
  go_wp2_with fail
  go_loopg [5, 10] 0 (fun g nv iv wr => nv = .int .i64 0 ∧ iv = .int .i64 0 ∧ wr = w)
  case atStart => exact ⟨rfl, rfl, rfl⟩
  case round =>
  obtain ⟨rfl, rfl, rfl⟩ := hrel
  go_wp2_with fail
  refine bodyPost_ret (v := .int .i64 0) (by simp [results, Tryz.results79, go_sem]) rfl ⟨rfl, Below.refl _ _⟩
theorem deep_Exp (one : Nd → Option Nat) (k : Nat) (eg : ∀ args w, (callFunc k args).run Tryz.prog w = .ok (.enter k args) w) (hs : ∀ nd d, one nd = some d → widN nd = 12) (hi : ∀ w F nd d cs, one nd = some d → RepR w F nd cs → IsExp w F nd (.agg cs.toArray)) (hone : DpF k IsExp one)
    (w : World) (F : Nat → Prop) (l : List Nd) (v : Value) (m : Nat) (hl : IsSl w F l v) (hF : ∀ b, F b → b < w.heap.size) (hm : deL one l 0 = some m) (hM : m ≤ 1000000000) :
    Calls Tryz.prog 28 #[v, .func (.func k) #[] #[]] w fun e w' => e = .returned (.int .i64 (m : Nat)) ∧ Below w.heap.size w w' := by
  obtain ⟨a, c, rfl, hr⟩ := hl; unfold RepT at hr; obtain ⟨_, _, hv, hlc, hcm, hr⟩ := hr; cases hv; have hmax : c ≤ 9223372036854775807 := by unfold maxLen at hcm; omega
  have hll : l.length ≤ 9223372036854775807 := Nat.le_trans hlc hmax; have hx : ∀ x ∈ l, widN x = 12 := fun x hx => by obtain ⟨q, hq⟩ := deL_all hm x hx; exact hs x q hq
  have HM := hid hm; have HX := hid hx; have HR := hid hr; have HF := hid hF; have HH := hid hone; clear hm hx hr hF hone; have HIS := hid hi; clear hi; go_enter Tryz.func28, Tryz.ntmps28
  go_wp2_with fail
  go_loopg [5, 10] l.length (fun g nv iv wr => ∃ i x : Nat, nv = .int .i64 (x : Nat) ∧ iv = .int .i64 (i : Nat) ∧ g + i = l.length ∧ Hid (deL one (l.drop i) x = some m) ∧ Hid (Below w.heap.size w wr))
  case atStart => exact ⟨0, 0, rfl, rfl, by omega, HM, hid (Below.refl _ _)⟩
  case round =>
  obtain ⟨i, x, rfl, rfl, hgi, HD, HB⟩ := hrel
  by_cases hi : i < l.length
  · have hlt : (i : Int) < (l.length : Int) := by omega
    obtain ⟨nd, q, hnd, h1, h2, hq⟩ := deL_at hi HD.out; have hx0 := deL_ge h2
    rcases HR.out with h0 | ⟨b, off, rfl, hb, hL⟩
    · rw [h0] at hi; simp at hi
    have hbw := HF.out b hb; obtain ⟨cs, hcl, hcs, hrr⟩ := hL.at HX.out i nd hnd; obtain ⟨x0, x1, x2, Vg, Vi, Vh, x4, x5, x6, Vp, Vr, Vq, Vs, Vu, Vt, Vv, Vx, Vw, Vy, VA, Vz, VB, VD, VC, he, hrep⟩ := HIS.out w F nd q cs h1 hrr
    have hcs' : cs = [.int .i64 x0, .string x1, .bool x2, .slice Vg Vi Vh, .int .i64 x4, .int .u64 x5, .string x6, .slice Vp Vr Vq, .slice Vs Vu Vt, .slice Vv Vx Vw, .slice Vy VA Vz, .slice VB VD VC] := by
      have := congrArg (fun v : Value => match v with | .agg a => a.toList | _ => []) he
      simpa using this
    subst hcs'; have q0 : wr.cell? ⟨b, off + i * 12, none⟩ = some (.int .i64 x0) := (HB.out.cell (p := ⟨b, off + i * 12, none⟩) hbw).trans (hcs 0 (by omega)); have q1 : wr.cell? ⟨b, off + i * 12 + 1, none⟩ = some (.string x1) := (HB.out.cell (p := ⟨b, off + i * 12 + 1, none⟩) hbw).trans (hcs 1 (by omega)); have q2 : wr.cell? ⟨b, off + i * 12 + 2, none⟩ = some (.bool x2) := (HB.out.cell (p := ⟨b, off + i * 12 + 2, none⟩) hbw).trans (hcs 2 (by omega)); have q3 : wr.cell? ⟨b, off + i * 12 + 3, none⟩ = some (.slice Vg Vi Vh) := (HB.out.cell (p := ⟨b, off + i * 12 + 3, none⟩) hbw).trans (hcs 3 (by omega)); have q4 : wr.cell? ⟨b, off + i * 12 + 4, none⟩ = some (.int .i64 x4) := (HB.out.cell (p := ⟨b, off + i * 12 + 4, none⟩) hbw).trans (hcs 4 (by omega)); have q5 : wr.cell? ⟨b, off + i * 12 + 5, none⟩ = some (.int .u64 x5) := (HB.out.cell (p := ⟨b, off + i * 12 + 5, none⟩) hbw).trans (hcs 5 (by omega)); have q6 : wr.cell? ⟨b, off + i * 12 + 6, none⟩ = some (.string x6) := (HB.out.cell (p := ⟨b, off + i * 12 + 6, none⟩) hbw).trans (hcs 6 (by omega)); have q7 : wr.cell? ⟨b, off + i * 12 + 7, none⟩ = some (.slice Vp Vr Vq) := (HB.out.cell (p := ⟨b, off + i * 12 + 7, none⟩) hbw).trans (hcs 7 (by omega)); have q8 : wr.cell? ⟨b, off + i * 12 + 8, none⟩ = some (.slice Vs Vu Vt) := (HB.out.cell (p := ⟨b, off + i * 12 + 8, none⟩) hbw).trans (hcs 8 (by omega)); have q9 : wr.cell? ⟨b, off + i * 12 + 9, none⟩ = some (.slice Vv Vx Vw) := (HB.out.cell (p := ⟨b, off + i * 12 + 9, none⟩) hbw).trans (hcs 9 (by omega)); have q10 : wr.cell? ⟨b, off + i * 12 + 10, none⟩ = some (.slice Vy VA Vz) := (HB.out.cell (p := ⟨b, off + i * 12 + 10, none⟩) hbw).trans (hcs 10 (by omega)); have q11 : wr.cell? ⟨b, off + i * 12 + 11, none⟩ = some (.slice VB VD VC) := (HB.out.cell (p := ⟨b, off + i * 12 + 11, none⟩) hbw).trans (hcs 11 (by omega)); have HI : Hid (IsExp w F nd (.agg #[.int .i64 x0, .string x1, .bool x2, .slice Vg Vi Vh, .int .i64 x4, .int .u64 x5, .string x6, .slice Vp Vr Vq, .slice Vs Vu Vt, .slice Vv Vx Vw, .slice Vy VA Vz, .slice VB VD VC])) := hid ⟨x0, x1, x2, Vg, Vi, Vh, x4, x5, x6, Vp, Vr, Vq, Vs, Vu, Vt, Vv, Vx, Vw, Vy, VA, Vz, VB, VD, VC, rfl, hrep⟩; have H1 := hid h1; have H2 := hid h2; clear h1 h2 HD hcs hrr hrep he hL hcl hnd
    go_wp2_with (go_at_fn k; refine (HH.out _ F nd _ q (IsExp.ok _ _ _ _ _ _ HI.out (Kb.of (HB.out.trans ((below_alloc wr _).mono HB.out.size)) HF.out) (fun _ h => h)) (fun b hb => by have := HF.out b hb; have := HB.out.size; simp; omega) H1.out (by omega)).mono ?_; rintro e w3 ⟨rfl, hb3⟩; have HB3 := hid (HB.out.trans (((below_alloc wr _).trans (hb3.mono (by simp))).mono HB.out.size)); clear hb3)
    go_roundg (gk - 1)
    case measure => omega
    case rel => exact ⟨i + 1, max x q, by first | rfl | (congr 1; omega), rfl, by omega, H2, HB3⟩
  · have hlt : ¬ (i : Int) < (l.length : Int) := by omega
    have hd : deL one (l.drop i) x = some m := HD.out; rw [List.drop_eq_nil_of_le (by omega)] at hd; obtain rfl : x = m := Option.some.inj hd; clear hd HD
    go_wp2_with fail
    refine bodyPost_ret (v := .int .i64 (x : Nat)) (by simp [results, Tryz.results28, go_sem]) rfl ⟨rfl, HB.out⟩
end Go.Proofs.YtkblonfmjlopaaaGreatDoor
