/-
  What the rows hand over, opened: an integer among the arguments; a world for the witness, its two tables laid. No condition.
-/
import Derived.Test.YticfggljaagcmaaDoorCards
import Derived.Test.YticfggljaagcmaaDoorTie
import Derived.WalkKit
import Derived.ProofKit
import Derived.OpenShut
import Derived.Deep.DeepHandedRow
import Derived.Lib.LaidTab
import Derived.Lib.SmallJoins
import Derived.Carry
import Derived.Test.YticfggljaagcmaaDoorBase
namespace Go.Proofs.YticfggljaagcmaaDoor
set_option linter.all false
open Go.ChangeShapes Go.WideShapes Go.ChangeAt Go.RowKit Go.Joins Go.WideElems Go.Deep

theorem bulk_pos {H : Type} (d : DataW H) : 1 ≤ Rows.uptoBulk d := by
  cases d with
  | lit l => cases l <;> simp [Rows.uptoBulk]
  | nil => simp [Rows.uptoBulk]
  | ptr d => simp [Rows.uptoBulk]
  | slice elems spare => simp [Rows.uptoBulk]
  | agg parts => simp [Rows.uptoBulk]
  | iface t d => simp [Rows.uptoBulk]
  | map entries => simp [Rows.uptoBulk]
  | held h => simp [Rows.uptoBulk]
theorem bulk_length {H : Type} (l : List (DataW H)) : l.length ≤ Rows.uptoBulkAll l := by
  induction l with
  | nil => simp [Rows.uptoBulkAll]
  | cons x r ih => have := bulk_pos x; simp only [Rows.uptoBulkAll, List.length_cons]; omega
theorem bulk_bound {H : Type} {l : List (DataW H)} (hk : Rows.uptoSmall H l = true) : Rows.uptoBulkAll l ≤ 1048576 := by
  simpa [Rows.uptoSmall] using hk
theorem own : ownKnob Tryd.prog.godebug = none := by kernel_rfl
theorem laidOut : laidOutB Tryd.prog = true := by kernel_rfl
theorem cells58 : Tryd.prog.cellsOf 58 = 1 := by kernel_rfl
theorem cells24 : Tryd.prog.cellsOf 24 = 2 := by kernel_rfl

def fNeg : Field := { name := "Neg", type := 4, offset := 0, embedded := false, tag := "", pkgPath := "", byteOffset := 0 }
def fMag : Field := { name := "Mag", type := 22, offset := 1, embedded := false, tag := "", pkgPath := "", byteOffset := 8 }
theorem under24 : Tryd.prog.underlying 24 = some (.struct #[fNeg, fMag]) := Tryd.underlying24
theorem hone24 : oneCellFields Tryd.prog #[fNeg, fMag] = true := by kernel_rfl
set_option maxRecDepth 1000000 in
/-- An integer that came in. -/
theorem open_big {H : Type} {enc : TypeId × Value → H} {W : World} {b0 : Nat} {v : Value} {d : DataW H} {p : List MemPlace} (hv : Value.okWide Tryd.prog W .any b0 24 v) (h : DataW.Trod enc Tryd.prog W 0 (fun _ => true) true 24 v d p) :
    ∃ sg a n c f, v = .agg #[.bool sg, .slice a n c] ∧ Us W a n c f ∧ n ≤ Rows.uptoBulk d := by
  obtain ⟨v0, v1, y0, y1, m, rfl, rfl, rfl, h0, h1⟩ := open_agg2 (P := Tryd.prog) (enc := enc) (w := W) (base := 0) (spare := fun _ => true) (held := true) (r := .any) (b0 := b0) under24 hone24 cells24 hv h
  obtain ⟨sg, e0, rfl⟩ := DataW.trod_bool Tryd.underlying4 h0
  obtain rfl : v0 = .bool sg := by simpa using e0
  rcases open_ints Tryd.underlying22 Tryd.underlying58 cells58 h1 with ⟨e1, rfl⟩ | ⟨a, len, cap, zs, e1, _, hl, hm, hz, rfl, hcell, hwf⟩
  · obtain rfl : v1 = .slice none 0 0 := by simpa using e1
    exact ⟨sg, none, 0, 0, fun _ => 0, rfl, Us.nil _ _, Nat.zero_le _⟩
  · obtain rfl : v1 = .slice (some a) len cap := by simpa using e1
    have hz' : zs.length = cap := by simpa using hz
    have hb : ∀ i, 0 ≤ zs.getD i 0 ∧ zs.getD i 0 ≤ 4294967295 := fun i => by
      have := range_u32 hwf i
      simpa [List.getD] using this
    refine ⟨sg, some a, len, cap, fun i => (zs.getD i 0).toNat, rfl, ⟨hl, hm, fun i _ => by have := hb i; show (zs.getD i 0).toNat ≤ 4294967295; omega, fun i hi => ?_⟩, ?_⟩
    · have hc := hcell i (by omega)
      have hsp := World.cell?_spot (hcell 0 (by omega))
      obtain ⟨b, off, spot⟩ := a
      have hs0 : spot = none := by
        simpa [Addr.add] using hsp
      subst hs0
      refine ⟨b, off, rfl, ?_⟩
      rw [show (⟨b, off, none⟩ : Addr).add i = ⟨b, off + i, none⟩ by unfold Addr.add; split <;> simp_all] at hc
      rw [hc]
      have := hb i
      congr 2
      omega
    · have h2 := bulk_length (lits (H := H) .u32 (zs.take len))
      have h3 : (lits (H := H) .u32 (zs.take len)).length = len := by simp [lits]; omega
      simp only [Rows.uptoBulk, Rows.uptoBulkAll]
      omega

/-- What a table's datum says, as cells. -/
def flatD : DataW Unit → List Value
  | .lit (.int k n) => [.int k n]
  | .agg ds => ds.flatMap fun
    | .lit (.int k n) => [.int k n]
    | .agg es => es.flatMap fun
      | .lit (.int k n) => [.int k n]
      | _ => []
    | _ => []
  | _ => []
/-- A block's cells, laid anew. -/
def layObj (cs : List Value) : Obj → Obj
  | .cells _ t frozen => .cells cs.toArray t frozen
  | o => o
/-- A world for the witness: the settled one, the tables laid. -/
noncomputable def laidWorld (os : Os) : World :=
  { World.holding Tryd.prog os ⟨#[], #[], []⟩ with heap := ((World.holding Tryd.prog os ⟨#[], #[], []⟩).heap.modify 0 (layObj (flatD Go.Pinned.utf8First))).modify 1 (layObj (flatD Rows.laid_unicode_utf8_acceptRanges)) }
theorem g0 : Tryd.prog.globalNamed "unicode/utf8.first" = some 0 := by kernel_rfl
theorem g1 : Tryd.prog.globalNamed "unicode/utf8.acceptRanges" = some 1 := by kernel_rfl
/-- The integer nought. -/
def zeroI : Value := .agg #[.bool false, .slice none 0 0]
end Go.Proofs.YticfggljaagcmaaDoor
