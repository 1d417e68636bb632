/-
  What the row of SyntaxDepth says of the program, fact by fact. No condition.
-/
import Derived.Test.YtkblonfmjlopaaaGreatDoorSyOpen
import Derived.JoinedCond
set_option linter.all false
set_option maxRecDepth 1000000
set_option maxHeartbeats 16000000
namespace Go.Proofs.YtkblonfmjlopaaaGreatDoor.syntaxDepth
set_option linter.all false
set_option maxRecDepth 1000000
open Go Go.RowKit
theorem and_mk {a b : Bool} (ha : a = true) (hb : b = true) : (a && b) = true := by rw [ha, hb]; rfl
theorem fact0 : (Rows.syntaxDepthRow.wf (OpenSpec.ofChange (OpenSpec.ofChange Rows.syntaxDepthSpec).bare)) = true := by kernel_rfl
theorem fact1 : (laidOutB Tryz.checked.prog) = true := by kernel_rfl
theorem fact2 : (mapsRowed Tryz.checked.prog) = true := by kernel_rfl
theorem fact3 : (Tryz.f4.params.all (Tryz.checked.prog.readableRec ·)) = true := by kernel_rfl
theorem fact4 : (namedTie Tryz.checked.prog Rows.syntaxDepthRow.named (OpenSpec.ofChange Rows.syntaxDepthSpec).bare.vars) = true := by kernel_rfl
theorem fact5 : ((Rows.syntaxDepthRow.stops == [])) = true := by kernel_rfl
theorem fact6 : ((Tryz.checked.prog.stops == [])) = true := by kernel_rfl
theorem fact7 : ((Rows.syntaxDepthRow.knobs == [])) = true := by kernel_rfl
theorem fact8 : ((Tryz.checked.prog.stopKnobs == [])) = true := by kernel_rfl
theorem fact9 : ((Rows.syntaxDepthRow.inPlace == Tryz.checked.prog.inPlace 4)) = true := by kernel_rfl
theorem fact10 : ((Rows.syntaxDepthRow.unfollowed == Tryz.checked.prog.unfollowed 4)) = true := by kernel_rfl
theorem fact11 : ((Rows.syntaxDepthRow.recurses == Tryz.checked.prog.recurses 4)) = true := by kernel_rfl
theorem fact12 : ((Rows.syntaxDepthRow.named == Tryz.checked.prog.varsNamed 4)) = true := by kernel_rfl
theorem fact13 : ((Rows.syntaxDepthRow.maps == (Tryz.f4.params.toList ++ (OpenSpec.ofChange Rows.syntaxDepthSpec).bare.plain.varTypes Tryz.checked.prog).any (Tryz.checked.prog.mapsRec ·))) = true := by kernel_rfl
theorem fact14 : ((Rows.syntaxDepthRow.ifaces == (Tryz.f4.params.toList ++ (OpenSpec.ofChange Rows.syntaxDepthSpec).bare.plain.varTypes Tryz.checked.prog).any (Tryz.checked.prog.ifacesRec ·))) = true := by kernel_rfl
theorem fact15 : ((Rows.syntaxDepthRow.mapsOut == Tryz.checked.prog.mapsAmong Tryz.f4.resultTypes.toList)) = true := by kernel_rfl
theorem fact16 : ((Rows.syntaxDepthRow.loops == (Tryz.f4.params.toList ++ (OpenSpec.ofChange Rows.syntaxDepthSpec).bare.plain.varTypes Tryz.checked.prog).any (Tryz.checked.prog.loopsFrom ·))) = true := by kernel_rfl
theorem fact17 : ((Rows.syntaxDepthRow.wideKeys == (Tryz.f4.params.toList ++ (OpenSpec.ofChange Rows.syntaxDepthSpec).bare.plain.varTypes Tryz.checked.prog ++ Tryz.f4.resultTypes.toList).any (Tryz.checked.prog.wideKeysFrom ·))) = true := by kernel_rfl
theorem fact18 : ((OpenSpec.ofChange Rows.syntaxDepthSpec).bare.vars.all (Tryz.checked.prog.varReadable ·)) = true := by kernel_rfl
theorem fact19 : (Tryz.f4.resultTypes.all (fun t => Tryz.checked.prog.readableRec t && decide (t < Tryz.checked.prog.types.size))) = true := by kernel_rfl
theorem fact20 : ((Rows.syntaxDepthRow.ifacesOut == Tryz.f4.resultTypes.toList.any (Tryz.checked.prog.ifacesRec ·))) = true := by kernel_rfl
theorem fact21 : ((Rows.syntaxDepthRow.loopsOut == Tryz.f4.resultTypes.toList.any (Tryz.checked.prog.loopsFrom ·))) = true := by kernel_rfl
theorem fact22 : ((Rows.syntaxDepthRow.plainKeys == Tryz.checked.prog.plainKeys)) = true := by kernel_rfl
theorem fact23 : (Rows.syntaxDepthRow.shortTexts.isNone) = true := by kernel_rfl
theorem fact24 : (Tryz.checked.prog.stopsHeard) = true := by kernel_rfl
theorem fact25 : (Tryz.checked.prog.mayEnter) = true := by kernel_rfl
theorem fact26 : ((Rows.syntaxDepthRow.lifted == Tryz.checked.prog.liftsFinal)) = true := by kernel_rfl
theorem fact27 : ((Tryz.checked.prog.make == some Rows.syntaxDepthRow.make)) = true := by kernel_rfl
theorem fact28 : ((Rows.syntaxDepthRow.kinds == (if Rows.syntaxDepthRow.domain.isEmpty then [] else Tryz.f4.params.toList.map fun t => match Tryz.checked.prog.underlying t with | some (.int k) => some k | _ => none))) = true := by kernel_rfl
theorem fact29 : ((Rows.syntaxDepthRow.pinned == Rows.syntaxDepthRow.pinnedBy)) = true := by kernel_rfl
theorem fact30 : ((Rows.syntaxDepthRow.veiled == (Tryz.f4.params.toList ++ (OpenSpec.ofChange Rows.syntaxDepthSpec).bare.plain.varTypes Tryz.checked.prog ++ Tryz.f4.resultTypes.toList).any (Tryz.checked.prog.veiledRec ·))) = true := by kernel_rfl
theorem fact31 : (Rows.syntaxDepthRow.veiledFits Tryz.checked.prog Tryz.f4.params.toList (Tryz.f4.params.toList ++ (OpenSpec.ofChange Rows.syntaxDepthSpec).bare.plain.varTypes Tryz.checked.prog ++ Tryz.f4.resultTypes.toList)) = true := by kernel_rfl
theorem facts : joinedFacts Tryz.checked.prog 4 Tryz.f4 (OpenSpec.ofChange Rows.syntaxDepthSpec).bare Rows.syntaxDepthRow = true := by
  unfold joinedFacts; exact and_mk (and_mk (and_mk (and_mk (and_mk (and_mk (and_mk (and_mk (and_mk (and_mk (and_mk (and_mk (and_mk (and_mk (and_mk (and_mk (and_mk (and_mk (and_mk (and_mk (and_mk (and_mk (and_mk (and_mk (and_mk (and_mk (and_mk (and_mk (and_mk (and_mk (and_mk fact0 fact1) fact2) fact3) fact4) fact5) fact6) fact7) fact8) fact9) fact10) fact11) fact12) fact13) fact14) fact15) fact16) fact17) fact18) fact19) fact20) fact21) fact22) fact23) fact24) fact25) fact26) fact27) fact28) fact29) fact30) fact31
end Go.Proofs.YtkblonfmjlopaaaGreatDoor.syntaxDepth
