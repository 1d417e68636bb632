/-
  NARROWER THAN 'FOR EVERY INPUT', by the rows' own cells (each row's printed sentence says how): BigDivides: laid · BigTexts: laid · BigMemory: laid · BigRing: laid · BigReckons: laid · BigQuotient: laid · BigStands: laid.
  DERIVED. THE GIVEN ROWS OF THIS SEAT. 7 by the template 'for every input the law returns true; each argument reads behind the call as it read before'; 0 by the template 'total and deterministic' (their statements: YticfggljaagcmaaDoorTotals.lean).
  GIVEN WITH THE SEED: the statements are not yours to turn. If you find one false, say at which input.
  Laid BY PROGRAM, IN A SANDBOX (cutbox-rows.mjs): the forced cells as the released guide's own fill.sh prints them over the translation 869315a6db2ee998… (all of the seat's roots in one cut). By AI agents, Wed Nov 11 2026. No macro, syntax, notation, axiom, sorry.
-/
import Derived.Test.YticfggljaagcmaaDoorChecked
import GoSem.PinnedTables
import GoSem.Claim
import GoSem.ClaimJoined
import GoSem.ClaimMapViews
import Derived.JoinedTies
import Derived.KernelRfl
namespace Go.Proofs.YticfggljaagcmaaDoor
/- THE CELL 'sum', in the pinned program and in every row, IS THE sha256 OF THE DUMP (.gsa) THAT YticfggljaagcmaaDoorProg.lean LOADS. Nothing in Lean hashes anything: it is a label: what it is worth is what the hold of that sum in a sandbox is worth. -/
noncomputable def Tryd.pinned : Pinned := { name := "yticfggljaagcmaadoor", sum := "869315a6db2ee998bacb142c18cba7b71aa5bb5a72997e13fc99af563966ef1a", checked := Tryd.checked }
namespace Rows
def none {H : Type} : Left H := { results := [], args := [] }

/- WHAT THE LISTED PACKAGE-LEVEL VARIABLES READ AS WHEN THE CALL BEGINS. Each datum BY PROGRAM (the guide's laid-datum.mjs) off the statement by which the dump's own 'gosem.cut.vars' lays the variable. In a bare row this is a premise. The card (YticfggljaagcmaaDoorCards.lean) ties it to the program's text. -/
def laid_unicode_utf8_acceptRanges {H : Type} : DataW H := .agg [.agg [.lit (.int .u8 128), .lit (.int .u8 191)], .agg [.lit (.int .u8 160), .lit (.int .u8 191)], .agg [.lit (.int .u8 128), .lit (.int .u8 159)], .agg [.lit (.int .u8 144), .lit (.int .u8 191)], .agg [.lit (.int .u8 128), .lit (.int .u8 143)], .agg [.lit (.int .u8 0), .lit (.int .u8 0)], .agg [.lit (.int .u8 0), .lit (.int .u8 0)], .agg [.lit (.int .u8 0), .lit (.int .u8 0)], .agg [.lit (.int .u8 0), .lit (.int .u8 0)], .agg [.lit (.int .u8 0), .lit (.int .u8 0)], .agg [.lit (.int .u8 0), .lit (.int .u8 0)], .agg [.lit (.int .u8 0), .lit (.int .u8 0)], .agg [.lit (.int .u8 0), .lit (.int .u8 0)], .agg [.lit (.int .u8 0), .lit (.int .u8 0)], .agg [.lit (.int .u8 0), .lit (.int .u8 0)], .agg [.lit (.int .u8 0), .lit (.int .u8 0)]]
/-- One of Go's own tables, pinned by name: the form's constant. -/
def laid_unicode_utf8_first : DataW Unit := Go.Pinned.utf8First

/-- 'smithylaw01.BigDivides': WHATEVER THE INPUT: true; the input reads as it did. -/
def bigDividesSpec : ChangeSpec := { name := "bigDivides", fn := fun _ => fun
  | [d1, d2] => { results := [.lit (.bool true)], args := [d1, d2] }
  | _ => none }
def bigDividesRow : OpenClaim := { program := "yticfggljaagcmaadoor", sum := "869315a6db2ee998bacb142c18cba7b71aa5bb5a72997e13fc99af563966ef1a", func := "smithy/smithylaw01.BigDivides", spec := "bigDivides", inPlace := ["internal/bytealg.IndexByteString", "internal/bytealg.IndexString", "internal/abi.NoEscape"], named := ["unicode/utf8.first", "unicode/utf8.acceptRanges", "internal/bytealg.MaxLen"], apart := false, laid := [("unicode/utf8.acceptRanges", laid_unicode_utf8_acceptRanges), ("unicode/utf8.first", laid_unicode_utf8_first)] }
def BigDividesSaid : Prop := bigDividesRow.holds Tryd.pinned (OpenSpec.ofChange bigDividesSpec)

/-- ITS FALSE NEIGHBOUR: 'it returns false'. Refute it at one input. -/
def bigDividesWrong : ChangeSpec := { name := "bigDivides", fn := fun _ => fun
  | [d1, d2] => { results := [.lit (.bool false)], args := [d1, d2] }
  | _ => none }
def BigDividesWrongFalsely : Prop := bigDividesRow.holds Tryd.pinned (OpenSpec.ofChange bigDividesWrong)

/-- 'smithylaw01.BigTexts': WHATEVER THE INPUT: true; the input reads as it did. -/
def bigTextsSpec : ChangeSpec := { name := "bigTexts", fn := fun _ => fun
  | [d1, d2] => { results := [.lit (.bool true)], args := [d1, d2] }
  | _ => none }
def bigTextsRow : OpenClaim := { program := "yticfggljaagcmaadoor", sum := "869315a6db2ee998bacb142c18cba7b71aa5bb5a72997e13fc99af563966ef1a", func := "smithy/smithylaw01.BigTexts", spec := "bigTexts", inPlace := ["internal/bytealg.IndexByteString", "internal/bytealg.IndexString", "internal/abi.NoEscape"], named := ["unicode/utf8.first", "unicode/utf8.acceptRanges", "internal/bytealg.MaxLen"], apart := false, laid := [("unicode/utf8.acceptRanges", laid_unicode_utf8_acceptRanges), ("unicode/utf8.first", laid_unicode_utf8_first)] }
def BigTextsSaid : Prop := bigTextsRow.holds Tryd.pinned (OpenSpec.ofChange bigTextsSpec)

/-- ITS FALSE NEIGHBOUR: 'it returns false'. Refute it at one input. -/
def bigTextsWrong : ChangeSpec := { name := "bigTexts", fn := fun _ => fun
  | [d1, d2] => { results := [.lit (.bool false)], args := [d1, d2] }
  | _ => none }
def BigTextsWrongFalsely : Prop := bigTextsRow.holds Tryd.pinned (OpenSpec.ofChange bigTextsWrong)

/-- 'smithylaw01.BigMemory': WHATEVER THE INPUT: true; the input reads as it did. -/
def bigMemorySpec : ChangeSpec := { name := "bigMemory", fn := fun _ => fun
  | [d1, d2] => { results := [.lit (.bool true)], args := [d1, d2] }
  | _ => none }
def bigMemoryRow : OpenClaim := { program := "yticfggljaagcmaadoor", sum := "869315a6db2ee998bacb142c18cba7b71aa5bb5a72997e13fc99af563966ef1a", func := "smithy/smithylaw01.BigMemory", spec := "bigMemory", inPlace := ["internal/bytealg.IndexByteString", "internal/bytealg.IndexString", "internal/abi.NoEscape"], named := ["unicode/utf8.first", "unicode/utf8.acceptRanges", "internal/bytealg.MaxLen"], apart := false, laid := [("unicode/utf8.acceptRanges", laid_unicode_utf8_acceptRanges), ("unicode/utf8.first", laid_unicode_utf8_first)] }
def BigMemorySaid : Prop := bigMemoryRow.holds Tryd.pinned (OpenSpec.ofChange bigMemorySpec)

/-- ITS FALSE NEIGHBOUR: 'it returns false'. Refute it at one input. -/
def bigMemoryWrong : ChangeSpec := { name := "bigMemory", fn := fun _ => fun
  | [d1, d2] => { results := [.lit (.bool false)], args := [d1, d2] }
  | _ => none }
def BigMemoryWrongFalsely : Prop := bigMemoryRow.holds Tryd.pinned (OpenSpec.ofChange bigMemoryWrong)

/-- 'smithylaw01.BigRing': WHATEVER THE INPUT: true; the input reads as it did. -/
def bigRingSpec : ChangeSpec := { name := "bigRing", fn := fun _ => fun
  | [d1, d2, d3] => { results := [.lit (.bool true)], args := [d1, d2, d3] }
  | _ => none }
def bigRingRow : OpenClaim := { program := "yticfggljaagcmaadoor", sum := "869315a6db2ee998bacb142c18cba7b71aa5bb5a72997e13fc99af563966ef1a", func := "smithy/smithylaw01.BigRing", spec := "bigRing", inPlace := ["internal/bytealg.IndexByteString", "internal/bytealg.IndexString", "internal/abi.NoEscape"], named := ["unicode/utf8.first", "unicode/utf8.acceptRanges", "internal/bytealg.MaxLen"], apart := false, laid := [("unicode/utf8.acceptRanges", laid_unicode_utf8_acceptRanges), ("unicode/utf8.first", laid_unicode_utf8_first)] }
def BigRingSaid : Prop := bigRingRow.holds Tryd.pinned (OpenSpec.ofChange bigRingSpec)

/-- ITS FALSE NEIGHBOUR: 'it returns false'. Refute it at one input. -/
def bigRingWrong : ChangeSpec := { name := "bigRing", fn := fun _ => fun
  | [d1, d2, d3] => { results := [.lit (.bool false)], args := [d1, d2, d3] }
  | _ => none }
def BigRingWrongFalsely : Prop := bigRingRow.holds Tryd.pinned (OpenSpec.ofChange bigRingWrong)

/-- 'smithylaw01.BigReckons': WHATEVER THE INPUT: true; the input reads as it did. -/
def bigReckonsSpec : ChangeSpec := { name := "bigReckons", fn := fun _ => fun
  | [d1, d2] => { results := [.lit (.bool true)], args := [d1, d2] }
  | _ => none }
def bigReckonsRow : OpenClaim := { program := "yticfggljaagcmaadoor", sum := "869315a6db2ee998bacb142c18cba7b71aa5bb5a72997e13fc99af563966ef1a", func := "smithy/smithylaw01.BigReckons", spec := "bigReckons", inPlace := ["internal/bytealg.IndexByteString", "internal/bytealg.IndexString", "internal/abi.NoEscape"], named := ["unicode/utf8.first", "unicode/utf8.acceptRanges", "internal/bytealg.MaxLen"], apart := false, laid := [("unicode/utf8.acceptRanges", laid_unicode_utf8_acceptRanges), ("unicode/utf8.first", laid_unicode_utf8_first)] }
def BigReckonsSaid : Prop := bigReckonsRow.holds Tryd.pinned (OpenSpec.ofChange bigReckonsSpec)

/-- ITS FALSE NEIGHBOUR: 'it returns false'. Refute it at one input. -/
def bigReckonsWrong : ChangeSpec := { name := "bigReckons", fn := fun _ => fun
  | [d1, d2] => { results := [.lit (.bool false)], args := [d1, d2] }
  | _ => none }
def BigReckonsWrongFalsely : Prop := bigReckonsRow.holds Tryd.pinned (OpenSpec.ofChange bigReckonsWrong)

/-- 'smithylaw01.BigQuotient': WHATEVER THE INPUT: true; the input reads as it did. -/
def bigQuotientSpec : ChangeSpec := { name := "bigQuotient", fn := fun _ => fun
  | [d1, d2] => { results := [.lit (.bool true)], args := [d1, d2] }
  | _ => none }
def bigQuotientRow : OpenClaim := { program := "yticfggljaagcmaadoor", sum := "869315a6db2ee998bacb142c18cba7b71aa5bb5a72997e13fc99af563966ef1a", func := "smithy/smithylaw01.BigQuotient", spec := "bigQuotient", inPlace := ["internal/bytealg.IndexByteString", "internal/bytealg.IndexString", "internal/abi.NoEscape"], named := ["unicode/utf8.first", "unicode/utf8.acceptRanges", "internal/bytealg.MaxLen"], apart := false, laid := [("unicode/utf8.acceptRanges", laid_unicode_utf8_acceptRanges), ("unicode/utf8.first", laid_unicode_utf8_first)] }
def BigQuotientSaid : Prop := bigQuotientRow.holds Tryd.pinned (OpenSpec.ofChange bigQuotientSpec)

/-- ITS FALSE NEIGHBOUR: 'it returns false'. Refute it at one input. -/
def bigQuotientWrong : ChangeSpec := { name := "bigQuotient", fn := fun _ => fun
  | [d1, d2] => { results := [.lit (.bool false)], args := [d1, d2] }
  | _ => none }
def BigQuotientWrongFalsely : Prop := bigQuotientRow.holds Tryd.pinned (OpenSpec.ofChange bigQuotientWrong)

/-- 'smithylaw01.BigStands': WHATEVER THE INPUT: true; the input reads as it did. -/
def bigStandsSpec : ChangeSpec := { name := "bigStands", fn := fun _ => fun
  | [d1, d2] => { results := [.lit (.bool true)], args := [d1, d2] }
  | _ => none }
def bigStandsRow : OpenClaim := { program := "yticfggljaagcmaadoor", sum := "869315a6db2ee998bacb142c18cba7b71aa5bb5a72997e13fc99af563966ef1a", func := "smithy/smithylaw01.BigStands", spec := "bigStands", inPlace := ["internal/bytealg.IndexByteString", "internal/bytealg.IndexString", "internal/abi.NoEscape"], named := ["unicode/utf8.first", "unicode/utf8.acceptRanges", "internal/bytealg.MaxLen"], apart := false, laid := [("unicode/utf8.acceptRanges", laid_unicode_utf8_acceptRanges), ("unicode/utf8.first", laid_unicode_utf8_first)] }
def BigStandsSaid : Prop := bigStandsRow.holds Tryd.pinned (OpenSpec.ofChange bigStandsSpec)

/-- ITS FALSE NEIGHBOUR: 'it returns false'. Refute it at one input. -/
def bigStandsWrong : ChangeSpec := { name := "bigStands", fn := fun _ => fun
  | [d1, d2] => { results := [.lit (.bool false)], args := [d1, d2] }
  | _ => none }
def BigStandsWrongFalsely : Prop := bigStandsRow.holds Tryd.pinned (OpenSpec.ofChange bigStandsWrong)

/- THE SECOND FORM. 'bulk': how many values and letters a reading holds, each counted each time it is reached (what is shared counts as often as it is met; a slice's spare places count too). A statement '..UptoSaid' is the law's where the arguments, and the package variables that the reading takes, are together of bulk at most 1048576: NARROWER than '..Said'. Prove '..Said' where nothing that the law and all that it calls make is longer than what came in: it says more and counts as full. Else prove '..UptoSaid'. A law counts once. -/
mutual
def uptoBulk {H : Type} : DataW H → Nat
  | .lit (.string bytes) => bytes.length + 1
  | .lit _ => 1
  | .nil => 1
  | .ptr d => uptoBulk d + 1
  | .slice elems spare => uptoBulkAll elems + uptoBulkAll spare + 1
  | .agg parts => uptoBulkAll parts + 1
  | .iface _ d => uptoBulk d + 1
  | .map entries => uptoBulkEntries entries + 1
  | .held _ => 1
def uptoBulkAll {H : Type} : List (DataW H) → Nat
  | [] => 0
  | d :: r => uptoBulk d + uptoBulkAll r
def uptoBulkEntries {H : Type} : List (Lit × DataW H) → Nat
  | [] => 0
  | x :: r => uptoBulkEntry x + uptoBulkEntries r
def uptoBulkEntry {H : Type} : Lit × DataW H → Nat
  | (.string bytes, d) => bytes.length + uptoBulk d + 1
  | (_, d) => uptoBulk d + 1
 end
def uptoSmall : (H : Type) → List (DataW H) → Bool := fun _ ds => decide (uptoBulkAll ds ≤ 1048576)
def OpenSpec.upto (s : _root_.Go.ChangeSpec) : _root_.Go.OpenSpec := { _root_.Go.OpenSpec.ofChange s with cond := some uptoSmall }

/-- 'smithylaw01.BigDivides', WHERE WHAT IT READS IS OF BULK AT MOST 1048576: true; the input reads as it did. -/
def bigDividesUptoRow : OpenClaim := { program := "yticfggljaagcmaadoor", sum := "869315a6db2ee998bacb142c18cba7b71aa5bb5a72997e13fc99af563966ef1a", func := "smithy/smithylaw01.BigDivides", spec := "bigDivides", inPlace := ["internal/bytealg.IndexByteString", "internal/bytealg.IndexString", "internal/abi.NoEscape"], named := ["unicode/utf8.first", "unicode/utf8.acceptRanges", "internal/bytealg.MaxLen"], apart := false, laid := [("unicode/utf8.acceptRanges", laid_unicode_utf8_acceptRanges), ("unicode/utf8.first", laid_unicode_utf8_first)], narrowed := true }
def BigDividesUptoSaid : Prop := bigDividesUptoRow.holds Tryd.pinned (OpenSpec.upto bigDividesSpec)

/-- 'smithylaw01.BigTexts', WHERE WHAT IT READS IS OF BULK AT MOST 1048576: true; the input reads as it did. -/
def bigTextsUptoRow : OpenClaim := { program := "yticfggljaagcmaadoor", sum := "869315a6db2ee998bacb142c18cba7b71aa5bb5a72997e13fc99af563966ef1a", func := "smithy/smithylaw01.BigTexts", spec := "bigTexts", inPlace := ["internal/bytealg.IndexByteString", "internal/bytealg.IndexString", "internal/abi.NoEscape"], named := ["unicode/utf8.first", "unicode/utf8.acceptRanges", "internal/bytealg.MaxLen"], apart := false, laid := [("unicode/utf8.acceptRanges", laid_unicode_utf8_acceptRanges), ("unicode/utf8.first", laid_unicode_utf8_first)], narrowed := true }
def BigTextsUptoSaid : Prop := bigTextsUptoRow.holds Tryd.pinned (OpenSpec.upto bigTextsSpec)

/-- 'smithylaw01.BigMemory', WHERE WHAT IT READS IS OF BULK AT MOST 1048576: true; the input reads as it did. -/
def bigMemoryUptoRow : OpenClaim := { program := "yticfggljaagcmaadoor", sum := "869315a6db2ee998bacb142c18cba7b71aa5bb5a72997e13fc99af563966ef1a", func := "smithy/smithylaw01.BigMemory", spec := "bigMemory", inPlace := ["internal/bytealg.IndexByteString", "internal/bytealg.IndexString", "internal/abi.NoEscape"], named := ["unicode/utf8.first", "unicode/utf8.acceptRanges", "internal/bytealg.MaxLen"], apart := false, laid := [("unicode/utf8.acceptRanges", laid_unicode_utf8_acceptRanges), ("unicode/utf8.first", laid_unicode_utf8_first)], narrowed := true }
def BigMemoryUptoSaid : Prop := bigMemoryUptoRow.holds Tryd.pinned (OpenSpec.upto bigMemorySpec)

/-- 'smithylaw01.BigRing', WHERE WHAT IT READS IS OF BULK AT MOST 1048576: true; the input reads as it did. -/
def bigRingUptoRow : OpenClaim := { program := "yticfggljaagcmaadoor", sum := "869315a6db2ee998bacb142c18cba7b71aa5bb5a72997e13fc99af563966ef1a", func := "smithy/smithylaw01.BigRing", spec := "bigRing", inPlace := ["internal/bytealg.IndexByteString", "internal/bytealg.IndexString", "internal/abi.NoEscape"], named := ["unicode/utf8.first", "unicode/utf8.acceptRanges", "internal/bytealg.MaxLen"], apart := false, laid := [("unicode/utf8.acceptRanges", laid_unicode_utf8_acceptRanges), ("unicode/utf8.first", laid_unicode_utf8_first)], narrowed := true }
def BigRingUptoSaid : Prop := bigRingUptoRow.holds Tryd.pinned (OpenSpec.upto bigRingSpec)

/-- 'smithylaw01.BigReckons', WHERE WHAT IT READS IS OF BULK AT MOST 1048576: true; the input reads as it did. -/
def bigReckonsUptoRow : OpenClaim := { program := "yticfggljaagcmaadoor", sum := "869315a6db2ee998bacb142c18cba7b71aa5bb5a72997e13fc99af563966ef1a", func := "smithy/smithylaw01.BigReckons", spec := "bigReckons", inPlace := ["internal/bytealg.IndexByteString", "internal/bytealg.IndexString", "internal/abi.NoEscape"], named := ["unicode/utf8.first", "unicode/utf8.acceptRanges", "internal/bytealg.MaxLen"], apart := false, laid := [("unicode/utf8.acceptRanges", laid_unicode_utf8_acceptRanges), ("unicode/utf8.first", laid_unicode_utf8_first)], narrowed := true }
def BigReckonsUptoSaid : Prop := bigReckonsUptoRow.holds Tryd.pinned (OpenSpec.upto bigReckonsSpec)

/-- 'smithylaw01.BigQuotient', WHERE WHAT IT READS IS OF BULK AT MOST 1048576: true; the input reads as it did. -/
def bigQuotientUptoRow : OpenClaim := { program := "yticfggljaagcmaadoor", sum := "869315a6db2ee998bacb142c18cba7b71aa5bb5a72997e13fc99af563966ef1a", func := "smithy/smithylaw01.BigQuotient", spec := "bigQuotient", inPlace := ["internal/bytealg.IndexByteString", "internal/bytealg.IndexString", "internal/abi.NoEscape"], named := ["unicode/utf8.first", "unicode/utf8.acceptRanges", "internal/bytealg.MaxLen"], apart := false, laid := [("unicode/utf8.acceptRanges", laid_unicode_utf8_acceptRanges), ("unicode/utf8.first", laid_unicode_utf8_first)], narrowed := true }
def BigQuotientUptoSaid : Prop := bigQuotientUptoRow.holds Tryd.pinned (OpenSpec.upto bigQuotientSpec)

/-- 'smithylaw01.BigStands', WHERE WHAT IT READS IS OF BULK AT MOST 1048576: true; the input reads as it did. -/
def bigStandsUptoRow : OpenClaim := { program := "yticfggljaagcmaadoor", sum := "869315a6db2ee998bacb142c18cba7b71aa5bb5a72997e13fc99af563966ef1a", func := "smithy/smithylaw01.BigStands", spec := "bigStands", inPlace := ["internal/bytealg.IndexByteString", "internal/bytealg.IndexString", "internal/abi.NoEscape"], named := ["unicode/utf8.first", "unicode/utf8.acceptRanges", "internal/bytealg.MaxLen"], apart := false, laid := [("unicode/utf8.acceptRanges", laid_unicode_utf8_acceptRanges), ("unicode/utf8.first", laid_unicode_utf8_first)], narrowed := true }
def BigStandsUptoSaid : Prop := bigStandsUptoRow.holds Tryd.pinned (OpenSpec.upto bigStandsSpec)

end Rows
end Go.Proofs.YticfggljaagcmaaDoor
