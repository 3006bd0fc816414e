/-
  NARROWER THAN 'FOR EVERY INPUT', by the rows' own cells (each row's printed sentence says how): LineCuts: laid · LineRight: laid · LineSplices: laid · LineAgain: laid · LineFinds: laid · LineEnds: laid · LineBack: laid · LineParts: laid.
  DERIVED. THE GIVEN ROWS OF THIS SEAT. 8 by the template 'for every input the law returns true; each argument reads behind the call as it read before'; 0 by the template 'total and deterministic' (their statements: YtgokinfjlollpaaDoorTotals.lean).
  GIVEN WITH THE SEED: the statements are not yours to turn. If you find one false, say at which input.
  Laid BY PROGRAM, IN A SANDBOX (cutbox-rows.mjs): the forced cells as the released guide's own fill.sh prints them over the translation 223bdfb6d160413d… (all of the seat's roots in one cut). By AI agents, Wed Nov 11 2026. No macro, syntax, notation, axiom, sorry.
-/
import Derived.Test.YtgokinfjlollpaaDoorChecked
import GoSem.PinnedTables
import GoSem.Claim
import GoSem.ClaimJoined
import GoSem.ClaimMapViews
import Derived.JoinedTies
import Derived.KernelRfl
namespace Go.Proofs.YtgokinfjlollpaaDoor
/- THE CELL 'sum', in the pinned program and in every row, IS THE sha256 OF THE DUMP (.gsa) THAT YtgokinfjlollpaaDoorProg.lean LOADS. Nothing in Lean hashes anything: it is a label: what it is worth is what the hold of that sum in a sandbox is worth. -/
noncomputable def Tryd.pinned : Pinned := { name := "ytgokinfjlollpaadoor", sum := "223bdfb6d160413de61985026685a02e011f175ed626f65d670cefd1f39f7d5f", checked := Tryd.checked }
namespace Rows
def none {H : Type} : Left H := { results := [], args := [] }

/- WHAT THE LISTED PACKAGE-LEVEL VARIABLES READ AS WHEN THE CALL BEGINS. Each datum BY PROGRAM (the guide's laid-datum.mjs) off the statement by which the dump's own 'gosem.cut.vars' lays the variable. In a bare row this is a premise. The card (YtgokinfjlollpaaDoorCards.lean) ties it to the program's text. -/
def laid_unicode_utf8_acceptRanges {H : Type} : DataW H := .agg [.agg [.lit (.int .u8 128), .lit (.int .u8 191)], .agg [.lit (.int .u8 160), .lit (.int .u8 191)], .agg [.lit (.int .u8 128), .lit (.int .u8 159)], .agg [.lit (.int .u8 144), .lit (.int .u8 191)], .agg [.lit (.int .u8 128), .lit (.int .u8 143)], .agg [.lit (.int .u8 0), .lit (.int .u8 0)], .agg [.lit (.int .u8 0), .lit (.int .u8 0)], .agg [.lit (.int .u8 0), .lit (.int .u8 0)], .agg [.lit (.int .u8 0), .lit (.int .u8 0)], .agg [.lit (.int .u8 0), .lit (.int .u8 0)], .agg [.lit (.int .u8 0), .lit (.int .u8 0)], .agg [.lit (.int .u8 0), .lit (.int .u8 0)], .agg [.lit (.int .u8 0), .lit (.int .u8 0)], .agg [.lit (.int .u8 0), .lit (.int .u8 0)], .agg [.lit (.int .u8 0), .lit (.int .u8 0)], .agg [.lit (.int .u8 0), .lit (.int .u8 0)]]
/-- One of Go's own tables, pinned by name: the form's constant. -/
def laid_unicode_utf8_first : DataW Unit := Go.Pinned.utf8First

/-- 'quiltworklaw01.LineCuts': WHATEVER THE INPUT: true; the input reads as it did. -/
def lineCutsSpec : ChangeSpec := { name := "lineCuts", fn := fun _ => fun
  | [d1, d2] => { results := [.lit (.bool true)], args := [d1, d2] }
  | _ => none }
def lineCutsRow : OpenClaim := { program := "ytgokinfjlollpaadoor", sum := "223bdfb6d160413de61985026685a02e011f175ed626f65d670cefd1f39f7d5f", func := "quiltwork/quiltworklaw01.LineCuts", spec := "lineCuts", inPlace := ["internal/bytealg.CountString", "internal/bytealg.IndexByteString", "internal/bytealg.IndexString", "internal/abi.NoEscape"], unfollowed := true, recurses := true, named := ["unicode/utf8.first", "unicode/utf8.acceptRanges", "internal/bytealg.MaxLen"], apart := false, laid := [("unicode/utf8.acceptRanges", laid_unicode_utf8_acceptRanges), ("unicode/utf8.first", laid_unicode_utf8_first)] }
def LineCutsSaid : Prop := lineCutsRow.holds Tryd.pinned (OpenSpec.ofChange lineCutsSpec)

/-- ITS FALSE NEIGHBOUR: 'it returns false'. Refute it at one input. -/
def lineCutsWrong : ChangeSpec := { name := "lineCuts", fn := fun _ => fun
  | [d1, d2] => { results := [.lit (.bool false)], args := [d1, d2] }
  | _ => none }
def LineCutsWrongFalsely : Prop := lineCutsRow.holds Tryd.pinned (OpenSpec.ofChange lineCutsWrong)

/-- 'quiltworklaw01.LineRight': WHATEVER THE INPUT: true; the input reads as it did. -/
def lineRightSpec : ChangeSpec := { name := "lineRight", fn := fun _ => fun
  | [d1, d2] => { results := [.lit (.bool true)], args := [d1, d2] }
  | _ => none }
def lineRightRow : OpenClaim := { program := "ytgokinfjlollpaadoor", sum := "223bdfb6d160413de61985026685a02e011f175ed626f65d670cefd1f39f7d5f", func := "quiltwork/quiltworklaw01.LineRight", spec := "lineRight", inPlace := ["internal/bytealg.CountString", "internal/bytealg.IndexByteString", "internal/bytealg.IndexString", "internal/abi.NoEscape"], unfollowed := true, recurses := true, named := ["unicode/utf8.first", "unicode/utf8.acceptRanges", "internal/bytealg.MaxLen"], apart := false, laid := [("unicode/utf8.acceptRanges", laid_unicode_utf8_acceptRanges), ("unicode/utf8.first", laid_unicode_utf8_first)] }
def LineRightSaid : Prop := lineRightRow.holds Tryd.pinned (OpenSpec.ofChange lineRightSpec)

/-- ITS FALSE NEIGHBOUR: 'it returns false'. Refute it at one input. -/
def lineRightWrong : ChangeSpec := { name := "lineRight", fn := fun _ => fun
  | [d1, d2] => { results := [.lit (.bool false)], args := [d1, d2] }
  | _ => none }
def LineRightWrongFalsely : Prop := lineRightRow.holds Tryd.pinned (OpenSpec.ofChange lineRightWrong)

/-- 'quiltworklaw01.LineSplices': WHATEVER THE INPUT: true; the input reads as it did. -/
def lineSplicesSpec : ChangeSpec := { name := "lineSplices", fn := fun _ => fun
  | [d1, d2, d3] => { results := [.lit (.bool true)], args := [d1, d2, d3] }
  | _ => none }
def lineSplicesRow : OpenClaim := { program := "ytgokinfjlollpaadoor", sum := "223bdfb6d160413de61985026685a02e011f175ed626f65d670cefd1f39f7d5f", func := "quiltwork/quiltworklaw01.LineSplices", spec := "lineSplices", inPlace := ["internal/bytealg.CountString", "internal/bytealg.IndexByteString", "internal/bytealg.IndexString", "internal/abi.NoEscape"], unfollowed := true, recurses := true, named := ["unicode/utf8.first", "unicode/utf8.acceptRanges", "internal/bytealg.MaxLen"], apart := false, laid := [("unicode/utf8.acceptRanges", laid_unicode_utf8_acceptRanges), ("unicode/utf8.first", laid_unicode_utf8_first)] }
def LineSplicesSaid : Prop := lineSplicesRow.holds Tryd.pinned (OpenSpec.ofChange lineSplicesSpec)

/-- ITS FALSE NEIGHBOUR: 'it returns false'. Refute it at one input. -/
def lineSplicesWrong : ChangeSpec := { name := "lineSplices", fn := fun _ => fun
  | [d1, d2, d3] => { results := [.lit (.bool false)], args := [d1, d2, d3] }
  | _ => none }
def LineSplicesWrongFalsely : Prop := lineSplicesRow.holds Tryd.pinned (OpenSpec.ofChange lineSplicesWrong)

/-- 'quiltworklaw01.LineAgain': WHATEVER THE INPUT: true; the input reads as it did. -/
def lineAgainSpec : ChangeSpec := { name := "lineAgain", fn := fun _ => fun
  | [d1, d2, d3] => { results := [.lit (.bool true)], args := [d1, d2, d3] }
  | _ => none }
def lineAgainRow : OpenClaim := { program := "ytgokinfjlollpaadoor", sum := "223bdfb6d160413de61985026685a02e011f175ed626f65d670cefd1f39f7d5f", func := "quiltwork/quiltworklaw01.LineAgain", spec := "lineAgain", inPlace := ["internal/bytealg.CountString", "internal/bytealg.IndexByteString", "internal/bytealg.IndexString", "internal/abi.NoEscape"], unfollowed := true, recurses := true, named := ["unicode/utf8.first", "unicode/utf8.acceptRanges", "internal/bytealg.MaxLen"], apart := false, laid := [("unicode/utf8.acceptRanges", laid_unicode_utf8_acceptRanges), ("unicode/utf8.first", laid_unicode_utf8_first)] }
def LineAgainSaid : Prop := lineAgainRow.holds Tryd.pinned (OpenSpec.ofChange lineAgainSpec)

/-- ITS FALSE NEIGHBOUR: 'it returns false'. Refute it at one input. -/
def lineAgainWrong : ChangeSpec := { name := "lineAgain", fn := fun _ => fun
  | [d1, d2, d3] => { results := [.lit (.bool false)], args := [d1, d2, d3] }
  | _ => none }
def LineAgainWrongFalsely : Prop := lineAgainRow.holds Tryd.pinned (OpenSpec.ofChange lineAgainWrong)

/-- 'quiltworklaw01.LineFinds': WHATEVER THE INPUT: true; the input reads as it did. -/
def lineFindsSpec : ChangeSpec := { name := "lineFinds", fn := fun _ => fun
  | [d1, d2, d3] => { results := [.lit (.bool true)], args := [d1, d2, d3] }
  | _ => none }
def lineFindsRow : OpenClaim := { program := "ytgokinfjlollpaadoor", sum := "223bdfb6d160413de61985026685a02e011f175ed626f65d670cefd1f39f7d5f", func := "quiltwork/quiltworklaw01.LineFinds", spec := "lineFinds", inPlace := ["internal/bytealg.CountString", "internal/bytealg.IndexByteString", "internal/bytealg.IndexString", "internal/abi.NoEscape"], unfollowed := true, recurses := true, named := ["unicode/utf8.first", "unicode/utf8.acceptRanges", "internal/bytealg.MaxLen"], apart := false, laid := [("unicode/utf8.acceptRanges", laid_unicode_utf8_acceptRanges), ("unicode/utf8.first", laid_unicode_utf8_first)] }
def LineFindsSaid : Prop := lineFindsRow.holds Tryd.pinned (OpenSpec.ofChange lineFindsSpec)

/-- ITS FALSE NEIGHBOUR: 'it returns false'. Refute it at one input. -/
def lineFindsWrong : ChangeSpec := { name := "lineFinds", fn := fun _ => fun
  | [d1, d2, d3] => { results := [.lit (.bool false)], args := [d1, d2, d3] }
  | _ => none }
def LineFindsWrongFalsely : Prop := lineFindsRow.holds Tryd.pinned (OpenSpec.ofChange lineFindsWrong)

/-- 'quiltworklaw01.LineEnds': WHATEVER THE INPUT: true; the input reads as it did. -/
def lineEndsSpec : ChangeSpec := { name := "lineEnds", fn := fun _ => fun
  | [d1, d2] => { results := [.lit (.bool true)], args := [d1, d2] }
  | _ => none }
def lineEndsRow : OpenClaim := { program := "ytgokinfjlollpaadoor", sum := "223bdfb6d160413de61985026685a02e011f175ed626f65d670cefd1f39f7d5f", func := "quiltwork/quiltworklaw01.LineEnds", spec := "lineEnds", inPlace := ["internal/bytealg.CountString", "internal/bytealg.IndexByteString", "internal/bytealg.IndexString", "internal/abi.NoEscape"], unfollowed := true, recurses := true, named := ["unicode/utf8.first", "unicode/utf8.acceptRanges", "internal/bytealg.MaxLen"], apart := false, laid := [("unicode/utf8.acceptRanges", laid_unicode_utf8_acceptRanges), ("unicode/utf8.first", laid_unicode_utf8_first)] }
def LineEndsSaid : Prop := lineEndsRow.holds Tryd.pinned (OpenSpec.ofChange lineEndsSpec)

/-- ITS FALSE NEIGHBOUR: 'it returns false'. Refute it at one input. -/
def lineEndsWrong : ChangeSpec := { name := "lineEnds", fn := fun _ => fun
  | [d1, d2] => { results := [.lit (.bool false)], args := [d1, d2] }
  | _ => none }
def LineEndsWrongFalsely : Prop := lineEndsRow.holds Tryd.pinned (OpenSpec.ofChange lineEndsWrong)

/-- 'quiltworklaw01.LineBack': WHATEVER THE INPUT: true; the input reads as it did. -/
def lineBackSpec : ChangeSpec := { name := "lineBack", fn := fun _ => fun
  | [d1, d2] => { results := [.lit (.bool true)], args := [d1, d2] }
  | _ => none }
def lineBackRow : OpenClaim := { program := "ytgokinfjlollpaadoor", sum := "223bdfb6d160413de61985026685a02e011f175ed626f65d670cefd1f39f7d5f", func := "quiltwork/quiltworklaw01.LineBack", spec := "lineBack", inPlace := ["internal/bytealg.CountString", "internal/bytealg.IndexByteString", "internal/bytealg.IndexString", "internal/abi.NoEscape"], unfollowed := true, recurses := true, named := ["unicode/utf8.first", "unicode/utf8.acceptRanges", "internal/bytealg.MaxLen"], apart := false, laid := [("unicode/utf8.acceptRanges", laid_unicode_utf8_acceptRanges), ("unicode/utf8.first", laid_unicode_utf8_first)] }
def LineBackSaid : Prop := lineBackRow.holds Tryd.pinned (OpenSpec.ofChange lineBackSpec)

/-- ITS FALSE NEIGHBOUR: 'it returns false'. Refute it at one input. -/
def lineBackWrong : ChangeSpec := { name := "lineBack", fn := fun _ => fun
  | [d1, d2] => { results := [.lit (.bool false)], args := [d1, d2] }
  | _ => none }
def LineBackWrongFalsely : Prop := lineBackRow.holds Tryd.pinned (OpenSpec.ofChange lineBackWrong)

/-- 'quiltworklaw01.LineParts': WHATEVER THE INPUT: true; the input reads as it did. -/
def linePartsSpec : ChangeSpec := { name := "lineParts", fn := fun _ => fun
  | [d1, d2, d3] => { results := [.lit (.bool true)], args := [d1, d2, d3] }
  | _ => none }
def linePartsRow : OpenClaim := { program := "ytgokinfjlollpaadoor", sum := "223bdfb6d160413de61985026685a02e011f175ed626f65d670cefd1f39f7d5f", func := "quiltwork/quiltworklaw01.LineParts", spec := "lineParts", inPlace := ["internal/bytealg.CountString", "internal/bytealg.IndexByteString", "internal/bytealg.IndexString", "internal/abi.NoEscape"], unfollowed := true, recurses := true, named := ["unicode/utf8.first", "unicode/utf8.acceptRanges", "internal/bytealg.MaxLen"], apart := false, laid := [("unicode/utf8.acceptRanges", laid_unicode_utf8_acceptRanges), ("unicode/utf8.first", laid_unicode_utf8_first)] }
def LinePartsSaid : Prop := linePartsRow.holds Tryd.pinned (OpenSpec.ofChange linePartsSpec)

/-- ITS FALSE NEIGHBOUR: 'it returns false'. Refute it at one input. -/
def linePartsWrong : ChangeSpec := { name := "lineParts", fn := fun _ => fun
  | [d1, d2, d3] => { results := [.lit (.bool false)], args := [d1, d2, d3] }
  | _ => none }
def LinePartsWrongFalsely : Prop := linePartsRow.holds Tryd.pinned (OpenSpec.ofChange linePartsWrong)

/- THE SECOND FORM. 'bulk': how many values and letters a reading holds, each counted each time it is reached (what is shared counts as often as it is met; a slice's spare places count too). A statement '..UptoSaid' is the law's where the arguments, and the package variables that the reading takes, are together of bulk at most 1048576: NARROWER than '..Said'. Prove '..Said' where nothing that the law and all that it calls make is longer than what came in: it says more and counts as full. Else prove '..UptoSaid'. A law counts once. -/
mutual
def uptoBulk {H : Type} : DataW H → Nat
  | .lit (.string bytes) => bytes.length + 1
  | .lit _ => 1
  | .nil => 1
  | .ptr d => uptoBulk d + 1
  | .slice elems spare => uptoBulkAll elems + uptoBulkAll spare + 1
  | .agg parts => uptoBulkAll parts + 1
  | .iface _ d => uptoBulk d + 1
  | .map entries => uptoBulkEntries entries + 1
  | .held _ => 1
def uptoBulkAll {H : Type} : List (DataW H) → Nat
  | [] => 0
  | d :: r => uptoBulk d + uptoBulkAll r
def uptoBulkEntries {H : Type} : List (Lit × DataW H) → Nat
  | [] => 0
  | x :: r => uptoBulkEntry x + uptoBulkEntries r
def uptoBulkEntry {H : Type} : Lit × DataW H → Nat
  | (.string bytes, d) => bytes.length + uptoBulk d + 1
  | (_, d) => uptoBulk d + 1
 end
def uptoSmall : (H : Type) → List (DataW H) → Bool := fun _ ds => decide (uptoBulkAll ds ≤ 1048576)
def OpenSpec.upto (s : _root_.Go.ChangeSpec) : _root_.Go.OpenSpec := { _root_.Go.OpenSpec.ofChange s with cond := some uptoSmall }

/-- 'quiltworklaw01.LineCuts', WHERE WHAT IT READS IS OF BULK AT MOST 1048576: true; the input reads as it did. -/
def lineCutsUptoRow : OpenClaim := { program := "ytgokinfjlollpaadoor", sum := "223bdfb6d160413de61985026685a02e011f175ed626f65d670cefd1f39f7d5f", func := "quiltwork/quiltworklaw01.LineCuts", spec := "lineCuts", inPlace := ["internal/bytealg.CountString", "internal/bytealg.IndexByteString", "internal/bytealg.IndexString", "internal/abi.NoEscape"], unfollowed := true, recurses := true, named := ["unicode/utf8.first", "unicode/utf8.acceptRanges", "internal/bytealg.MaxLen"], apart := false, laid := [("unicode/utf8.acceptRanges", laid_unicode_utf8_acceptRanges), ("unicode/utf8.first", laid_unicode_utf8_first)], narrowed := true }
def LineCutsUptoSaid : Prop := lineCutsUptoRow.holds Tryd.pinned (OpenSpec.upto lineCutsSpec)

/-- 'quiltworklaw01.LineRight', WHERE WHAT IT READS IS OF BULK AT MOST 1048576: true; the input reads as it did. -/
def lineRightUptoRow : OpenClaim := { program := "ytgokinfjlollpaadoor", sum := "223bdfb6d160413de61985026685a02e011f175ed626f65d670cefd1f39f7d5f", func := "quiltwork/quiltworklaw01.LineRight", spec := "lineRight", inPlace := ["internal/bytealg.CountString", "internal/bytealg.IndexByteString", "internal/bytealg.IndexString", "internal/abi.NoEscape"], unfollowed := true, recurses := true, named := ["unicode/utf8.first", "unicode/utf8.acceptRanges", "internal/bytealg.MaxLen"], apart := false, laid := [("unicode/utf8.acceptRanges", laid_unicode_utf8_acceptRanges), ("unicode/utf8.first", laid_unicode_utf8_first)], narrowed := true }
def LineRightUptoSaid : Prop := lineRightUptoRow.holds Tryd.pinned (OpenSpec.upto lineRightSpec)

/-- 'quiltworklaw01.LineSplices', WHERE WHAT IT READS IS OF BULK AT MOST 1048576: true; the input reads as it did. -/
def lineSplicesUptoRow : OpenClaim := { program := "ytgokinfjlollpaadoor", sum := "223bdfb6d160413de61985026685a02e011f175ed626f65d670cefd1f39f7d5f", func := "quiltwork/quiltworklaw01.LineSplices", spec := "lineSplices", inPlace := ["internal/bytealg.CountString", "internal/bytealg.IndexByteString", "internal/bytealg.IndexString", "internal/abi.NoEscape"], unfollowed := true, recurses := true, named := ["unicode/utf8.first", "unicode/utf8.acceptRanges", "internal/bytealg.MaxLen"], apart := false, laid := [("unicode/utf8.acceptRanges", laid_unicode_utf8_acceptRanges), ("unicode/utf8.first", laid_unicode_utf8_first)], narrowed := true }
def LineSplicesUptoSaid : Prop := lineSplicesUptoRow.holds Tryd.pinned (OpenSpec.upto lineSplicesSpec)

/-- 'quiltworklaw01.LineAgain', WHERE WHAT IT READS IS OF BULK AT MOST 1048576: true; the input reads as it did. -/
def lineAgainUptoRow : OpenClaim := { program := "ytgokinfjlollpaadoor", sum := "223bdfb6d160413de61985026685a02e011f175ed626f65d670cefd1f39f7d5f", func := "quiltwork/quiltworklaw01.LineAgain", spec := "lineAgain", inPlace := ["internal/bytealg.CountString", "internal/bytealg.IndexByteString", "internal/bytealg.IndexString", "internal/abi.NoEscape"], unfollowed := true, recurses := true, named := ["unicode/utf8.first", "unicode/utf8.acceptRanges", "internal/bytealg.MaxLen"], apart := false, laid := [("unicode/utf8.acceptRanges", laid_unicode_utf8_acceptRanges), ("unicode/utf8.first", laid_unicode_utf8_first)], narrowed := true }
def LineAgainUptoSaid : Prop := lineAgainUptoRow.holds Tryd.pinned (OpenSpec.upto lineAgainSpec)

/-- 'quiltworklaw01.LineFinds', WHERE WHAT IT READS IS OF BULK AT MOST 1048576: true; the input reads as it did. -/
def lineFindsUptoRow : OpenClaim := { program := "ytgokinfjlollpaadoor", sum := "223bdfb6d160413de61985026685a02e011f175ed626f65d670cefd1f39f7d5f", func := "quiltwork/quiltworklaw01.LineFinds", spec := "lineFinds", inPlace := ["internal/bytealg.CountString", "internal/bytealg.IndexByteString", "internal/bytealg.IndexString", "internal/abi.NoEscape"], unfollowed := true, recurses := true, named := ["unicode/utf8.first", "unicode/utf8.acceptRanges", "internal/bytealg.MaxLen"], apart := false, laid := [("unicode/utf8.acceptRanges", laid_unicode_utf8_acceptRanges), ("unicode/utf8.first", laid_unicode_utf8_first)], narrowed := true }
def LineFindsUptoSaid : Prop := lineFindsUptoRow.holds Tryd.pinned (OpenSpec.upto lineFindsSpec)

/-- 'quiltworklaw01.LineEnds', WHERE WHAT IT READS IS OF BULK AT MOST 1048576: true; the input reads as it did. -/
def lineEndsUptoRow : OpenClaim := { program := "ytgokinfjlollpaadoor", sum := "223bdfb6d160413de61985026685a02e011f175ed626f65d670cefd1f39f7d5f", func := "quiltwork/quiltworklaw01.LineEnds", spec := "lineEnds", inPlace := ["internal/bytealg.CountString", "internal/bytealg.IndexByteString", "internal/bytealg.IndexString", "internal/abi.NoEscape"], unfollowed := true, recurses := true, named := ["unicode/utf8.first", "unicode/utf8.acceptRanges", "internal/bytealg.MaxLen"], apart := false, laid := [("unicode/utf8.acceptRanges", laid_unicode_utf8_acceptRanges), ("unicode/utf8.first", laid_unicode_utf8_first)], narrowed := true }
def LineEndsUptoSaid : Prop := lineEndsUptoRow.holds Tryd.pinned (OpenSpec.upto lineEndsSpec)

/-- 'quiltworklaw01.LineBack', WHERE WHAT IT READS IS OF BULK AT MOST 1048576: true; the input reads as it did. -/
def lineBackUptoRow : OpenClaim := { program := "ytgokinfjlollpaadoor", sum := "223bdfb6d160413de61985026685a02e011f175ed626f65d670cefd1f39f7d5f", func := "quiltwork/quiltworklaw01.LineBack", spec := "lineBack", inPlace := ["internal/bytealg.CountString", "internal/bytealg.IndexByteString", "internal/bytealg.IndexString", "internal/abi.NoEscape"], unfollowed := true, recurses := true, named := ["unicode/utf8.first", "unicode/utf8.acceptRanges", "internal/bytealg.MaxLen"], apart := false, laid := [("unicode/utf8.acceptRanges", laid_unicode_utf8_acceptRanges), ("unicode/utf8.first", laid_unicode_utf8_first)], narrowed := true }
def LineBackUptoSaid : Prop := lineBackUptoRow.holds Tryd.pinned (OpenSpec.upto lineBackSpec)

/-- 'quiltworklaw01.LineParts', WHERE WHAT IT READS IS OF BULK AT MOST 1048576: true; the input reads as it did. -/
def linePartsUptoRow : OpenClaim := { program := "ytgokinfjlollpaadoor", sum := "223bdfb6d160413de61985026685a02e011f175ed626f65d670cefd1f39f7d5f", func := "quiltwork/quiltworklaw01.LineParts", spec := "lineParts", inPlace := ["internal/bytealg.CountString", "internal/bytealg.IndexByteString", "internal/bytealg.IndexString", "internal/abi.NoEscape"], unfollowed := true, recurses := true, named := ["unicode/utf8.first", "unicode/utf8.acceptRanges", "internal/bytealg.MaxLen"], apart := false, laid := [("unicode/utf8.acceptRanges", laid_unicode_utf8_acceptRanges), ("unicode/utf8.first", laid_unicode_utf8_first)], narrowed := true }
def LinePartsUptoSaid : Prop := linePartsUptoRow.holds Tryd.pinned (OpenSpec.upto linePartsSpec)

end Rows
end Go.Proofs.YtgokinfjlollpaaDoor
