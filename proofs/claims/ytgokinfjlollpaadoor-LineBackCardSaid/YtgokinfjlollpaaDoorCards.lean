/-
  DERIVED. GIVEN WITH THE SEED: THE CARDS: each row of YtgokinfjlollpaaDoorRows.lean that lists a variable, with what it lists TIED to the program's text (the seventh form; the later family's looks); each row that meets fmt, with fmt's text TOLD by the authors' own Lean function (tested against real Go, not proved from fmt's source: count such statements apart). THE CARD IS WHAT COUNTS. Prove the row's statement (the work); the ties are given (YtgokinfjlollpaaDoorTie.lean); close each card by the builder's one call (the guide's Derived/Test/ToyasCard.lean, 'card_holds'). Laid BY PROGRAM, IN A SANDBOX (cutbox-door.mjs). By AI agents, Wed Nov 11 2026. No macro, syntax, notation, axiom, sorry.
-/
import Derived.Test.YtgokinfjlollpaaDoorRows
import GoSem.ClaimSeven
namespace Go.Proofs.YtgokinfjlollpaaDoor
namespace Rows

/-- THE TIED CARD OF 'quiltworklaw01.LineCuts'. -/
def lineCutsCard : Claim7 := { stood := { row := lineCutsRow, standIns := [], harness := (true, "1c081add64f640b6bf4120201e3dee7ce7d2229767bd3641b59320867bb7fed9"), looks := false }, kinds := [], alts := [], laidByText := true, laidKinds := [.data, .pinned], laidTests := true, laidLooks := .later }
def LineCutsCardSaid : Prop := Claim7.holds Tryd.pinned (.plain (OpenSpec.ofChange lineCutsSpec)) lineCutsCard

/-- THE TIED CARD OF 'quiltworklaw01.LineRight'. -/
def lineRightCard : Claim7 := { stood := { row := lineRightRow, standIns := [], harness := (true, "1c081add64f640b6bf4120201e3dee7ce7d2229767bd3641b59320867bb7fed9"), looks := false }, kinds := [], alts := [], laidByText := true, laidKinds := [.data, .pinned], laidTests := true, laidLooks := .later }
def LineRightCardSaid : Prop := Claim7.holds Tryd.pinned (.plain (OpenSpec.ofChange lineRightSpec)) lineRightCard

/-- THE TIED CARD OF 'quiltworklaw01.LineSplices'. -/
def lineSplicesCard : Claim7 := { stood := { row := lineSplicesRow, standIns := [], harness := (true, "1c081add64f640b6bf4120201e3dee7ce7d2229767bd3641b59320867bb7fed9"), looks := false }, kinds := [], alts := [], laidByText := true, laidKinds := [.data, .pinned], laidTests := true, laidLooks := .later }
def LineSplicesCardSaid : Prop := Claim7.holds Tryd.pinned (.plain (OpenSpec.ofChange lineSplicesSpec)) lineSplicesCard

/-- THE TIED CARD OF 'quiltworklaw01.LineAgain'. -/
def lineAgainCard : Claim7 := { stood := { row := lineAgainRow, standIns := [], harness := (true, "1c081add64f640b6bf4120201e3dee7ce7d2229767bd3641b59320867bb7fed9"), looks := false }, kinds := [], alts := [], laidByText := true, laidKinds := [.data, .pinned], laidTests := true, laidLooks := .later }
def LineAgainCardSaid : Prop := Claim7.holds Tryd.pinned (.plain (OpenSpec.ofChange lineAgainSpec)) lineAgainCard

/-- THE TIED CARD OF 'quiltworklaw01.LineFinds'. -/
def lineFindsCard : Claim7 := { stood := { row := lineFindsRow, standIns := [], harness := (true, "1c081add64f640b6bf4120201e3dee7ce7d2229767bd3641b59320867bb7fed9"), looks := false }, kinds := [], alts := [], laidByText := true, laidKinds := [.data, .pinned], laidTests := true, laidLooks := .later }
def LineFindsCardSaid : Prop := Claim7.holds Tryd.pinned (.plain (OpenSpec.ofChange lineFindsSpec)) lineFindsCard

/-- THE TIED CARD OF 'quiltworklaw01.LineEnds'. -/
def lineEndsCard : Claim7 := { stood := { row := lineEndsRow, standIns := [], harness := (true, "1c081add64f640b6bf4120201e3dee7ce7d2229767bd3641b59320867bb7fed9"), looks := false }, kinds := [], alts := [], laidByText := true, laidKinds := [.data, .pinned], laidTests := true, laidLooks := .later }
def LineEndsCardSaid : Prop := Claim7.holds Tryd.pinned (.plain (OpenSpec.ofChange lineEndsSpec)) lineEndsCard

/-- THE TIED CARD OF 'quiltworklaw01.LineBack'. -/
def lineBackCard : Claim7 := { stood := { row := lineBackRow, standIns := [], harness := (true, "1c081add64f640b6bf4120201e3dee7ce7d2229767bd3641b59320867bb7fed9"), looks := false }, kinds := [], alts := [], laidByText := true, laidKinds := [.data, .pinned], laidTests := true, laidLooks := .later }
def LineBackCardSaid : Prop := Claim7.holds Tryd.pinned (.plain (OpenSpec.ofChange lineBackSpec)) lineBackCard

/-- THE TIED CARD OF 'quiltworklaw01.LineParts'. -/
def linePartsCard : Claim7 := { stood := { row := linePartsRow, standIns := [], harness := (true, "1c081add64f640b6bf4120201e3dee7ce7d2229767bd3641b59320867bb7fed9"), looks := false }, kinds := [], alts := [], laidByText := true, laidKinds := [.data, .pinned], laidTests := true, laidLooks := .later }
def LinePartsCardSaid : Prop := Claim7.holds Tryd.pinned (.plain (OpenSpec.ofChange linePartsSpec)) linePartsCard

/-- THE SECOND FORM's CARD OF 'quiltworklaw01.LineCuts'. -/
def lineCutsUptoCard : Claim7 := { stood := { row := lineCutsUptoRow, standIns := [], harness := (true, "1c081add64f640b6bf4120201e3dee7ce7d2229767bd3641b59320867bb7fed9"), looks := false }, kinds := [], alts := [], laidByText := true, laidKinds := [.data, .pinned], laidTests := true, laidLooks := .later }
def LineCutsUptoCardSaid : Prop := Claim7.holds Tryd.pinned (.plain (OpenSpec.upto lineCutsSpec)) lineCutsUptoCard

/-- THE SECOND FORM's CARD OF 'quiltworklaw01.LineRight'. -/
def lineRightUptoCard : Claim7 := { stood := { row := lineRightUptoRow, standIns := [], harness := (true, "1c081add64f640b6bf4120201e3dee7ce7d2229767bd3641b59320867bb7fed9"), looks := false }, kinds := [], alts := [], laidByText := true, laidKinds := [.data, .pinned], laidTests := true, laidLooks := .later }
def LineRightUptoCardSaid : Prop := Claim7.holds Tryd.pinned (.plain (OpenSpec.upto lineRightSpec)) lineRightUptoCard

/-- THE SECOND FORM's CARD OF 'quiltworklaw01.LineSplices'. -/
def lineSplicesUptoCard : Claim7 := { stood := { row := lineSplicesUptoRow, standIns := [], harness := (true, "1c081add64f640b6bf4120201e3dee7ce7d2229767bd3641b59320867bb7fed9"), looks := false }, kinds := [], alts := [], laidByText := true, laidKinds := [.data, .pinned], laidTests := true, laidLooks := .later }
def LineSplicesUptoCardSaid : Prop := Claim7.holds Tryd.pinned (.plain (OpenSpec.upto lineSplicesSpec)) lineSplicesUptoCard

/-- THE SECOND FORM's CARD OF 'quiltworklaw01.LineAgain'. -/
def lineAgainUptoCard : Claim7 := { stood := { row := lineAgainUptoRow, standIns := [], harness := (true, "1c081add64f640b6bf4120201e3dee7ce7d2229767bd3641b59320867bb7fed9"), looks := false }, kinds := [], alts := [], laidByText := true, laidKinds := [.data, .pinned], laidTests := true, laidLooks := .later }
def LineAgainUptoCardSaid : Prop := Claim7.holds Tryd.pinned (.plain (OpenSpec.upto lineAgainSpec)) lineAgainUptoCard

/-- THE SECOND FORM's CARD OF 'quiltworklaw01.LineFinds'. -/
def lineFindsUptoCard : Claim7 := { stood := { row := lineFindsUptoRow, standIns := [], harness := (true, "1c081add64f640b6bf4120201e3dee7ce7d2229767bd3641b59320867bb7fed9"), looks := false }, kinds := [], alts := [], laidByText := true, laidKinds := [.data, .pinned], laidTests := true, laidLooks := .later }
def LineFindsUptoCardSaid : Prop := Claim7.holds Tryd.pinned (.plain (OpenSpec.upto lineFindsSpec)) lineFindsUptoCard

/-- THE SECOND FORM's CARD OF 'quiltworklaw01.LineEnds'. -/
def lineEndsUptoCard : Claim7 := { stood := { row := lineEndsUptoRow, standIns := [], harness := (true, "1c081add64f640b6bf4120201e3dee7ce7d2229767bd3641b59320867bb7fed9"), looks := false }, kinds := [], alts := [], laidByText := true, laidKinds := [.data, .pinned], laidTests := true, laidLooks := .later }
def LineEndsUptoCardSaid : Prop := Claim7.holds Tryd.pinned (.plain (OpenSpec.upto lineEndsSpec)) lineEndsUptoCard

/-- THE SECOND FORM's CARD OF 'quiltworklaw01.LineBack'. -/
def lineBackUptoCard : Claim7 := { stood := { row := lineBackUptoRow, standIns := [], harness := (true, "1c081add64f640b6bf4120201e3dee7ce7d2229767bd3641b59320867bb7fed9"), looks := false }, kinds := [], alts := [], laidByText := true, laidKinds := [.data, .pinned], laidTests := true, laidLooks := .later }
def LineBackUptoCardSaid : Prop := Claim7.holds Tryd.pinned (.plain (OpenSpec.upto lineBackSpec)) lineBackUptoCard

/-- THE SECOND FORM's CARD OF 'quiltworklaw01.LineParts'. -/
def linePartsUptoCard : Claim7 := { stood := { row := linePartsUptoRow, standIns := [], harness := (true, "1c081add64f640b6bf4120201e3dee7ce7d2229767bd3641b59320867bb7fed9"), looks := false }, kinds := [], alts := [], laidByText := true, laidKinds := [.data, .pinned], laidTests := true, laidLooks := .later }
def LinePartsUptoCardSaid : Prop := Claim7.holds Tryd.pinned (.plain (OpenSpec.upto linePartsSpec)) linePartsUptoCard
end Rows
end Go.Proofs.YtgokinfjlollpaaDoor
