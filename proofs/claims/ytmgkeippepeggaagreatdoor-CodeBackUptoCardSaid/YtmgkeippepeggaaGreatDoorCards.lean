/-
  DERIVED. GIVEN WITH THE SEED: THE CARDS: each row of YtmgkeippepeggaaGreatDoorRows.lean that lists a variable, with what it lists TIED to the program's text (the seventh form; the later family's looks); each row that meets fmt, with fmt's text TOLD by the authors' own Lean function (tested against real Go, not proved from fmt's source: count such statements apart). THE CARD IS WHAT COUNTS. Prove the row's statement (the work); the ties are given (YtmgkeippepeggaaGreatDoorTie.lean); close each card by the builder's one call (the guide's Derived/Test/ToyasCard.lean, 'card_holds'). Laid BY PROGRAM, IN A SANDBOX (cutbox-door.mjs). By AI agents, Wed Nov 11 2026. No macro, syntax, notation, axiom, sorry.
-/
import Derived.Test.YtmgkeippepeggaaGreatDoorRows
import GoSem.ClaimSeven
namespace Go.Proofs.YtmgkeippepeggaaGreatDoor
namespace Rows

/-- THE TIED CARD OF 'quiltworklaw09.CodeWrites'. -/
def codeWritesCard : Claim7 := { stood := { row := codeWritesRow, standIns := [], harness := (true, "6d03a9e2d4cfed1b2d9285196519f58a923d9b52a2270e802c816d31694e04cb"), looks := true }, kinds := [], alts := [], laidByText := true, laidKinds := [.data, .data, .data, .data, .sentinel, .sentinel, .pinned], laidTests := true, laidLooks := .later }
def CodeWritesCardSaid : Prop := Claim7.holds Tryz.pinned (.plain (OpenSpec.ofChange codeWritesSpec)) codeWritesCard

/-- THE TIED CARD OF 'quiltworklaw09.CodeApart'. -/
def codeApartCard : Claim7 := { stood := { row := codeApartRow, standIns := [], harness := (true, "6d03a9e2d4cfed1b2d9285196519f58a923d9b52a2270e802c816d31694e04cb"), looks := true }, kinds := [], alts := [], laidByText := true, laidKinds := [.data, .data, .data, .data, .sentinel, .sentinel, .pinned], laidTests := true, laidLooks := .later }
def CodeApartCardSaid : Prop := Claim7.holds Tryz.pinned (.plain (OpenSpec.ofChange codeApartSpec)) codeApartCard

/-- THE TIED CARD OF 'quiltworklaw09.CodeReads'. -/
def codeReadsCard : Claim7 := { stood := { row := codeReadsRow, standIns := [], harness := (true, "6d03a9e2d4cfed1b2d9285196519f58a923d9b52a2270e802c816d31694e04cb"), looks := true }, kinds := [], alts := [], laidByText := true, laidKinds := [.data, .data, .data, .data, .sentinel, .sentinel, .pinned], laidTests := true, laidLooks := .later }
def CodeReadsCardSaid : Prop := Claim7.holds Tryz.pinned (.plain (OpenSpec.ofChange codeReadsSpec)) codeReadsCard

/-- THE TIED CARD OF 'quiltworklaw09.CodeBack'. -/
def codeBackCard : Claim7 := { stood := { row := codeBackRow, standIns := [], harness := (true, "6d03a9e2d4cfed1b2d9285196519f58a923d9b52a2270e802c816d31694e04cb"), looks := true }, kinds := [], alts := [], laidByText := true, laidKinds := [.data, .data, .data, .data, .sentinel, .sentinel, .pinned], laidTests := true, laidLooks := .later }
def CodeBackCardSaid : Prop := Claim7.holds Tryz.pinned (.plain (OpenSpec.ofChange codeBackSpec)) codeBackCard

/-- THE TIED CARD OF 'quiltworklaw09.CodeOne'. -/
def codeOneCard : Claim7 := { stood := { row := codeOneRow, standIns := [], harness := (true, "6d03a9e2d4cfed1b2d9285196519f58a923d9b52a2270e802c816d31694e04cb"), looks := true }, kinds := [], alts := [], laidByText := true, laidKinds := [.data, .data, .data, .data, .sentinel, .sentinel, .pinned], laidTests := true, laidLooks := .later }
def CodeOneCardSaid : Prop := Claim7.holds Tryz.pinned (.plain (OpenSpec.ofChange codeOneSpec)) codeOneCard

/-- THE TIED CARD OF 'quiltworklaw09.CodeSpoils'. -/
def codeSpoilsCard : Claim7 := { stood := { row := codeSpoilsRow, standIns := [], harness := (true, "6d03a9e2d4cfed1b2d9285196519f58a923d9b52a2270e802c816d31694e04cb"), looks := true }, kinds := [], alts := [], laidByText := true, laidKinds := [.data, .data, .data, .data, .sentinel, .sentinel, .pinned], laidTests := true, laidLooks := .later }
def CodeSpoilsCardSaid : Prop := Claim7.holds Tryz.pinned (.plain (OpenSpec.ofChange codeSpoilsSpec)) codeSpoilsCard

/-- THE SECOND FORM's CARD OF 'quiltworklaw09.CodeWrites'. -/
def codeWritesUptoCard : Claim7 := { stood := { row := codeWritesUptoRow, standIns := [], harness := (true, "6d03a9e2d4cfed1b2d9285196519f58a923d9b52a2270e802c816d31694e04cb"), looks := true }, kinds := [], alts := [], laidByText := true, laidKinds := [.data, .data, .data, .data, .sentinel, .sentinel, .pinned], laidTests := true, laidLooks := .later }
def CodeWritesUptoCardSaid : Prop := Claim7.holds Tryz.pinned (.plain (OpenSpec.upto codeWritesSpec)) codeWritesUptoCard

/-- THE SECOND FORM's CARD OF 'quiltworklaw09.CodeApart'. -/
def codeApartUptoCard : Claim7 := { stood := { row := codeApartUptoRow, standIns := [], harness := (true, "6d03a9e2d4cfed1b2d9285196519f58a923d9b52a2270e802c816d31694e04cb"), looks := true }, kinds := [], alts := [], laidByText := true, laidKinds := [.data, .data, .data, .data, .sentinel, .sentinel, .pinned], laidTests := true, laidLooks := .later }
def CodeApartUptoCardSaid : Prop := Claim7.holds Tryz.pinned (.plain (OpenSpec.upto codeApartSpec)) codeApartUptoCard

/-- THE SECOND FORM's CARD OF 'quiltworklaw09.CodeReads'. -/
def codeReadsUptoCard : Claim7 := { stood := { row := codeReadsUptoRow, standIns := [], harness := (true, "6d03a9e2d4cfed1b2d9285196519f58a923d9b52a2270e802c816d31694e04cb"), looks := true }, kinds := [], alts := [], laidByText := true, laidKinds := [.data, .data, .data, .data, .sentinel, .sentinel, .pinned], laidTests := true, laidLooks := .later }
def CodeReadsUptoCardSaid : Prop := Claim7.holds Tryz.pinned (.plain (OpenSpec.upto codeReadsSpec)) codeReadsUptoCard

/-- THE SECOND FORM's CARD OF 'quiltworklaw09.CodeBack'. -/
def codeBackUptoCard : Claim7 := { stood := { row := codeBackUptoRow, standIns := [], harness := (true, "6d03a9e2d4cfed1b2d9285196519f58a923d9b52a2270e802c816d31694e04cb"), looks := true }, kinds := [], alts := [], laidByText := true, laidKinds := [.data, .data, .data, .data, .sentinel, .sentinel, .pinned], laidTests := true, laidLooks := .later }
def CodeBackUptoCardSaid : Prop := Claim7.holds Tryz.pinned (.plain (OpenSpec.upto codeBackSpec)) codeBackUptoCard

/-- THE SECOND FORM's CARD OF 'quiltworklaw09.CodeOne'. -/
def codeOneUptoCard : Claim7 := { stood := { row := codeOneUptoRow, standIns := [], harness := (true, "6d03a9e2d4cfed1b2d9285196519f58a923d9b52a2270e802c816d31694e04cb"), looks := true }, kinds := [], alts := [], laidByText := true, laidKinds := [.data, .data, .data, .data, .sentinel, .sentinel, .pinned], laidTests := true, laidLooks := .later }
def CodeOneUptoCardSaid : Prop := Claim7.holds Tryz.pinned (.plain (OpenSpec.upto codeOneSpec)) codeOneUptoCard

/-- THE SECOND FORM's CARD OF 'quiltworklaw09.CodeSpoils'. -/
def codeSpoilsUptoCard : Claim7 := { stood := { row := codeSpoilsUptoRow, standIns := [], harness := (true, "6d03a9e2d4cfed1b2d9285196519f58a923d9b52a2270e802c816d31694e04cb"), looks := true }, kinds := [], alts := [], laidByText := true, laidKinds := [.data, .data, .data, .data, .sentinel, .sentinel, .pinned], laidTests := true, laidLooks := .later }
def CodeSpoilsUptoCardSaid : Prop := Claim7.holds Tryz.pinned (.plain (OpenSpec.upto codeSpoilsSpec)) codeSpoilsUptoCard
end Rows
end Go.Proofs.YtmgkeippepeggaaGreatDoor
