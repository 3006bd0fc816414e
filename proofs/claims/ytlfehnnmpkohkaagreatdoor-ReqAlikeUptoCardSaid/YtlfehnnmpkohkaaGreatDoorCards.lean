/-
  DERIVED. GIVEN WITH THE SEED: THE CARDS: each row of YtlfehnnmpkohkaaGreatDoorRows.lean that lists a variable, with what it lists TIED to the program's text (the seventh form; the later family's looks); each row that meets fmt, with fmt's text TOLD by the authors' own Lean function (tested against real Go, not proved from fmt's source: count such statements apart). THE CARD IS WHAT COUNTS. Prove the row's statement (the work); the ties are given (YtlfehnnmpkohkaaGreatDoorTie.lean); close each card by the builder's one call (the guide's Derived/Test/ToyasCard.lean, 'card_holds'). Laid BY PROGRAM, IN A SANDBOX (cutbox-door.mjs). By AI agents, Wed Nov 11 2026. No macro, syntax, notation, axiom, sorry.
-/
import Derived.Test.YtlfehnnmpkohkaaGreatDoorRows
import GoSem.ClaimSeven
namespace Go.Proofs.YtlfehnnmpkohkaaGreatDoor
namespace Rows

/-- THE TIED CARD OF 'quiltworklaw16.ReqRight'. -/
def reqRightCard : Claim7 := { stood := { row := reqRightRow, standIns := [], harness := (true, "894549b700650531200670345886dce63747e5cb365f9b82109e9dd3db5aad89"), looks := true }, kinds := [], alts := [], laidByText := true, laidKinds := [.data, .data, .data, .data, .sentinel, .sentinel, .pinned], laidTests := true, laidLooks := .later }
def ReqRightCardSaid : Prop := Claim7.holds Tryz.pinned (.plain (OpenSpec.ofChange reqRightSpec)) reqRightCard

/-- THE TIED CARD OF 'quiltworklaw16.ReqPacks'. -/
def reqPacksCard : Claim7 := { stood := { row := reqPacksRow, standIns := [], harness := (true, "894549b700650531200670345886dce63747e5cb365f9b82109e9dd3db5aad89"), looks := true }, kinds := [], alts := [], laidByText := true, laidKinds := [.data, .data, .data, .data, .sentinel, .sentinel, .pinned], laidTests := true, laidLooks := .later }
def ReqPacksCardSaid : Prop := Claim7.holds Tryz.pinned (.plain (OpenSpec.ofChange reqPacksSpec)) reqPacksCard

/-- THE TIED CARD OF 'quiltworklaw16.ReqUnpacks'. -/
def reqUnpacksCard : Claim7 := { stood := { row := reqUnpacksRow, standIns := [], harness := (true, "894549b700650531200670345886dce63747e5cb365f9b82109e9dd3db5aad89"), looks := true }, kinds := [], alts := [], laidByText := true, laidKinds := [.data, .data, .data, .data, .sentinel, .sentinel, .pinned], laidTests := true, laidLooks := .later }
def ReqUnpacksCardSaid : Prop := Claim7.holds Tryz.pinned (.plain (OpenSpec.ofChange reqUnpacksSpec)) reqUnpacksCard

/-- THE TIED CARD OF 'quiltworklaw16.ReqAnswers'. -/
def reqAnswersCard : Claim7 := { stood := { row := reqAnswersRow, standIns := [], harness := (true, "894549b700650531200670345886dce63747e5cb365f9b82109e9dd3db5aad89"), looks := true }, kinds := [], alts := [], laidByText := true, laidKinds := [.data, .data, .data, .data, .sentinel, .sentinel, .pinned], laidTests := true, laidLooks := .later }
def ReqAnswersCardSaid : Prop := Claim7.holds Tryz.pinned (.plain (OpenSpec.ofChange reqAnswersSpec)) reqAnswersCard

/-- THE TIED CARD OF 'quiltworklaw16.ReqParses'. -/
def reqParsesCard : Claim7 := { stood := { row := reqParsesRow, standIns := [], harness := (true, "894549b700650531200670345886dce63747e5cb365f9b82109e9dd3db5aad89"), looks := true }, kinds := [], alts := [], laidByText := true, laidKinds := [.data, .data, .data, .data, .sentinel, .sentinel, .pinned], laidTests := true, laidLooks := .later }
def ReqParsesCardSaid : Prop := Claim7.holds Tryz.pinned (.plain (OpenSpec.ofChange reqParsesSpec)) reqParsesCard

/-- THE TIED CARD OF 'quiltworklaw16.ReqAlike'. -/
def reqAlikeCard : Claim7 := { stood := { row := reqAlikeRow, standIns := [], harness := (true, "894549b700650531200670345886dce63747e5cb365f9b82109e9dd3db5aad89"), looks := true }, kinds := [], alts := [], laidByText := true, laidKinds := [.data, .data, .data, .data, .sentinel, .sentinel, .pinned], laidTests := true, laidLooks := .later }
def ReqAlikeCardSaid : Prop := Claim7.holds Tryz.pinned (.plain (OpenSpec.ofChange reqAlikeSpec)) reqAlikeCard

/-- THE TIED CARD OF 'quiltworklaw16.ReqLimits'. -/
def reqLimitsCard : Claim7 := { stood := { row := reqLimitsRow, standIns := [], harness := (true, "894549b700650531200670345886dce63747e5cb365f9b82109e9dd3db5aad89"), looks := true }, kinds := [], alts := [], laidByText := true, laidKinds := [.data, .data, .data, .data, .sentinel, .sentinel, .pinned], laidTests := true, laidLooks := .later }
def ReqLimitsCardSaid : Prop := Claim7.holds Tryz.pinned (.plain (OpenSpec.ofChange reqLimitsSpec)) reqLimitsCard

/-- THE SECOND FORM's CARD OF 'quiltworklaw16.ReqRight'. -/
def reqRightUptoCard : Claim7 := { stood := { row := reqRightUptoRow, standIns := [], harness := (true, "894549b700650531200670345886dce63747e5cb365f9b82109e9dd3db5aad89"), looks := true }, kinds := [], alts := [], laidByText := true, laidKinds := [.data, .data, .data, .data, .sentinel, .sentinel, .pinned], laidTests := true, laidLooks := .later }
def ReqRightUptoCardSaid : Prop := Claim7.holds Tryz.pinned (.plain (OpenSpec.upto reqRightSpec)) reqRightUptoCard

/-- THE SECOND FORM's CARD OF 'quiltworklaw16.ReqPacks'. -/
def reqPacksUptoCard : Claim7 := { stood := { row := reqPacksUptoRow, standIns := [], harness := (true, "894549b700650531200670345886dce63747e5cb365f9b82109e9dd3db5aad89"), looks := true }, kinds := [], alts := [], laidByText := true, laidKinds := [.data, .data, .data, .data, .sentinel, .sentinel, .pinned], laidTests := true, laidLooks := .later }
def ReqPacksUptoCardSaid : Prop := Claim7.holds Tryz.pinned (.plain (OpenSpec.upto reqPacksSpec)) reqPacksUptoCard

/-- THE SECOND FORM's CARD OF 'quiltworklaw16.ReqUnpacks'. -/
def reqUnpacksUptoCard : Claim7 := { stood := { row := reqUnpacksUptoRow, standIns := [], harness := (true, "894549b700650531200670345886dce63747e5cb365f9b82109e9dd3db5aad89"), looks := true }, kinds := [], alts := [], laidByText := true, laidKinds := [.data, .data, .data, .data, .sentinel, .sentinel, .pinned], laidTests := true, laidLooks := .later }
def ReqUnpacksUptoCardSaid : Prop := Claim7.holds Tryz.pinned (.plain (OpenSpec.upto reqUnpacksSpec)) reqUnpacksUptoCard

/-- THE SECOND FORM's CARD OF 'quiltworklaw16.ReqAnswers'. -/
def reqAnswersUptoCard : Claim7 := { stood := { row := reqAnswersUptoRow, standIns := [], harness := (true, "894549b700650531200670345886dce63747e5cb365f9b82109e9dd3db5aad89"), looks := true }, kinds := [], alts := [], laidByText := true, laidKinds := [.data, .data, .data, .data, .sentinel, .sentinel, .pinned], laidTests := true, laidLooks := .later }
def ReqAnswersUptoCardSaid : Prop := Claim7.holds Tryz.pinned (.plain (OpenSpec.upto reqAnswersSpec)) reqAnswersUptoCard

/-- THE SECOND FORM's CARD OF 'quiltworklaw16.ReqParses'. -/
def reqParsesUptoCard : Claim7 := { stood := { row := reqParsesUptoRow, standIns := [], harness := (true, "894549b700650531200670345886dce63747e5cb365f9b82109e9dd3db5aad89"), looks := true }, kinds := [], alts := [], laidByText := true, laidKinds := [.data, .data, .data, .data, .sentinel, .sentinel, .pinned], laidTests := true, laidLooks := .later }
def ReqParsesUptoCardSaid : Prop := Claim7.holds Tryz.pinned (.plain (OpenSpec.upto reqParsesSpec)) reqParsesUptoCard

/-- THE SECOND FORM's CARD OF 'quiltworklaw16.ReqAlike'. -/
def reqAlikeUptoCard : Claim7 := { stood := { row := reqAlikeUptoRow, standIns := [], harness := (true, "894549b700650531200670345886dce63747e5cb365f9b82109e9dd3db5aad89"), looks := true }, kinds := [], alts := [], laidByText := true, laidKinds := [.data, .data, .data, .data, .sentinel, .sentinel, .pinned], laidTests := true, laidLooks := .later }
def ReqAlikeUptoCardSaid : Prop := Claim7.holds Tryz.pinned (.plain (OpenSpec.upto reqAlikeSpec)) reqAlikeUptoCard

/-- THE SECOND FORM's CARD OF 'quiltworklaw16.ReqLimits'. -/
def reqLimitsUptoCard : Claim7 := { stood := { row := reqLimitsUptoRow, standIns := [], harness := (true, "894549b700650531200670345886dce63747e5cb365f9b82109e9dd3db5aad89"), looks := true }, kinds := [], alts := [], laidByText := true, laidKinds := [.data, .data, .data, .data, .sentinel, .sentinel, .pinned], laidTests := true, laidLooks := .later }
def ReqLimitsUptoCardSaid : Prop := Claim7.holds Tryz.pinned (.plain (OpenSpec.upto reqLimitsSpec)) reqLimitsUptoCard
end Rows
end Go.Proofs.YtlfehnnmpkohkaaGreatDoor
