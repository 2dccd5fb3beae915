/-
  DERIVED. GIVEN WITH THE SEED: THE CARDS: each row of YtkkgagllehdhhaaGreatDoorRows.lean that lists a variable, with what it lists TIED to the program's text (the seventh form; the later family's looks); each row that meets fmt, with fmt's text TOLD by the authors' own Lean function (tested against real Go, not proved from fmt's source: count such statements apart). THE CARD IS WHAT COUNTS. Prove the row's statement (the work); the ties are given (YtkkgagllehdhhaaGreatDoorTie.lean); close each card by the builder's one call (the guide's Derived/Test/ToyasCard.lean, 'card_holds'). Laid BY PROGRAM, IN A SANDBOX (cutbox-door.mjs). By AI agents, Wed Nov 11 2026. No macro, syntax, notation, axiom, sorry.
-/
import Derived.Test.YtkkgagllehdhhaaGreatDoorRows
import GoSem.ClaimSeven
namespace Go.Proofs.YtkkgagllehdhhaaGreatDoor
namespace Rows

/-- THE TIED CARD OF 'laws.FnExactTree'. -/
def fnExactTreeCard : Claim7 := { stood := { row := fnExactTreeRow, standIns := [], harness := (true, "afe1742701a88fb1b47df2f0da2ae4ecf1630b7315291b42bc6113cde6548e0b"), looks := false }, kinds := [], alts := [], laidByText := true, laidKinds := [.data, .data, .data, .data, .pinned], laidTests := true, laidLooks := .later }
def FnExactTreeCardSaid : Prop := Claim7.holds Tryz.pinned (.plain (OpenSpec.ofChange fnExactTreeSpec)) fnExactTreeCard

/-- THE TIED CARD OF 'laws.FnExactRepText'. -/
def fnExactRepTextCard : Claim7 := { stood := { row := fnExactRepTextRow, standIns := [], harness := (true, "afe1742701a88fb1b47df2f0da2ae4ecf1630b7315291b42bc6113cde6548e0b"), looks := false }, kinds := [], alts := [], laidByText := true, laidKinds := [.data, .data, .data, .data, .pinned], laidTests := true, laidLooks := .later }
def FnExactRepTextCardSaid : Prop := Claim7.holds Tryz.pinned (.plain (OpenSpec.ofChange fnExactRepTextSpec)) fnExactRepTextCard

/-- THE TIED CARD OF 'laws.FnExactWorldText'. -/
def fnExactWorldTextCard : Claim7 := { stood := { row := fnExactWorldTextRow, standIns := [], harness := (true, "afe1742701a88fb1b47df2f0da2ae4ecf1630b7315291b42bc6113cde6548e0b"), looks := false }, kinds := [], alts := [], laidByText := true, laidKinds := [.data, .data, .data, .data, .pinned], laidTests := true, laidLooks := .later }
def FnExactWorldTextCardSaid : Prop := Claim7.holds Tryz.pinned (.plain (OpenSpec.ofChange fnExactWorldTextSpec)) fnExactWorldTextCard

/-- THE TIED CARD OF 'laws.FnExactRoomOk'. -/
def fnExactRoomOkCard : Claim7 := { stood := { row := fnExactRoomOkRow, standIns := [], harness := (true, "afe1742701a88fb1b47df2f0da2ae4ecf1630b7315291b42bc6113cde6548e0b"), looks := false }, kinds := [], alts := [], laidByText := true, laidKinds := [.data, .data, .data, .data, .pinned], laidTests := true, laidLooks := .later }
def FnExactRoomOkCardSaid : Prop := Claim7.holds Tryz.pinned (.plain (OpenSpec.ofChange fnExactRoomOkSpec)) fnExactRoomOkCard

/-- THE TIED CARD OF 'laws.FnExactJudgeVotes'. -/
def fnExactJudgeVotesCard : Claim7 := { stood := { row := fnExactJudgeVotesRow, standIns := [], harness := (true, "afe1742701a88fb1b47df2f0da2ae4ecf1630b7315291b42bc6113cde6548e0b"), looks := false }, kinds := [], alts := [], laidByText := true, laidKinds := [.data, .data, .data, .data, .pinned], laidTests := true, laidLooks := .later }
def FnExactJudgeVotesCardSaid : Prop := Claim7.holds Tryz.pinned (.plain (OpenSpec.ofChange fnExactJudgeVotesSpec)) fnExactJudgeVotesCard

/-- THE TIED CARD OF 'laws.FnExactTop'. -/
def fnExactTopCard : Claim7 := { stood := { row := fnExactTopRow, standIns := [], harness := (true, "afe1742701a88fb1b47df2f0da2ae4ecf1630b7315291b42bc6113cde6548e0b"), looks := false }, kinds := [], alts := [], laidByText := true, laidKinds := [.data, .data, .data, .data, .pinned], laidTests := true, laidLooks := .later }
def FnExactTopCardSaid : Prop := Claim7.holds Tryz.pinned (.plain (OpenSpec.ofChange fnExactTopSpec)) fnExactTopCard

/-- THE TIED CARD OF 'laws.FnExactJudgeOne'. -/
def fnExactJudgeOneCard : Claim7 := { stood := { row := fnExactJudgeOneRow, standIns := [], harness := (true, "afe1742701a88fb1b47df2f0da2ae4ecf1630b7315291b42bc6113cde6548e0b"), looks := false }, kinds := [], alts := [], laidByText := true, laidKinds := [.data, .data, .data, .data, .pinned], laidTests := true, laidLooks := .later }
def FnExactJudgeOneCardSaid : Prop := Claim7.holds Tryz.pinned (.plain (OpenSpec.ofChange fnExactJudgeOneSpec)) fnExactJudgeOneCard

/-- THE TIED CARD OF 'laws.FnExactJudgeCerts'. -/
def fnExactJudgeCertsCard : Claim7 := { stood := { row := fnExactJudgeCertsRow, standIns := [], harness := (true, "afe1742701a88fb1b47df2f0da2ae4ecf1630b7315291b42bc6113cde6548e0b"), looks := false }, kinds := [], alts := [], laidByText := true, laidKinds := [.data, .data, .data, .data, .pinned], laidTests := true, laidLooks := .later }
def FnExactJudgeCertsCardSaid : Prop := Claim7.holds Tryz.pinned (.plain (OpenSpec.ofChange fnExactJudgeCertsSpec)) fnExactJudgeCertsCard

/-- THE TIED CARD OF 'laws.FnExactJudgeKept'. -/
def fnExactJudgeKeptCard : Claim7 := { stood := { row := fnExactJudgeKeptRow, standIns := [], harness := (true, "afe1742701a88fb1b47df2f0da2ae4ecf1630b7315291b42bc6113cde6548e0b"), looks := false }, kinds := [], alts := [], laidByText := true, laidKinds := [.data, .data, .data, .data, .pinned], laidTests := true, laidLooks := .later }
def FnExactJudgeKeptCardSaid : Prop := Claim7.holds Tryz.pinned (.plain (OpenSpec.ofChange fnExactJudgeKeptSpec)) fnExactJudgeKeptCard

/-- THE TIED CARD OF 'laws.FnExactJudgePaid'. -/
def fnExactJudgePaidCard : Claim7 := { stood := { row := fnExactJudgePaidRow, standIns := [], harness := (true, "afe1742701a88fb1b47df2f0da2ae4ecf1630b7315291b42bc6113cde6548e0b"), looks := false }, kinds := [], alts := [], laidByText := true, laidKinds := [.data, .data, .data, .data, .pinned], laidTests := true, laidLooks := .later }
def FnExactJudgePaidCardSaid : Prop := Claim7.holds Tryz.pinned (.plain (OpenSpec.ofChange fnExactJudgePaidSpec)) fnExactJudgePaidCard

/-- THE TIED CARD OF 'laws.FnExactJudgeAll'. -/
def fnExactJudgeAllCard : Claim7 := { stood := { row := fnExactJudgeAllRow, standIns := [], harness := (true, "afe1742701a88fb1b47df2f0da2ae4ecf1630b7315291b42bc6113cde6548e0b"), looks := false }, kinds := [], alts := [], laidByText := true, laidKinds := [.data, .data, .data, .data, .pinned], laidTests := true, laidLooks := .later }
def FnExactJudgeAllCardSaid : Prop := Claim7.holds Tryz.pinned (.plain (OpenSpec.ofChange fnExactJudgeAllSpec)) fnExactJudgeAllCard

/-- THE SECOND FORM's CARD OF 'laws.FnExactTree'. -/
def fnExactTreeUptoCard : Claim7 := { stood := { row := fnExactTreeUptoRow, standIns := [], harness := (true, "afe1742701a88fb1b47df2f0da2ae4ecf1630b7315291b42bc6113cde6548e0b"), looks := false }, kinds := [], alts := [], laidByText := true, laidKinds := [.data, .data, .data, .data, .pinned], laidTests := true, laidLooks := .later }
def FnExactTreeUptoCardSaid : Prop := Claim7.holds Tryz.pinned (.plain (OpenSpec.upto fnExactTreeSpec)) fnExactTreeUptoCard

/-- THE SECOND FORM's CARD OF 'laws.FnExactRepText'. -/
def fnExactRepTextUptoCard : Claim7 := { stood := { row := fnExactRepTextUptoRow, standIns := [], harness := (true, "afe1742701a88fb1b47df2f0da2ae4ecf1630b7315291b42bc6113cde6548e0b"), looks := false }, kinds := [], alts := [], laidByText := true, laidKinds := [.data, .data, .data, .data, .pinned], laidTests := true, laidLooks := .later }
def FnExactRepTextUptoCardSaid : Prop := Claim7.holds Tryz.pinned (.plain (OpenSpec.upto fnExactRepTextSpec)) fnExactRepTextUptoCard

/-- THE SECOND FORM's CARD OF 'laws.FnExactWorldText'. -/
def fnExactWorldTextUptoCard : Claim7 := { stood := { row := fnExactWorldTextUptoRow, standIns := [], harness := (true, "afe1742701a88fb1b47df2f0da2ae4ecf1630b7315291b42bc6113cde6548e0b"), looks := false }, kinds := [], alts := [], laidByText := true, laidKinds := [.data, .data, .data, .data, .pinned], laidTests := true, laidLooks := .later }
def FnExactWorldTextUptoCardSaid : Prop := Claim7.holds Tryz.pinned (.plain (OpenSpec.upto fnExactWorldTextSpec)) fnExactWorldTextUptoCard

/-- THE SECOND FORM's CARD OF 'laws.FnExactRoomOk'. -/
def fnExactRoomOkUptoCard : Claim7 := { stood := { row := fnExactRoomOkUptoRow, standIns := [], harness := (true, "afe1742701a88fb1b47df2f0da2ae4ecf1630b7315291b42bc6113cde6548e0b"), looks := false }, kinds := [], alts := [], laidByText := true, laidKinds := [.data, .data, .data, .data, .pinned], laidTests := true, laidLooks := .later }
def FnExactRoomOkUptoCardSaid : Prop := Claim7.holds Tryz.pinned (.plain (OpenSpec.upto fnExactRoomOkSpec)) fnExactRoomOkUptoCard

/-- THE SECOND FORM's CARD OF 'laws.FnExactJudgeVotes'. -/
def fnExactJudgeVotesUptoCard : Claim7 := { stood := { row := fnExactJudgeVotesUptoRow, standIns := [], harness := (true, "afe1742701a88fb1b47df2f0da2ae4ecf1630b7315291b42bc6113cde6548e0b"), looks := false }, kinds := [], alts := [], laidByText := true, laidKinds := [.data, .data, .data, .data, .pinned], laidTests := true, laidLooks := .later }
def FnExactJudgeVotesUptoCardSaid : Prop := Claim7.holds Tryz.pinned (.plain (OpenSpec.upto fnExactJudgeVotesSpec)) fnExactJudgeVotesUptoCard

/-- THE SECOND FORM's CARD OF 'laws.FnExactTop'. -/
def fnExactTopUptoCard : Claim7 := { stood := { row := fnExactTopUptoRow, standIns := [], harness := (true, "afe1742701a88fb1b47df2f0da2ae4ecf1630b7315291b42bc6113cde6548e0b"), looks := false }, kinds := [], alts := [], laidByText := true, laidKinds := [.data, .data, .data, .data, .pinned], laidTests := true, laidLooks := .later }
def FnExactTopUptoCardSaid : Prop := Claim7.holds Tryz.pinned (.plain (OpenSpec.upto fnExactTopSpec)) fnExactTopUptoCard

/-- THE SECOND FORM's CARD OF 'laws.FnExactJudgeOne'. -/
def fnExactJudgeOneUptoCard : Claim7 := { stood := { row := fnExactJudgeOneUptoRow, standIns := [], harness := (true, "afe1742701a88fb1b47df2f0da2ae4ecf1630b7315291b42bc6113cde6548e0b"), looks := false }, kinds := [], alts := [], laidByText := true, laidKinds := [.data, .data, .data, .data, .pinned], laidTests := true, laidLooks := .later }
def FnExactJudgeOneUptoCardSaid : Prop := Claim7.holds Tryz.pinned (.plain (OpenSpec.upto fnExactJudgeOneSpec)) fnExactJudgeOneUptoCard

/-- THE SECOND FORM's CARD OF 'laws.FnExactJudgeCerts'. -/
def fnExactJudgeCertsUptoCard : Claim7 := { stood := { row := fnExactJudgeCertsUptoRow, standIns := [], harness := (true, "afe1742701a88fb1b47df2f0da2ae4ecf1630b7315291b42bc6113cde6548e0b"), looks := false }, kinds := [], alts := [], laidByText := true, laidKinds := [.data, .data, .data, .data, .pinned], laidTests := true, laidLooks := .later }
def FnExactJudgeCertsUptoCardSaid : Prop := Claim7.holds Tryz.pinned (.plain (OpenSpec.upto fnExactJudgeCertsSpec)) fnExactJudgeCertsUptoCard

/-- THE SECOND FORM's CARD OF 'laws.FnExactJudgeKept'. -/
def fnExactJudgeKeptUptoCard : Claim7 := { stood := { row := fnExactJudgeKeptUptoRow, standIns := [], harness := (true, "afe1742701a88fb1b47df2f0da2ae4ecf1630b7315291b42bc6113cde6548e0b"), looks := false }, kinds := [], alts := [], laidByText := true, laidKinds := [.data, .data, .data, .data, .pinned], laidTests := true, laidLooks := .later }
def FnExactJudgeKeptUptoCardSaid : Prop := Claim7.holds Tryz.pinned (.plain (OpenSpec.upto fnExactJudgeKeptSpec)) fnExactJudgeKeptUptoCard

/-- THE SECOND FORM's CARD OF 'laws.FnExactJudgePaid'. -/
def fnExactJudgePaidUptoCard : Claim7 := { stood := { row := fnExactJudgePaidUptoRow, standIns := [], harness := (true, "afe1742701a88fb1b47df2f0da2ae4ecf1630b7315291b42bc6113cde6548e0b"), looks := false }, kinds := [], alts := [], laidByText := true, laidKinds := [.data, .data, .data, .data, .pinned], laidTests := true, laidLooks := .later }
def FnExactJudgePaidUptoCardSaid : Prop := Claim7.holds Tryz.pinned (.plain (OpenSpec.upto fnExactJudgePaidSpec)) fnExactJudgePaidUptoCard

/-- THE SECOND FORM's CARD OF 'laws.FnExactJudgeAll'. -/
def fnExactJudgeAllUptoCard : Claim7 := { stood := { row := fnExactJudgeAllUptoRow, standIns := [], harness := (true, "afe1742701a88fb1b47df2f0da2ae4ecf1630b7315291b42bc6113cde6548e0b"), looks := false }, kinds := [], alts := [], laidByText := true, laidKinds := [.data, .data, .data, .data, .pinned], laidTests := true, laidLooks := .later }
def FnExactJudgeAllUptoCardSaid : Prop := Claim7.holds Tryz.pinned (.plain (OpenSpec.upto fnExactJudgeAllSpec)) fnExactJudgeAllUptoCard
end Rows
end Go.Proofs.YtkkgagllehdhhaaGreatDoor
