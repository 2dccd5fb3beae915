/-
  DERIVED. GIVEN WITH THE SEED: THE CARDS: each row of YtpkabclplaibaaaGreatDoorRows.lean that lists a variable, with what it lists TIED to the program's text (the seventh form; the later family's looks); each row that meets fmt, with fmt's text TOLD by the authors' own Lean function (tested against real Go, not proved from fmt's source: count such statements apart). THE CARD IS WHAT COUNTS. Prove the row's statement (the work); the ties are given (YtpkabclplaibaaaGreatDoorTie.lean); close each card by the builder's one call (the guide's Derived/Test/ToyasCard.lean, 'card_holds'). Laid BY PROGRAM, IN A SANDBOX (cutbox-door.mjs). By AI agents, Wed Nov 11 2026. No macro, syntax, notation, axiom, sorry.
-/
import Derived.Test.YtpkabclplaibaaaGreatDoorRows
import GoSem.ClaimSeven
namespace Go.Proofs.YtpkabclplaibaaaGreatDoor
namespace Rows

/-- THE TIED CARD OF 'laws.FnShown'. -/
def fnShownCard : Claim7 := { stood := { row := fnShownRow, standIns := [], harness := (true, "f4baf30034b693a344bd2f1c99bca1e57b77a87f765c7d658e87c4d359cde80c"), looks := false }, kinds := [], alts := [], laidByText := true, laidKinds := [.data, .data, .data, .data, .pinned], laidTests := true, laidLooks := .later }
def FnShownCardSaid : Prop := Claim7.holds Tryz.pinned (.plain (OpenSpec.ofChange fnShownSpec)) fnShownCard

/-- THE TIED CARD OF 'laws.FnJudges'. -/
def fnJudgesCard : Claim7 := { stood := { row := fnJudgesRow, standIns := [], harness := (true, "f4baf30034b693a344bd2f1c99bca1e57b77a87f765c7d658e87c4d359cde80c"), looks := false }, kinds := [], alts := [], laidByText := true, laidKinds := [.data, .data, .data, .data, .pinned], laidTests := true, laidLooks := .later }
def FnJudgesCardSaid : Prop := Claim7.holds Tryz.pinned (.plain (OpenSpec.ofChange fnJudgesSpec)) fnJudgesCard

/-- THE TIED CARD OF 'laws.FnWorlds'. -/
def fnWorldsCard : Claim7 := { stood := { row := fnWorldsRow, standIns := [], harness := (true, "f4baf30034b693a344bd2f1c99bca1e57b77a87f765c7d658e87c4d359cde80c"), looks := false }, kinds := [], alts := [], laidByText := true, laidKinds := [.data, .data, .data, .data, .pinned], laidTests := true, laidLooks := .later }
def FnWorldsCardSaid : Prop := Claim7.holds Tryz.pinned (.plain (OpenSpec.ofChange fnWorldsSpec)) fnWorldsCard

/-- THE SECOND FORM's CARD OF 'laws.FnShown'. -/
def fnShownUptoCard : Claim7 := { stood := { row := fnShownUptoRow, standIns := [], harness := (true, "f4baf30034b693a344bd2f1c99bca1e57b77a87f765c7d658e87c4d359cde80c"), looks := false }, kinds := [], alts := [], laidByText := true, laidKinds := [.data, .data, .data, .data, .pinned], laidTests := true, laidLooks := .later }
def FnShownUptoCardSaid : Prop := Claim7.holds Tryz.pinned (.plain (OpenSpec.upto fnShownSpec)) fnShownUptoCard

/-- THE SECOND FORM's CARD OF 'laws.FnJudges'. -/
def fnJudgesUptoCard : Claim7 := { stood := { row := fnJudgesUptoRow, standIns := [], harness := (true, "f4baf30034b693a344bd2f1c99bca1e57b77a87f765c7d658e87c4d359cde80c"), looks := false }, kinds := [], alts := [], laidByText := true, laidKinds := [.data, .data, .data, .data, .pinned], laidTests := true, laidLooks := .later }
def FnJudgesUptoCardSaid : Prop := Claim7.holds Tryz.pinned (.plain (OpenSpec.upto fnJudgesSpec)) fnJudgesUptoCard

/-- THE SECOND FORM's CARD OF 'laws.FnWorlds'. -/
def fnWorldsUptoCard : Claim7 := { stood := { row := fnWorldsUptoRow, standIns := [], harness := (true, "f4baf30034b693a344bd2f1c99bca1e57b77a87f765c7d658e87c4d359cde80c"), looks := false }, kinds := [], alts := [], laidByText := true, laidKinds := [.data, .data, .data, .data, .pinned], laidTests := true, laidLooks := .later }
def FnWorldsUptoCardSaid : Prop := Claim7.holds Tryz.pinned (.plain (OpenSpec.upto fnWorldsSpec)) fnWorldsUptoCard
end Rows
end Go.Proofs.YtpkabclplaibaaaGreatDoor
