/-
  DERIVED. GIVEN WITH THE SEED: THE CARDS: each row of YtijjjmdoflbmfaaGreatDoorRows.lean that lists a variable, with what it lists TIED to the program's text (the seventh form; the later family's looks); each row that meets fmt, with fmt's text TOLD by the authors' own Lean function (tested against real Go, not proved from fmt's source: count such statements apart). THE CARD IS WHAT COUNTS. Prove the row's statement (the work); the ties are given (YtijjjmdoflbmfaaGreatDoorTie.lean); close each card by the builder's one call (the guide's Derived/Test/ToyasCard.lean, 'card_holds'). Laid BY PROGRAM, IN A SANDBOX (cutbox-door.mjs). By AI agents, Wed Nov 11 2026. No macro, syntax, notation, axiom, sorry.
-/
import Derived.Test.YtijjjmdoflbmfaaGreatDoorRows
import GoSem.ClaimSeven
namespace Go.Proofs.YtijjjmdoflbmfaaGreatDoor
namespace Rows

/-- THE TIED CARD OF 'laws.FnReceipts'. -/
def fnReceiptsCard : Claim7 := { stood := { row := fnReceiptsRow, standIns := [], harness := (true, "a253b06a131888085c15ac314fe5701b3609aadc59a165b26da8b04b88baa533"), looks := false }, kinds := [], alts := [], laidByText := true, laidKinds := [.data, .data, .data, .data, .pinned], laidTests := true, laidLooks := .later }
def FnReceiptsCardSaid : Prop := Claim7.holds Tryz.pinned (.plain (OpenSpec.ofChange fnReceiptsSpec)) fnReceiptsCard

/-- THE TIED CARD OF 'laws.FnTreeStar'. -/
def fnTreeStarCard : Claim7 := { stood := { row := fnTreeStarRow, standIns := [], harness := (true, "a253b06a131888085c15ac314fe5701b3609aadc59a165b26da8b04b88baa533"), looks := false }, kinds := [], alts := [], laidByText := true, laidKinds := [.data, .data, .data, .data, .pinned], laidTests := true, laidLooks := .later }
def FnTreeStarCardSaid : Prop := Claim7.holds Tryz.pinned (.plain (OpenSpec.ofChange fnTreeStarSpec)) fnTreeStarCard

/-- THE SECOND FORM's CARD OF 'laws.FnReceipts'. -/
def fnReceiptsUptoCard : Claim7 := { stood := { row := fnReceiptsUptoRow, standIns := [], harness := (true, "a253b06a131888085c15ac314fe5701b3609aadc59a165b26da8b04b88baa533"), looks := false }, kinds := [], alts := [], laidByText := true, laidKinds := [.data, .data, .data, .data, .pinned], laidTests := true, laidLooks := .later }
def FnReceiptsUptoCardSaid : Prop := Claim7.holds Tryz.pinned (.plain (OpenSpec.upto fnReceiptsSpec)) fnReceiptsUptoCard

/-- THE SECOND FORM's CARD OF 'laws.FnTreeStar'. -/
def fnTreeStarUptoCard : Claim7 := { stood := { row := fnTreeStarUptoRow, standIns := [], harness := (true, "a253b06a131888085c15ac314fe5701b3609aadc59a165b26da8b04b88baa533"), looks := false }, kinds := [], alts := [], laidByText := true, laidKinds := [.data, .data, .data, .data, .pinned], laidTests := true, laidLooks := .later }
def FnTreeStarUptoCardSaid : Prop := Claim7.holds Tryz.pinned (.plain (OpenSpec.upto fnTreeStarSpec)) fnTreeStarUptoCard
end Rows
end Go.Proofs.YtijjjmdoflbmfaaGreatDoor
