/-
  DERIVED. GIVEN WITH THE SEED: THE CARDS: each row of YtnllfndlcahalaaGreatDoorRows.lean that lists a variable, with what it lists TIED to the program's text (the seventh form; the later family's looks); each row that meets fmt, with fmt's text TOLD by the authors' own Lean function (tested against real Go, not proved from fmt's source: count such statements apart). THE CARD IS WHAT COUNTS. Prove the row's statement (the work); the ties are given (YtnllfndlcahalaaGreatDoorTie.lean); close each card by the builder's one call (the guide's Derived/Test/ToyasCard.lean, 'card_holds'). Laid BY PROGRAM, IN A SANDBOX (cutbox-door.mjs). By AI agents, Wed Nov 11 2026. No macro, syntax, notation, axiom, sorry.
-/
import Derived.Test.YtnllfndlcahalaaGreatDoorRows
import GoSem.ClaimSeven
namespace Go.Proofs.YtnllfndlcahalaaGreatDoor
namespace Rows

/-- THE TIED CARD OF 'laws.FnVotesOnce'. -/
def fnVotesOnceCard : Claim7 := { stood := { row := fnVotesOnceRow, standIns := [], harness := (true, "4f0733a9e96f0630058d23d996673df6c32bf30a48005063c0bdd050cbeb4ba9"), looks := false }, kinds := [], alts := [], laidByText := true, laidKinds := [.data, .data, .data, .data, .pinned], laidTests := true, laidLooks := .later }
def FnVotesOnceCardSaid : Prop := Claim7.holds Tryz.pinned (.plain (OpenSpec.ofChange fnVotesOnceSpec)) fnVotesOnceCard

/-- THE TIED CARD OF 'laws.FnFalls'. -/
def fnFallsCard : Claim7 := { stood := { row := fnFallsRow, standIns := [], harness := (true, "4f0733a9e96f0630058d23d996673df6c32bf30a48005063c0bdd050cbeb4ba9"), looks := false }, kinds := [], alts := [], laidByText := true, laidKinds := [.data, .data, .data, .data, .pinned], laidTests := true, laidLooks := .later }
def FnFallsCardSaid : Prop := Claim7.holds Tryz.pinned (.plain (OpenSpec.ofChange fnFallsSpec)) fnFallsCard

/-- THE TIED CARD OF 'laws.FnOneChain'. -/
def fnOneChainCard : Claim7 := { stood := { row := fnOneChainRow, standIns := [], harness := (true, "4f0733a9e96f0630058d23d996673df6c32bf30a48005063c0bdd050cbeb4ba9"), looks := false }, kinds := [], alts := [], laidByText := true, laidKinds := [.data, .data, .data, .data, .pinned], laidTests := true, laidLooks := .later }
def FnOneChainCardSaid : Prop := Claim7.holds Tryz.pinned (.plain (OpenSpec.ofChange fnOneChainSpec)) fnOneChainCard

/-- THE SECOND FORM's CARD OF 'laws.FnVotesOnce'. -/
def fnVotesOnceUptoCard : Claim7 := { stood := { row := fnVotesOnceUptoRow, standIns := [], harness := (true, "4f0733a9e96f0630058d23d996673df6c32bf30a48005063c0bdd050cbeb4ba9"), looks := false }, kinds := [], alts := [], laidByText := true, laidKinds := [.data, .data, .data, .data, .pinned], laidTests := true, laidLooks := .later }
def FnVotesOnceUptoCardSaid : Prop := Claim7.holds Tryz.pinned (.plain (OpenSpec.upto fnVotesOnceSpec)) fnVotesOnceUptoCard

/-- THE SECOND FORM's CARD OF 'laws.FnFalls'. -/
def fnFallsUptoCard : Claim7 := { stood := { row := fnFallsUptoRow, standIns := [], harness := (true, "4f0733a9e96f0630058d23d996673df6c32bf30a48005063c0bdd050cbeb4ba9"), looks := false }, kinds := [], alts := [], laidByText := true, laidKinds := [.data, .data, .data, .data, .pinned], laidTests := true, laidLooks := .later }
def FnFallsUptoCardSaid : Prop := Claim7.holds Tryz.pinned (.plain (OpenSpec.upto fnFallsSpec)) fnFallsUptoCard

/-- THE SECOND FORM's CARD OF 'laws.FnOneChain'. -/
def fnOneChainUptoCard : Claim7 := { stood := { row := fnOneChainUptoRow, standIns := [], harness := (true, "4f0733a9e96f0630058d23d996673df6c32bf30a48005063c0bdd050cbeb4ba9"), looks := false }, kinds := [], alts := [], laidByText := true, laidKinds := [.data, .data, .data, .data, .pinned], laidTests := true, laidLooks := .later }
def FnOneChainUptoCardSaid : Prop := Claim7.holds Tryz.pinned (.plain (OpenSpec.upto fnOneChainSpec)) fnOneChainUptoCard
end Rows
end Go.Proofs.YtnllfndlcahalaaGreatDoor
