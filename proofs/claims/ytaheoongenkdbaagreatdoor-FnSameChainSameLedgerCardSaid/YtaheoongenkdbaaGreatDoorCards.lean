/-
  DERIVED. GIVEN WITH THE SEED: THE CARDS: each row of YtaheoongenkdbaaGreatDoorRows.lean that lists a variable, with what it lists TIED to the program's text (the seventh form; the later family's looks); each row that meets fmt, with fmt's text TOLD by the authors' own Lean function (tested against real Go, not proved from fmt's source: count such statements apart). THE CARD IS WHAT COUNTS. Prove the row's statement (the work); the ties are given (YtaheoongenkdbaaGreatDoorTie.lean); close each card by the builder's one call (the guide's Derived/Test/ToyasCard.lean, 'card_holds'). Laid BY PROGRAM, IN A SANDBOX (cutbox-door.mjs). By AI agents, Wed Nov 11 2026. No macro, syntax, notation, axiom, sorry.
-/
import Derived.Test.YtaheoongenkdbaaGreatDoorRows
import GoSem.ClaimSeven
namespace Go.Proofs.YtaheoongenkdbaaGreatDoor
namespace Rows

/-- THE TIED CARD OF 'laws.FnSameChainSameLedger'. -/
def fnSameChainSameLedgerCard : Claim7 := { stood := { row := fnSameChainSameLedgerRow, standIns := [], harness := (true, "74f3fee72e0f7b80d4b7e723e10df3854df865ca88326b134cfafa05ce881808"), looks := false }, kinds := [], alts := [], laidByText := true, laidKinds := [.data, .data, .data, .data, .pinned], laidTests := true, laidLooks := .later }
def FnSameChainSameLedgerCardSaid : Prop := Claim7.holds Tryz.pinned (.plain (OpenSpec.ofChange fnSameChainSameLedgerSpec)) fnSameChainSameLedgerCard

/-- THE TIED CARD OF 'laws.FnEachMoment'. -/
def fnEachMomentCard : Claim7 := { stood := { row := fnEachMomentRow, standIns := [], harness := (true, "74f3fee72e0f7b80d4b7e723e10df3854df865ca88326b134cfafa05ce881808"), looks := false }, kinds := [], alts := [], laidByText := true, laidKinds := [.data, .data, .data, .data, .pinned], laidTests := true, laidLooks := .later }
def FnEachMomentCardSaid : Prop := Claim7.holds Tryz.pinned (.plain (OpenSpec.ofChange fnEachMomentSpec)) fnEachMomentCard

/-- THE SECOND FORM's CARD OF 'laws.FnSameChainSameLedger'. -/
def fnSameChainSameLedgerUptoCard : Claim7 := { stood := { row := fnSameChainSameLedgerUptoRow, standIns := [], harness := (true, "74f3fee72e0f7b80d4b7e723e10df3854df865ca88326b134cfafa05ce881808"), looks := false }, kinds := [], alts := [], laidByText := true, laidKinds := [.data, .data, .data, .data, .pinned], laidTests := true, laidLooks := .later }
def FnSameChainSameLedgerUptoCardSaid : Prop := Claim7.holds Tryz.pinned (.plain (OpenSpec.upto fnSameChainSameLedgerSpec)) fnSameChainSameLedgerUptoCard

/-- THE SECOND FORM's CARD OF 'laws.FnEachMoment'. -/
def fnEachMomentUptoCard : Claim7 := { stood := { row := fnEachMomentUptoRow, standIns := [], harness := (true, "74f3fee72e0f7b80d4b7e723e10df3854df865ca88326b134cfafa05ce881808"), looks := false }, kinds := [], alts := [], laidByText := true, laidKinds := [.data, .data, .data, .data, .pinned], laidTests := true, laidLooks := .later }
def FnEachMomentUptoCardSaid : Prop := Claim7.holds Tryz.pinned (.plain (OpenSpec.upto fnEachMomentSpec)) fnEachMomentUptoCard
end Rows
end Go.Proofs.YtaheoongenkdbaaGreatDoor
