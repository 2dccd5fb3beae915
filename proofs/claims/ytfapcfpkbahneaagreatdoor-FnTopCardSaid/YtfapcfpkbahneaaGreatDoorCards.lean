/-
  DERIVED. GIVEN WITH THE SEED: THE CARDS: each row of YtfapcfpkbahneaaGreatDoorRows.lean that lists a variable, with what it lists TIED to the program's text (the seventh form; the later family's looks); each row that meets fmt, with fmt's text TOLD by the authors' own Lean function (tested against real Go, not proved from fmt's source: count such statements apart). THE CARD IS WHAT COUNTS. Prove the row's statement (the work); the ties are given (YtfapcfpkbahneaaGreatDoorTie.lean); close each card by the builder's one call (the guide's Derived/Test/ToyasCard.lean, 'card_holds'). Laid BY PROGRAM, IN A SANDBOX (cutbox-door.mjs). By AI agents, Wed Nov 11 2026. No macro, syntax, notation, axiom, sorry.
-/
import Derived.Test.YtfapcfpkbahneaaGreatDoorRows
import GoSem.ClaimSeven
namespace Go.Proofs.YtfapcfpkbahneaaGreatDoor
namespace Rows

/-- THE TIED CARD OF 'laws.FnNothingLost'. -/
def fnNothingLostCard : Claim7 := { stood := { row := fnNothingLostRow, standIns := [], harness := (true, "f58a409c10e7775194b72894c22b699d3c1fe793afca1f2dac50b18a7defc83e"), looks := false }, kinds := [], alts := [], laidByText := true, laidKinds := [.data, .data, .data, .data, .pinned], laidTests := true, laidLooks := .later }
def FnNothingLostCardSaid : Prop := Claim7.holds Tryz.pinned (.plain (OpenSpec.ofChange fnNothingLostSpec)) fnNothingLostCard

/-- THE TIED CARD OF 'laws.FnTop'. -/
def fnTopCard : Claim7 := { stood := { row := fnTopRow, standIns := [], harness := (true, "f58a409c10e7775194b72894c22b699d3c1fe793afca1f2dac50b18a7defc83e"), looks := false }, kinds := [], alts := [], laidByText := true, laidKinds := [.data, .data, .data, .data, .pinned], laidTests := true, laidLooks := .later }
def FnTopCardSaid : Prop := Claim7.holds Tryz.pinned (.plain (OpenSpec.ofChange fnTopSpec)) fnTopCard

/-- THE TIED CARD OF 'laws.FnTotalStays'. -/
def fnTotalStaysCard : Claim7 := { stood := { row := fnTotalStaysRow, standIns := [], harness := (true, "f58a409c10e7775194b72894c22b699d3c1fe793afca1f2dac50b18a7defc83e"), looks := false }, kinds := [], alts := [], laidByText := true, laidKinds := [.data, .data, .data, .data, .pinned], laidTests := true, laidLooks := .later }
def FnTotalStaysCardSaid : Prop := Claim7.holds Tryz.pinned (.plain (OpenSpec.ofChange fnTotalStaysSpec)) fnTotalStaysCard

/-- THE SECOND FORM's CARD OF 'laws.FnNothingLost'. -/
def fnNothingLostUptoCard : Claim7 := { stood := { row := fnNothingLostUptoRow, standIns := [], harness := (true, "f58a409c10e7775194b72894c22b699d3c1fe793afca1f2dac50b18a7defc83e"), looks := false }, kinds := [], alts := [], laidByText := true, laidKinds := [.data, .data, .data, .data, .pinned], laidTests := true, laidLooks := .later }
def FnNothingLostUptoCardSaid : Prop := Claim7.holds Tryz.pinned (.plain (OpenSpec.upto fnNothingLostSpec)) fnNothingLostUptoCard

/-- THE SECOND FORM's CARD OF 'laws.FnTop'. -/
def fnTopUptoCard : Claim7 := { stood := { row := fnTopUptoRow, standIns := [], harness := (true, "f58a409c10e7775194b72894c22b699d3c1fe793afca1f2dac50b18a7defc83e"), looks := false }, kinds := [], alts := [], laidByText := true, laidKinds := [.data, .data, .data, .data, .pinned], laidTests := true, laidLooks := .later }
def FnTopUptoCardSaid : Prop := Claim7.holds Tryz.pinned (.plain (OpenSpec.upto fnTopSpec)) fnTopUptoCard

/-- THE SECOND FORM's CARD OF 'laws.FnTotalStays'. -/
def fnTotalStaysUptoCard : Claim7 := { stood := { row := fnTotalStaysUptoRow, standIns := [], harness := (true, "f58a409c10e7775194b72894c22b699d3c1fe793afca1f2dac50b18a7defc83e"), looks := false }, kinds := [], alts := [], laidByText := true, laidKinds := [.data, .data, .data, .data, .pinned], laidTests := true, laidLooks := .later }
def FnTotalStaysUptoCardSaid : Prop := Claim7.holds Tryz.pinned (.plain (OpenSpec.upto fnTotalStaysSpec)) fnTotalStaysUptoCard
end Rows
end Go.Proofs.YtfapcfpkbahneaaGreatDoor
