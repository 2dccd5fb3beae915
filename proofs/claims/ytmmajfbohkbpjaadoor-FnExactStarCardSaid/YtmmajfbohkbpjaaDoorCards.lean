/-
  DERIVED. GIVEN WITH THE SEED: THE CARDS: each row of YtmmajfbohkbpjaaDoorRows.lean that lists a variable, with what it lists TIED to the program's text (the seventh form; the later family's looks); each row that meets fmt, with fmt's text TOLD by the authors' own Lean function (tested against real Go, not proved from fmt's source: count such statements apart). THE CARD IS WHAT COUNTS. Prove the row's statement (the work); the ties are given (YtmmajfbohkbpjaaDoorTie.lean); close each card by the builder's one call (the guide's Derived/Test/ToyasCard.lean, 'card_holds'). Laid BY PROGRAM, IN A SANDBOX (cutbox-door.mjs). By AI agents, Wed Nov 11 2026. No macro, syntax, notation, axiom, sorry.
-/
import Derived.Test.YtmmajfbohkbpjaaDoorRows
import GoSem.ClaimSeven
namespace Go.Proofs.YtmmajfbohkbpjaaDoor
namespace Rows

/-- THE TIED CARD OF 'laws.FnExactWhoText'. -/
def fnExactWhoTextCard : Claim7 := { stood := { row := fnExactWhoTextRow, standIns := [], harness := (true, "5b42eb92b01dae6cce0f7e550b84a6aaf708862c1d3db1496655ee01d56b7055"), looks := false }, kinds := [], alts := [], laidByText := true, laidKinds := [.data, .data, .data], laidTests := true, laidLooks := .later }
def FnExactWhoTextCardSaid : Prop := Claim7.holds Tryd.pinned (.plain (OpenSpec.ofChange fnExactWhoTextSpec)) fnExactWhoTextCard

/-- THE TIED CARD OF 'laws.FnExactLedgerText'. -/
def fnExactLedgerTextCard : Claim7 := { stood := { row := fnExactLedgerTextRow, standIns := [], harness := (true, "5b42eb92b01dae6cce0f7e550b84a6aaf708862c1d3db1496655ee01d56b7055"), looks := false }, kinds := [], alts := [], laidByText := true, laidKinds := [.data, .data, .data], laidTests := true, laidLooks := .later }
def FnExactLedgerTextCardSaid : Prop := Claim7.holds Tryd.pinned (.plain (OpenSpec.ofChange fnExactLedgerTextSpec)) fnExactLedgerTextCard

/-- THE TIED CARD OF 'laws.FnExactPartText'. -/
def fnExactPartTextCard : Claim7 := { stood := { row := fnExactPartTextRow, standIns := [], harness := (true, "5b42eb92b01dae6cce0f7e550b84a6aaf708862c1d3db1496655ee01d56b7055"), looks := false }, kinds := [], alts := [], laidByText := true, laidKinds := [.data, .data, .data], laidTests := true, laidLooks := .later }
def FnExactPartTextCardSaid : Prop := Claim7.holds Tryd.pinned (.plain (OpenSpec.ofChange fnExactPartTextSpec)) fnExactPartTextCard

/-- THE TIED CARD OF 'laws.FnExactQcText'. -/
def fnExactQcTextCard : Claim7 := { stood := { row := fnExactQcTextRow, standIns := [], harness := (true, "5b42eb92b01dae6cce0f7e550b84a6aaf708862c1d3db1496655ee01d56b7055"), looks := false }, kinds := [], alts := [], laidByText := true, laidKinds := [.data, .data, .data], laidTests := true, laidLooks := .later }
def FnExactQcTextCardSaid : Prop := Claim7.holds Tryd.pinned (.plain (OpenSpec.ofChange fnExactQcTextSpec)) fnExactQcTextCard

/-- THE TIED CARD OF 'laws.FnExactReceiptOf'. -/
def fnExactReceiptOfCard : Claim7 := { stood := { row := fnExactReceiptOfRow, standIns := [], harness := (true, "5b42eb92b01dae6cce0f7e550b84a6aaf708862c1d3db1496655ee01d56b7055"), looks := false }, kinds := [], alts := [], laidByText := true, laidKinds := [.data, .data, .data, .data, .pinned], laidTests := true, laidLooks := .later }
def FnExactReceiptOfCardSaid : Prop := Claim7.holds Tryd.pinned (.plain (OpenSpec.ofChange fnExactReceiptOfSpec)) fnExactReceiptOfCard

/-- THE TIED CARD OF 'laws.FnExactReceipts'. -/
def fnExactReceiptsCard : Claim7 := { stood := { row := fnExactReceiptsRow, standIns := [], harness := (true, "5b42eb92b01dae6cce0f7e550b84a6aaf708862c1d3db1496655ee01d56b7055"), looks := false }, kinds := [], alts := [], laidByText := true, laidKinds := [.data, .data, .data, .data, .pinned], laidTests := true, laidLooks := .later }
def FnExactReceiptsCardSaid : Prop := Claim7.holds Tryd.pinned (.plain (OpenSpec.ofChange fnExactReceiptsSpec)) fnExactReceiptsCard

/-- THE TIED CARD OF 'laws.FnExactStar'. -/
def fnExactStarCard : Claim7 := { stood := { row := fnExactStarRow, standIns := [], harness := (true, "5b42eb92b01dae6cce0f7e550b84a6aaf708862c1d3db1496655ee01d56b7055"), looks := false }, kinds := [], alts := [], laidByText := true, laidKinds := [.data, .data, .data, .data, .pinned], laidTests := true, laidLooks := .later }
def FnExactStarCardSaid : Prop := Claim7.holds Tryd.pinned (.plain (OpenSpec.ofChange fnExactStarSpec)) fnExactStarCard

/-- THE SECOND FORM's CARD OF 'laws.FnExactWhoText'. -/
def fnExactWhoTextUptoCard : Claim7 := { stood := { row := fnExactWhoTextUptoRow, standIns := [], harness := (true, "5b42eb92b01dae6cce0f7e550b84a6aaf708862c1d3db1496655ee01d56b7055"), looks := false }, kinds := [], alts := [], laidByText := true, laidKinds := [.data, .data, .data], laidTests := true, laidLooks := .later }
def FnExactWhoTextUptoCardSaid : Prop := Claim7.holds Tryd.pinned (.plain (OpenSpec.upto fnExactWhoTextSpec)) fnExactWhoTextUptoCard

/-- THE SECOND FORM's CARD OF 'laws.FnExactLedgerText'. -/
def fnExactLedgerTextUptoCard : Claim7 := { stood := { row := fnExactLedgerTextUptoRow, standIns := [], harness := (true, "5b42eb92b01dae6cce0f7e550b84a6aaf708862c1d3db1496655ee01d56b7055"), looks := false }, kinds := [], alts := [], laidByText := true, laidKinds := [.data, .data, .data], laidTests := true, laidLooks := .later }
def FnExactLedgerTextUptoCardSaid : Prop := Claim7.holds Tryd.pinned (.plain (OpenSpec.upto fnExactLedgerTextSpec)) fnExactLedgerTextUptoCard

/-- THE SECOND FORM's CARD OF 'laws.FnExactPartText'. -/
def fnExactPartTextUptoCard : Claim7 := { stood := { row := fnExactPartTextUptoRow, standIns := [], harness := (true, "5b42eb92b01dae6cce0f7e550b84a6aaf708862c1d3db1496655ee01d56b7055"), looks := false }, kinds := [], alts := [], laidByText := true, laidKinds := [.data, .data, .data], laidTests := true, laidLooks := .later }
def FnExactPartTextUptoCardSaid : Prop := Claim7.holds Tryd.pinned (.plain (OpenSpec.upto fnExactPartTextSpec)) fnExactPartTextUptoCard

/-- THE SECOND FORM's CARD OF 'laws.FnExactQcText'. -/
def fnExactQcTextUptoCard : Claim7 := { stood := { row := fnExactQcTextUptoRow, standIns := [], harness := (true, "5b42eb92b01dae6cce0f7e550b84a6aaf708862c1d3db1496655ee01d56b7055"), looks := false }, kinds := [], alts := [], laidByText := true, laidKinds := [.data, .data, .data], laidTests := true, laidLooks := .later }
def FnExactQcTextUptoCardSaid : Prop := Claim7.holds Tryd.pinned (.plain (OpenSpec.upto fnExactQcTextSpec)) fnExactQcTextUptoCard

/-- THE SECOND FORM's CARD OF 'laws.FnExactReceiptOf'. -/
def fnExactReceiptOfUptoCard : Claim7 := { stood := { row := fnExactReceiptOfUptoRow, standIns := [], harness := (true, "5b42eb92b01dae6cce0f7e550b84a6aaf708862c1d3db1496655ee01d56b7055"), looks := false }, kinds := [], alts := [], laidByText := true, laidKinds := [.data, .data, .data, .data, .pinned], laidTests := true, laidLooks := .later }
def FnExactReceiptOfUptoCardSaid : Prop := Claim7.holds Tryd.pinned (.plain (OpenSpec.upto fnExactReceiptOfSpec)) fnExactReceiptOfUptoCard

/-- THE SECOND FORM's CARD OF 'laws.FnExactReceipts'. -/
def fnExactReceiptsUptoCard : Claim7 := { stood := { row := fnExactReceiptsUptoRow, standIns := [], harness := (true, "5b42eb92b01dae6cce0f7e550b84a6aaf708862c1d3db1496655ee01d56b7055"), looks := false }, kinds := [], alts := [], laidByText := true, laidKinds := [.data, .data, .data, .data, .pinned], laidTests := true, laidLooks := .later }
def FnExactReceiptsUptoCardSaid : Prop := Claim7.holds Tryd.pinned (.plain (OpenSpec.upto fnExactReceiptsSpec)) fnExactReceiptsUptoCard

/-- THE SECOND FORM's CARD OF 'laws.FnExactStar'. -/
def fnExactStarUptoCard : Claim7 := { stood := { row := fnExactStarUptoRow, standIns := [], harness := (true, "5b42eb92b01dae6cce0f7e550b84a6aaf708862c1d3db1496655ee01d56b7055"), looks := false }, kinds := [], alts := [], laidByText := true, laidKinds := [.data, .data, .data, .data, .pinned], laidTests := true, laidLooks := .later }
def FnExactStarUptoCardSaid : Prop := Claim7.holds Tryd.pinned (.plain (OpenSpec.upto fnExactStarSpec)) fnExactStarUptoCard
end Rows
end Go.Proofs.YtmmajfbohkbpjaaDoor
