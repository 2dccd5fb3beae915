/- A row put into a row: contract. No condition. -/
import Derived.Test.YtkkgagllehdhhaaGreatDoorZShelfE
set_option linter.unusedVariables false
set_option linter.unusedSimpArgs false
namespace Go.Am.Tryz
open Go.Am Go.Proofs Go.RowKit Go.Lib
end Go.Am.Tryz
