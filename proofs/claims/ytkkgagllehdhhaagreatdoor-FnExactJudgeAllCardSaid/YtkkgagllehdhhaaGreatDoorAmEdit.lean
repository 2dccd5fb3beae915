/- Laws of rows that are copied into, of whatever elements. No condition. -/
import Derived.Test.YtkkgagllehdhhaaGreatDoorAmUse
import Derived.Shelf.Spec.SlicesInsert
import Derived.Lib.AppendZerosOnto
import Derived.Laws.NewBlocks
set_option linter.unusedVariables false
set_option linter.unusedSimpArgs false
namespace Go.Am
open Go.Proofs Go.RowKit Go.Lib
variable {P : Program}
end Go.Am
