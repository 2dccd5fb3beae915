/- A search with a function literal, a row put into a row: contracts. No condition. -/
import Derived.Test.YtkkgagllehdhhaaGreatDoorProg
import Derived.Test.YtkkgagllehdhhaaGreatDoorAmEdit
import Derived.Maps.AppendAt
import Derived.Test.YtkkgagllehdhhaaGreatDoorZShelfD
import Derived.Shelf.Spec.SlicesInsert
import Derived.Lib.AppendZerosOnto
import Derived.Laws.NewBlocks
import Derived.Deep.LoopGhost
import Derived.Deep.Draws
set_option linter.unusedVariables false
set_option linter.unusedSimpArgs false
namespace Go.Am.Tryz
open Go.Am Go.Proofs Go.RowKit Go.Lib
end Go.Am.Tryz
