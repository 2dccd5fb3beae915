/- Plain laws: replicas and worlds as texts. No condition. -/
import Derived.Test.YtkkgagllehdhhaaGreatDoorZlLawWorld

set_option linter.unusedVariables false
set_option linter.unusedSimpArgs false
namespace Go.Am.Tryz
open Go.Am

structure RepI (r : RepD) : Prop where
  i1 : I64 r.1
  i2 : I64 r.2.1
  i3 : I64 r.2.2.2.1.1
  i4 : I64 r.2.2.2.1.2.1
  i5 : I64 r.2.2.2.1.2.2.1.1
  d : r.2.2.2.1.2.2.2.size ≤ 1048576
  p : r.2.2.2.2.1.length ≤ 1048576
  t : r.2.2.2.2.2.1.length ≤ 1048576
  h : r.2.2.2.2.2.2.2.length ≤ 1048576
/-! ### Worlds -/
/-! ### The laws -/
end Go.Am.Tryz
