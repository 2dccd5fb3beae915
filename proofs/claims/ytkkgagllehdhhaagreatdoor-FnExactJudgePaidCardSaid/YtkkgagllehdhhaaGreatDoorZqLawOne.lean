/- Plain laws: one chain, certificates judged; the laws of JudgeOne, JudgeCerts. No condition. -/
import Derived.Test.YtkkgagllehdhhaaGreatDoorZqLawTop
set_option linter.unusedVariables false
set_option linter.unusedSimpArgs false
namespace Go.Am.Tryz
open Go.Am
/-! ### Certificates -/
def badC (a b : QcD) : Bool := (a.1 == b.1) && !(a.2.1.toList == b.2.1.toList)
def okC (l : List QcD) (i k : Nat) : Bool := !badC (l.getD i d0Qc) (l.getD k d0Qc)
end Go.Am.Tryz
