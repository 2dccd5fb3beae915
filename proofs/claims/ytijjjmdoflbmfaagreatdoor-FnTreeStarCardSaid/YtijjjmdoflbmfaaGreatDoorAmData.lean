/- Plain laws: how large data is; what is counted off, copied, compared. No condition. -/
import Derived.Test.YtijjjmdoflbmfaaGreatDoorAmMark
set_option linter.unusedVariables false
set_option linter.unusedSimpArgs false
namespace Go.Am
theorem at_isD {α : Type} {a : List α} {k : Nat} (h : k < a.length) (d : α) : at_ a (k : Int) d = a[k] := by
  rw [at_nat]
  simp [List.getD, h]
end Go.Am
