/- Plain laws: numbers, certificates marked, held, compared. No condition. -/
import Derived.Test.YtmmajfbohkbpjaaPaLawQc
set_option linter.unusedVariables false
set_option linter.unusedSimpArgs false
namespace Go.Am.Try
open Go.Am
/-! ### Marks -/
def mInt (k : Int) (_ : Int) : Int := k
theorem qcOut_len {o : Option (Int × List UInt8 × List Int)} {n : Nat} (h : ∀ q, o = some q → q.2.2.length ≤ n) : (qcOut o).1.2.2.length ≤ n := by
  unfold qcOut
  split
  · exact h _ rfl
  · simp
end Go.Am.Try
