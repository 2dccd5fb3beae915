/- Lemmas for the claim. No condition. -/
import Derived.Test.YtfapcfpkbahneaaGreatDoorQtAmLoop
set_option linter.all false
namespace Go.Am
section
variable {α β:Type} (e:Int->α->α) (c:α->Nat)
end
theorem aa1 {α:Type}{xs:List α}{i:Nat}{x:α}(h:xs[i]?=some x)(d:α):aN xs (i:Int) d=x:=by rw[lM];simp[List.getD,h]
end Go.Am
