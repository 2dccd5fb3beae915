/- Lemmas for the claim. No condition. -/
import Derived.Test.YtfapcfpkbahneaaGreatDoorQtAmMark
set_option linter.all false
namespace Go.Am
theorem bp {α:Type}{a:List α}{k:Nat}(h:k<a.length)(d:α):aN a (k:Int) d=a[k]:=by rw[lM];simp[List.getD,h]
end Go.Am
