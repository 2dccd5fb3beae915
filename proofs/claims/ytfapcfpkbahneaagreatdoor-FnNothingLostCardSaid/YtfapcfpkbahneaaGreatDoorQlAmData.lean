/- Lemmas for the claim. No condition. -/
import Derived.Test.YtfapcfpkbahneaaGreatDoorQlAmMark
set_option linter.all false
namespace Go.Am
theorem bC {α:Type}{a:List α}{k:Nat}(h:k<a.length)(d:α):aP a (k:Int) d=a[k]:=by
 rw[mm]
 simp[List.getD,h]
end Go.Am
