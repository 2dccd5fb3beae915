/- No condition. -/
import Derived.Test.YtaheoongenkdbaaGreatDoorQeAmMark
set_option linter.all false
namespace Go.Am
def a8 {U:Type}{a:List U}{k:Nat}(h:k<a.length)(d:U):aN a (k:Int) d=a[k]:=by rw[la];simp[List.getD,h]
end Go.Am
