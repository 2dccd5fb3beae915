/- No condition. -/
import Derived.Test.YtaheoongenkdbaaGreatDoorQsAmMark
set_option linter.all false
namespace Go.Am
def bb {U:Type}{a:List U}{k:Nat}(h:k<a.length)(d:U):ay a (k:Int) d=a[k]:=by rw[j5];simp[List.getD,h]
end Go.Am
