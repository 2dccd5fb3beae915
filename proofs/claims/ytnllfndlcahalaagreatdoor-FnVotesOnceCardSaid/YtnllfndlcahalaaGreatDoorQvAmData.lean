/- No condition. -/
import Derived.Test.YtnllfndlcahalaaGreatDoorQvAmMark
set_option linter.all false
namespace Go.Am
def aV {U:Type}{a:List U}{k:Nat}(h:k<a.length)(d:U):aI a (k:Int) d=a[k]:=by rw[kq];simp[List.getD,h]
end Go.Am
