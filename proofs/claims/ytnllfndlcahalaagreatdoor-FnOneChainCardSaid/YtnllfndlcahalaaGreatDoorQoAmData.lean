/- No condition. -/
import Derived.Test.YtnllfndlcahalaaGreatDoorQoAmMark
set_option linter.all false
namespace Go.Am
def aV {U:Type}{a:List U}{k:Nat}(h:k<a.length)(d:U):aK a (k:Int) d=a[k]:=by rw[ln];simp[List.getD,h]
end Go.Am
