/- No condition. -/
import Derived.Test.YtnllfndlcahalaaGreatDoorQfAmMark
set_option linter.all false
namespace Go.Am
def aT {U:Type}{a:List U}{k:Nat}(h:k<a.length)(d:U):aH a (k:Int) d=a[k]:=by rw[ly];simp[List.getD,h]
end Go.Am
