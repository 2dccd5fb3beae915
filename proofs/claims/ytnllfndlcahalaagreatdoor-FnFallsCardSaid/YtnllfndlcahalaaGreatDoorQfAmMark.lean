/- No condition. -/
import Derived.Test.YtnllfndlcahalaaGreatDoorQfAmLoop
set_option linter.all false
namespace Go.Am
section
variable {U V:Type} (e:Int->U->U) (c:U->Nat)
end
def ab0 {U:Type}{xs:List U}{i:Nat}{x:U}(h:xs[i]?=some x)(d:U):aH xs (i:Int) d=x:=by rw[ly];simp[List.getD,h]
end Go.Am
