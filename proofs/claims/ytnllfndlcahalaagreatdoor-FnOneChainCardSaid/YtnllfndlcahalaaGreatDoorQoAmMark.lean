/- No condition. -/
import Derived.Test.YtnllfndlcahalaaGreatDoorQoAmLoop
set_option linter.all false
namespace Go.Am
section
variable {U V:Type} (e:Int->U->U) (c:U->Nat)
end
def abZ {U:Type}{xs:List U}{i:Nat}{x:U}(h:xs[i]?=some x)(d:U):aK xs (i:Int) d=x:=by rw[ln];simp[List.getD,h]
end Go.Am
