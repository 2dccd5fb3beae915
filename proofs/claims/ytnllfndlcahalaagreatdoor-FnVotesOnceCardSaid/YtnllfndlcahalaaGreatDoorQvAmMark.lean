/- No condition. -/
import Derived.Test.YtnllfndlcahalaaGreatDoorQvAmLoop
set_option linter.all false
namespace Go.Am
section
variable {U V:Type} (e:Int->U->U) (c:U->Nat)
end
def acH {U:Type}{xs:List U}{i:Nat}{x:U}(h:xs[i]?=some x)(d:U):aI xs (i:Int) d=x:=by rw[kq];simp[List.getD,h]
end Go.Am
