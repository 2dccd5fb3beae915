/- No condition. -/
import Derived.Test.YtaheoongenkdbaaGreatDoorQsAmLoop
set_option linter.all false
namespace Go.Am
section
variable {U V:Type} (e:Int->U->U) (c:U->Nat)
end
def adv {U:Type}{xs:List U}{i:Nat}{x:U}(h:xs[i]?=some x)(d:U):ay xs (i:Int) d=x:=by rw[j5];simp[List.getD,h]
end Go.Am
