/- No condition. -/
import Derived.Test.YtfapcfpkbahneaaGreatDoorQpAmMark
set_option linter.all false
namespace Go.Am
def bF {U:Type}{a:List U}{k:Nat}(h:k<a.length)(d:U):aU a (k:Int) d=a[k]:=by rw[mF];simp[List.getD,h]
end Go.Am
