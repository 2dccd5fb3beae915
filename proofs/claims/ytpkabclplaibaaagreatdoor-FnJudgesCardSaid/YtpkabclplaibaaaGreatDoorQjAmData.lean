/- No condition. -/
import Derived.Test.YtpkabclplaibaaaGreatDoorQjAmMark
set_option linter.all false
namespace Go.Am
def aM {U:Type}{a:List U}{k:Nat}(h:k<a.length)(d:U):aJ a (k:Int) d=a[k]:=by rw[kS];simp[List.getD,h]
end Go.Am
