/- No condition. -/
import Derived.Test.YtpkabclplaibaaaGreatDoorQhAmMark
set_option linter.all false
namespace Go.Am
def cB {U:Type}{a:List U}{k:Nat}(h:k<a.length)(d:U):bd a (k:Int) d=a[k]:=by rw[jv];simp[List.getD,h]
end Go.Am
