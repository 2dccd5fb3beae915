/- No condition. -/
import Derived.Test.YtpkabclplaibaaaGreatDoorQwAmMark
set_option linter.all false
namespace Go.Am
def aY {U:Type}{a:List U}{k:Nat}(h:k<a.length)(d:U):aL a (k:Int) d=a[k]:=by rw[kl];simp[List.getD,h]
end Go.Am
