/- No condition. -/
import Derived.Test.YtpkabclplaibaaaGreatDoorQjAmLoop
set_option linter.all false
namespace Go.Am
section
variable {U V:Type} (e:Int->U->U) (c:U->Nat)
end
end Go.Am
