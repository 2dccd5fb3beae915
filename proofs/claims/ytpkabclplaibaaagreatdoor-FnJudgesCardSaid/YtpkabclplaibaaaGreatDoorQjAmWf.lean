/- No condition. -/
import Derived.Test.YtpkabclplaibaaaGreatDoorQjAmData
import Derived.Test.YtpkabclplaibaaaGreatDoorQjAmOpen
set_option linter.all false
namespace Go.Am
end Go.Am
