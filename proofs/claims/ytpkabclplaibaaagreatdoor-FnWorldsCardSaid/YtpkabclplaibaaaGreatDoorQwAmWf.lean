/- No condition. -/
import Derived.Test.YtpkabclplaibaaaGreatDoorQwAmData
import Derived.Test.YtpkabclplaibaaaGreatDoorQwAmOpen
set_option linter.all false
namespace Go.Am
end Go.Am
