/- No condition. -/
import Derived.Test.YtpkabclplaibaaaGreatDoorQhAmData
import Derived.Test.YtpkabclplaibaaaGreatDoorQhAmOpen
set_option linter.all false
namespace Go.Am
end Go.Am
