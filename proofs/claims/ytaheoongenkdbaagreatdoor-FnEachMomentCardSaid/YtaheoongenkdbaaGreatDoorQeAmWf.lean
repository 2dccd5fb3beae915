/- No condition. -/
import Derived.Test.YtaheoongenkdbaaGreatDoorQeAmData
import Derived.Test.YtaheoongenkdbaaGreatDoorQeAmOpen
set_option linter.all false
namespace Go.Am
end Go.Am
