/- No condition. -/
import Derived.Test.YtaheoongenkdbaaGreatDoorQsAmData
import Derived.Test.YtaheoongenkdbaaGreatDoorQsAmOpen
set_option linter.all false
namespace Go.Am
end Go.Am
