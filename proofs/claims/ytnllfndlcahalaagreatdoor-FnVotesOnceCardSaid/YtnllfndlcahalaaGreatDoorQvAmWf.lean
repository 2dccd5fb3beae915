/- No condition. -/
import Derived.Test.YtnllfndlcahalaaGreatDoorQvAmData
import Derived.Test.YtnllfndlcahalaaGreatDoorQvAmOpen
set_option linter.all false
namespace Go.Am
end Go.Am
