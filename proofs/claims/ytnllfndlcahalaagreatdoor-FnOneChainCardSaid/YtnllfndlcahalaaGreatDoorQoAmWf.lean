/- No condition. -/
import Derived.Test.YtnllfndlcahalaaGreatDoorQoAmData
import Derived.Test.YtnllfndlcahalaaGreatDoorQoAmOpen
set_option linter.all false
namespace Go.Am
end Go.Am
