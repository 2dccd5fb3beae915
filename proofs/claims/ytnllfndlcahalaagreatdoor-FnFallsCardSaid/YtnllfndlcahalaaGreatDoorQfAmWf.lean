/- No condition. -/
import Derived.Test.YtnllfndlcahalaaGreatDoorQfAmData
import Derived.Test.YtnllfndlcahalaaGreatDoorQfAmOpen
set_option linter.all false
namespace Go.Am
end Go.Am
