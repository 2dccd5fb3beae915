/- No condition. -/
import Derived.Test.YtfapcfpkbahneaaGreatDoorQpAmData
import Derived.Test.YtfapcfpkbahneaaGreatDoorQpAmOpen
set_option linter.all false
namespace Go.Am
end Go.Am
