/- Lemmas for the claim. No condition. -/
import Derived.Test.YtfapcfpkbahneaaGreatDoorQlAmData
import Derived.Test.YtfapcfpkbahneaaGreatDoorQlAmOpen
set_option linter.all false
namespace Go.Am
end Go.Am
