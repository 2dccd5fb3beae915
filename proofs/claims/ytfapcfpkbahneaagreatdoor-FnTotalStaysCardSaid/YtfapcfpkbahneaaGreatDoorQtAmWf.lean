/- Lemmas for the claim. No condition. -/
import Derived.Test.YtfapcfpkbahneaaGreatDoorQtAmData
import Derived.Test.YtfapcfpkbahneaaGreatDoorQtAmOpen
set_option linter.all false
namespace Go.Am
end Go.Am
