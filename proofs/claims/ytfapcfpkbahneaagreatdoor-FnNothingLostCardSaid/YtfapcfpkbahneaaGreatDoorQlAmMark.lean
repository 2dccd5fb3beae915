/- Lemmas for the claim. No condition. -/
import Derived.Test.YtfapcfpkbahneaaGreatDoorQlAmLoop
set_option linter.all false
namespace Go.Am
section
variable {α β:Type} (e:Int→α→α) (c:α→Nat)
end
end Go.Am
