/- No condition. -/
import Derived.Test.YtpkabclplaibaaaGreatDoorQhYJG7
set_option linter.all false
set_option maxRecDepth 100000
namespace Go.Am.Tryz
open Go.Am Go.Proofs Go.Proofs.Tryz
noncomputable section
variable {U:Type} (F:kk) (J:Ex->St->Option U) (n:Nat)
end
end Go.Am.Tryz
namespace Go.Am.Tryz
open Go.Am Go.Proofs Go.Proofs.Tryz
noncomputable section
variable {U:Type} (F:kk) (J:Ex->St->Option U) (n:Nat)
end
end Go.Am.Tryz
