/- The plain seat reads no table. No condition. -/
import Derived.Test.YtmmajfbohkbpjaaProg
import Derived.Test.YtmmajfbohkbpjaaAmUse
namespace Go.Am.Try
open Go.Am
abbrev TB : Tab := Tab.none
end Go.Am.Try
