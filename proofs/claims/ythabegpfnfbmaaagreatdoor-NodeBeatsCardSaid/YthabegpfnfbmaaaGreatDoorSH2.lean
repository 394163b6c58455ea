/- Part of a claim: contracts of the program's functions, walked op by op. -/
import Derived.Test.YthabegpfnfbmaaaGreatDoorSH
/- The shelf: see SH. -/
namespace Go.LL
end Go.LL
