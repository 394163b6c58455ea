/- Part of a claim: contracts of the program's functions, walked op by op. -/
import Derived.Test.YthabegpfnfbmaaaGreatDoorSH
set_option linter.unusedSimpArgs false
set_option linter.unusedVariables false
/- The shelf: see SH. -/
namespace Go.LL
end Go.LL
