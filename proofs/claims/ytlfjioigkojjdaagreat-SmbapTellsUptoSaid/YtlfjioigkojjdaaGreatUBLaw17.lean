/- Part of the proof: Law17. No condition. -/
import Derived.Test.YtlfjioigkojjdaaGreatUBMbap
set_option linter.unusedVariables false
set_option linter.unusedSimpArgs false
set_option maxRecDepth 100000
set_option maxHeartbeats 8000000
namespace Go.Bus
open Go Go.Proofs
end Go.Bus
