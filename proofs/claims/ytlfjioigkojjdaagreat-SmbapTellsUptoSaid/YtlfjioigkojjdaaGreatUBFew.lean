/- Part of the proof: Few. No condition. -/
import Derived.Test.YtlfjioigkojjdaaGreatUBRefs
set_option linter.unusedVariables false
set_option linter.unusedSimpArgs false
set_option maxRecDepth 100000
set_option maxHeartbeats 8000000
namespace Go.Bus
open Go Go.Proofs
instance decFew (m : MsgD) : Decidable m.few := by unfold MsgD.few; infer_instance
end Go.Bus
