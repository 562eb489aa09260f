/- Part of the proof: CrcP. No condition. -/
import Derived.Test.YtlfjioigkojjdaaGreatUBFrame
set_option linter.unusedVariables false
namespace Go.Bus
open Go Go.Proofs
section
variable {c : Ctx} {Q : Post} {E : Env} {S T : List Res} {ops : Array Oper} {rest : List Oper} {d : Option Nat} {op : Op} {ty : TypeId} {pos : String} {af : Array Edge}
end
end Go.Bus
