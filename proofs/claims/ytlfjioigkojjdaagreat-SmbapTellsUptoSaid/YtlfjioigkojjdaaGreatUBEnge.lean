/- Part of the proof: Enge. No condition. -/
import Derived.Test.YtlfjioigkojjdaaGreatUBMsg
set_option linter.unusedVariables false
namespace Go.Bus
open Go
structure Weak (M : Env → List Res → List Res → Prop) (E : Env) (S T : List Res) : Prop where
 out : ∃ S' r T', Pull S S' r ∧ Sub T' T ∧ M E S' T'
section
variable {c : Ctx} {Q : Post} {E : Env} {S T : List Res}
theorem GC_cutM {x : Code} (M : Env → List Res → List Res → Prop) (h : GC c x (Sq (Weak M) Q) E S T) (k : ∀ E S T, Weak M E S T → Q .normal E S T) : GC c x Q E S T :=
 GC_mono h fun e E' S' T' hq => by
  cases e with
  | normal => exact k E' S' T' hq
  | _ => exact hq
theorem GC_cutJ {x : Code} (M : Env → List Res → List Res → Prop) (h : GC c x (Sq M Q) E S T) (k : ∀ E S T, M E S T → Q .normal E S T) : GC c x Q E S T :=
 GC_mono h fun e E' S' T' hq => by
  cases e with
  | normal => exact k E' S' T' hq
  | _ => exact hq
theorem weak {M : Env → List Res → List Res → Prop} {S' r T' : List Res} (h1 : Pull S S' r) (h2 : Sub T' T) (h3 : M E S' T') : Weak M E S T := ⟨S', r, T', h1, h2, h3⟩
end
end Go.Bus
