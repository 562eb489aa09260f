/- Part of the proof: Plain. No condition. -/
import Derived.Test.YtlfjioigkojjdaaGreatUBPuref
set_option linter.unusedVariables false
set_option linter.unusedSimpArgs false
namespace Go.Bus
open Go Go.Proofs
theorem codec_cases (c : UInt8) : (codecS c = some (P08, W08) ∧ (c.toNat = 1 ∨ c.toNat = 2 ∨ c.toNat = 5 ∨ c.toNat = 15)) ∨ (codecS c = some (P09, W09) ∧ (c.toNat = 3 ∨ c.toNat = 4 ∨ c.toNat = 6 ∨ c.toNat = 16 ∨ c.toNat = 22 ∨ c.toNat = 23 ∨ c.toNat = 24)) ∨ (codecS c = some (P10, W10) ∧ (c.toNat = 7 ∨ c.toNat = 8 ∨ c.toNat = 11 ∨ c.toNat = 12 ∨ c.toNat = 17)) ∨ (codecS c = some (P11, W11) ∧ (c.toNat = 20 ∨ c.toNat = 21)) ∨ (codecS c = some (P12, W12) ∧ c.toNat = 43) ∨ (codecS c = none ∧ ¬ (c.toNat = 1 ∨ c.toNat = 2 ∨ c.toNat = 5 ∨ c.toNat = 15) ∧ ¬ (c.toNat = 3 ∨ c.toNat = 4 ∨ c.toNat = 6 ∨ c.toNat = 16 ∨ c.toNat = 22 ∨ c.toNat = 23 ∨ c.toNat = 24) ∧ ¬ (c.toNat = 7 ∨ c.toNat = 8 ∨ c.toNat = 11 ∨ c.toNat = 12 ∨ c.toNat = 17) ∧ ¬ (c.toNat = 20 ∨ c.toNat = 21) ∧ ¬ c.toNat = 43) := by
 unfold codecS
 by_cases h1 : c.toNat = 1 ∨ c.toNat = 2 ∨ c.toNat = 5 ∨ c.toNat = 15
 · rw [if_pos h1]; exact .inl ⟨rfl, h1⟩
 rw [if_neg h1]; refine .inr ?_
 by_cases h2 : c.toNat = 3 ∨ c.toNat = 4 ∨ c.toNat = 6 ∨ c.toNat = 16 ∨ c.toNat = 22 ∨ c.toNat = 23 ∨ c.toNat = 24
 · rw [if_pos h2]; exact .inl ⟨rfl, h2⟩
 rw [if_neg h2]; refine .inr ?_
 by_cases h3 : c.toNat = 7 ∨ c.toNat = 8 ∨ c.toNat = 11 ∨ c.toNat = 12 ∨ c.toNat = 17
 · rw [if_pos h3]; exact .inl ⟨rfl, h3⟩
 rw [if_neg h3]; refine .inr ?_
 by_cases h4 : c.toNat = 20 ∨ c.toNat = 21
 · rw [if_pos h4]; exact .inl ⟨rfl, h4⟩
 rw [if_neg h4]; refine .inr ?_
 by_cases h5 : c.toNat = 43
 · rw [if_pos h5]; exact .inl ⟨rfl, h5⟩
 rw [if_neg h5]; exact .inr ⟨rfl, h1, h2, h3, h4, h5⟩
structure Lay1 (dir : Int) (m : MsgD) (Pp : Int → UInt8 → List UInt8 → MsgD × Int) (Ww : Int → MsgD → List UInt8 × Int) : Prop where
 err : (Ww dir m).2 ≠ 0 → Ww dir m = ([], 1)
 ok : (Ww dir m).2 = 0 → Pp dir m.code (Ww dir m).1 = (m, 0)
 fail : m.fail ≠ 0 → (Ww dir m).2 ≠ 0
end Go.Bus
