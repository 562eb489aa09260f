/- Part of the proof: Puref. No condition. -/
import Derived.Test.YtlfjioigkojjdaaGreatUBSpec
set_option linter.unusedVariables false
namespace Go.Bus
open Go Go.Proofs
theorem Cu.bytes_less (c : Cu) (h : 0 < c.r.length) : (c.bytes 1).2.r.length < c.r.length := by
 unfold Cu.bytes; split
 · simpa [Cu.need] using h
 · simp; omega
theorem Cu.byte_less (c : Cu) (h : 0 < c.r.length) : c.byte.2.r.length < c.r.length := c.bytes_less h
theorem needE_ok {e : Int} {ok : Bool} {j : Int} (hj : j ≠ 0) (h : needE e ok j = 0) : e = 0 ∧ ok = true := by
 unfold needE at h
 by_cases h1 : e = 0 ∧ ok = false
 · rw [if_pos h1] at h; exact absurd h hj
 · rw [if_neg h1] at h
   refine ⟨h, ?_⟩
   cases ok
   · exact absurd ⟨h, rfl⟩ h1
   · rfl
theorem headS_less (c : Cu) (h : 0 < c.r.length) : (headS c).2.r.length < c.r.length := by
 have h1 := c.byte_less h
 simp only [headS, Cu.need]
 have h2 := (⟨c.byte.2.r, c.byte.2.s, needE c.byte.2.e (decide ((c.byte.1.toNat : Int) = 6)) 9⟩ : Cu).word_rest
 refine Nat.lt_of_le_of_lt (Nat.le_trans (Cu.word_rest _) (Nat.le_trans (Cu.word_rest _) h2)) h1
def OneOk (one : Int → Cu → RecD × Cu × Int) : Prop := ∀ sum c, 0 < c.r.length → (one sum c).2.1.r.length < c.r.length ∧ (0 ≤ sum ∧ sum ≤ 1000 → (one sum c).2.1.e = 0 → 0 ≤ (one sum c).2.2 ∧ (one sum c).2.2 ≤ 1000)
theorem askedF_ok : OneOk askedF := fun sum c h => by
 refine ⟨headS_less c h, fun hs he => ?_⟩
 simp only [askedF, Cu.need] at he ⊢
 have := (needE_ok (by decide) he).2
 have h2 := of_decide_eq_true this
 have := (headS c).1.count.toNat_lt
 omega
theorem toldF_ok : OneOk toldF := fun sum c h => by
 refine ⟨?_, fun hs he => hs⟩
 have h1 := c.byte_less h
 simp only [toldF]
 refine Nat.lt_of_le_of_lt (Nat.le_trans (Cu.words_rest _ _) ?_) h1
 exact Cu.byte_rest _
theorem writtenF_ok : OneOk writtenF := fun sum c h => by
 refine ⟨?_, fun hs he => hs⟩
 have h1 := headS_less c h
 simp only [writtenF]
 exact Nat.lt_of_le_of_lt (Cu.words_rest _ _) h1
theorem rulesS_ok {dir : Int} {code : UInt8} {may : Int → Bool} {one : Int → Cu → RecD × Cu × Int} (h : rulesS dir code = some (may, one)) : OneOk one := by
 unfold rulesS at h
 split at h
 · cases h; exact askedF_ok
 · split at h
   · cases h; exact toldF_ok
   · split at h
     · cases h; exact writtenF_ok
     · cases h
theorem partsF_step {one : Int → Cu → RecD × Cu × Int} {f : Nat} {s : Int} {c : Cu} {l : List RecD} (h : 0 < c.r.length ∧ c.e = 0) : partsF one (f + 1) s c l = if (one s c).2.1.e ≠ 0 then (l, (one s c).2.1) else partsF one f (one s c).2.2 (one s c).2.1 (l ++ [(one s c).1]) := by
 simp only [partsF]; rw [if_pos h]
theorem partsF_end {one : Int → Cu → RecD × Cu × Int} {f : Nat} {s : Int} {c : Cu} {l : List RecD} (h : ¬ (0 < c.r.length ∧ c.e = 0)) : partsF one f s c l = (l, c) := by
 cases f with
 | zero => rfl
 | succ f => simp only [partsF]; rw [if_neg h]
end Go.Bus
