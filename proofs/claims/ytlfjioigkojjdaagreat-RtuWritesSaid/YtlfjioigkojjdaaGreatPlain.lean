/- Plain facts: the reference's writer of messages, which tries one layer behind another, writes as the program does. No condition. -/
import Derived.Test.YtlfjioigkojjdaaGreatPuref
set_option linter.unusedVariables false
set_option linter.unusedSimpArgs false
namespace Go.Bus
open Go Go.Proofs
theorem finish_fail {p : MsgD × Cu} (h : p.1.fail = 0) : (finish p).1.fail = 0 := by
  unfold finish; split
  · exact h
  · rfl
theorem parseBy_fail {form : Option (MsgD → Cu → MsgD × Cu)} {dir : Int} {c : UInt8} {l : List UInt8} (h : ∀ f, form = some f → ∀ cu, (f { code := c } cu).1.fail = 0) : (parseBy form dir c l).1.fail = 0 := by
  unfold parseBy
  split
  · rfl
  · cases form with
    | none => rfl
    | some f => exact finish_fail (h f rfl _)
theorem P08_fail (dir : Int) (c : UInt8) (l : List UInt8) : (P08 dir c l).1.fail = 0 := by
  refine parseBy_fail fun f hf cu => ?_
  unfold form08 at hf
  split at hf
  · split at hf <;> (cases hf; rfl)
  · split at hf
    · cases hf; rfl
    · split at hf
      · split at hf <;> (cases hf; rfl)
      · cases hf
theorem P09_fail (dir : Int) (c : UInt8) (l : List UInt8) : (P09 dir c l).1.fail = 0 := by
  refine parseBy_fail fun f hf cu => ?_
  unfold form09 at hf
  repeat' split at hf
  all_goals first | (cases hf; rfl) | (cases hf; done)
theorem P10_fail (dir : Int) (c : UInt8) (l : List UInt8) : (P10 dir c l).1.fail = 0 := by
  refine parseBy_fail fun f hf cu => ?_
  unfold form10 at hf
  split at hf
  · cases hf; unfold lineS; simp only; split <;> rfl
  · split at hf
    · split at hf
      · cases hf; unfold answerS; simp only; repeat' split
        all_goals rfl
      · cases hf; rfl
    · cases hf
theorem P11_fail (dir : Int) (c : UInt8) (l : List UInt8) : (P11 dir c l).1.fail = 0 := by
  unfold P11
  split
  · rfl
  · cases rulesS dir c with
    | none => rfl
    | some q => exact finish_fail rfl
theorem P12_fail (dir : Int) (c : UInt8) (l : List UInt8) : (P12 dir c l).1.fail = 0 := by
  refine parseBy_fail fun f hf cu => ?_
  unfold form12 at hf
  split at hf
  · cases hf; unfold meiS answer12; simp only; repeat' split
    all_goals rfl
  · cases hf
theorem writeBy_no {lay : List UInt8} {x : MsgD × Int} {m : MsgD} (h : x.2 ≠ 0 ∨ x.1 ≠ m) : writeBy lay x m = ([], 1) := by
  unfold writeBy; rw [if_neg]; rintro ⟨h1, h2⟩; rcases h with h | h
  · exact h h1
  · exact h h2
theorem writeBy_fail {lay : List UInt8} {x : MsgD × Int} {m : MsgD} (h : x.1.fail = 0) (hm : m.fail ≠ 0) : writeBy lay x m = ([], 1) :=
  writeBy_no (.inr fun e => hm (by rw [← e]; exact h))
theorem parseBy_none {dir : Int} {c : UInt8} {l : List UInt8} : (parseBy none dir c l).2 ≠ 0 := by
  unfold parseBy; split <;> simp
theorem W08_no (dir : Int) (m : MsgD) (h : ¬ (m.code.toNat = 1 ∨ m.code.toNat = 2 ∨ m.code.toNat = 5 ∨ m.code.toNat = 15)) : W08 dir m = ([], 1) := by
  have hf : form08 dir m.code = none := by unfold form08; rw [if_neg (by omega), if_neg (by omega), if_neg (by omega)]
  refine writeBy_no (.inl ?_); unfold P08; rw [hf]; exact parseBy_none
theorem W09_no (dir : Int) (m : MsgD) (h : ¬ (m.code.toNat = 3 ∨ m.code.toNat = 4 ∨ m.code.toNat = 6 ∨ m.code.toNat = 16 ∨ m.code.toNat = 22 ∨ m.code.toNat = 23 ∨ m.code.toNat = 24)) : W09 dir m = ([], 1) := by
  have hf : form09 dir m.code = none := by
    unfold form09
    rw [if_neg (by omega), if_neg (by omega), if_neg (by omega), if_neg (by omega), if_neg (by omega), if_neg (by omega), if_neg (by omega), if_neg (by omega)]
  refine writeBy_no (.inl ?_); unfold P09; rw [hf]; exact parseBy_none
theorem W10_no (dir : Int) (m : MsgD) (h : ¬ (m.code.toNat = 7 ∨ m.code.toNat = 8 ∨ m.code.toNat = 11 ∨ m.code.toNat = 12 ∨ m.code.toNat = 17)) : W10 dir m = ([], 1) := by
  have hf : form10 dir m.code = none := by unfold form10; rw [if_neg (by omega), if_neg (by omega)]
  refine writeBy_no (.inl ?_); unfold P10; rw [hf]; exact parseBy_none
theorem W11_no (dir : Int) (m : MsgD) (h : ¬ (m.code.toNat = 20 ∨ m.code.toNat = 21)) : W11 dir m = ([], 1) := by
  have hf : rulesS dir m.code = none := by unfold rulesS; rw [if_neg (by omega), if_neg (by omega), if_neg (by omega)]
  refine writeBy_no (.inl ?_); unfold P11; rw [hf]; split <;> simp
theorem W12_no (dir : Int) (m : MsgD) (h : ¬ m.code.toNat = 43) : W12 dir m = ([], 1) := by
  have hf : form12 dir m.code = none := by unfold form12; rw [if_neg h]
  refine writeBy_no (.inl ?_); unfold P12; rw [hf]; exact parseBy_none
theorem P08_no {dir : Int} {c : UInt8} (l : List UInt8) (h : ¬ (c.toNat = 1 ∨ c.toNat = 2 ∨ c.toNat = 5 ∨ c.toNat = 15)) : (P08 dir c l).2 ≠ 0 := by
  have hf : form08 dir c = none := by unfold form08; rw [if_neg (by omega), if_neg (by omega), if_neg (by omega)]
  unfold P08; rw [hf]; exact parseBy_none
theorem P09_no {dir : Int} {c : UInt8} (l : List UInt8) (h : ¬ (c.toNat = 3 ∨ c.toNat = 4 ∨ c.toNat = 6 ∨ c.toNat = 16 ∨ c.toNat = 22 ∨ c.toNat = 23 ∨ c.toNat = 24)) : (P09 dir c l).2 ≠ 0 := by
  have hf : form09 dir c = none := by
    unfold form09
    rw [if_neg (by omega), if_neg (by omega), if_neg (by omega), if_neg (by omega), if_neg (by omega), if_neg (by omega), if_neg (by omega), if_neg (by omega)]
  unfold P09; rw [hf]; exact parseBy_none
theorem P10_no {dir : Int} {c : UInt8} (l : List UInt8) (h : ¬ (c.toNat = 7 ∨ c.toNat = 8 ∨ c.toNat = 11 ∨ c.toNat = 12 ∨ c.toNat = 17)) : (P10 dir c l).2 ≠ 0 := by
  have hf : form10 dir c = none := by unfold form10; rw [if_neg (by omega), if_neg (by omega)]
  unfold P10; rw [hf]; exact parseBy_none
theorem P11_no {dir : Int} {c : UInt8} (l : List UInt8) (h : ¬ (c.toNat = 20 ∨ c.toNat = 21)) : (P11 dir c l).2 ≠ 0 := by
  have hf : rulesS dir c = none := by unfold rulesS; rw [if_neg (by omega), if_neg (by omega), if_neg (by omega)]
  unfold P11; rw [hf]; split <;> simp
theorem P12_no {dir : Int} {c : UInt8} (l : List UInt8) (h : ¬ c.toNat = 43) : (P12 dir c l).2 ≠ 0 := by
  have hf : form12 dir c = none := by unfold form12; rw [if_neg h]
  unfold P12; rw [hf]; exact parseBy_none
/-- what a writer of the reference lays: it makes no difference -/
def LayR (dir : Int) (m : MsgD) (Pp : Int → UInt8 → List UInt8 → MsgD × Int) (Ww : Int → MsgD → List UInt8 × Int) (lay : List UInt8) : Prop := Ww dir m = writeBy lay (Pp dir m.code lay) m ∧ lay.length ≤ 1000000
def BytesR (dir : Int) (m : MsgD) (Pp : Int → UInt8 → List UInt8 → MsgD × Int) (Ww : Int → MsgD → List UInt8 × Int) (v : Value) (S' T' : List Res) : Prop := ∃ lay, LayR dir m Pp Ww lay ∧ BytesO lay v S' T'
def cas (a b : List UInt8 × Int) : List UInt8 × Int := if a.2 ≠ 0 then b else a
theorem cas_no {b : List UInt8 × Int} : cas ([], 1) b = b := rfl
theorem cas_r {a : List UInt8 × Int} (h : a.2 ≠ 0 → a = ([], 1)) : cas a ([], 1) = a := by
  unfold cas; split
  · rename_i q; rw [h q]
  · rfl
theorem writeBy_err {lay : List UInt8} {x : MsgD × Int} {m : MsgD} (h : (writeBy lay x m).2 ≠ 0) : writeBy lay x m = ([], 1) := by
  unfold writeBy at *; split
  · rename_i q; rw [if_pos q] at h; exact absurd rfl h
  · rfl
def body14 (dir : Int) (m : MsgD) : List UInt8 × Int := cas (cas (cas (cas (W08 dir m) (W09 dir m)) (W10 dir m)) (W11 dir m)) (W12 dir m)
def pre14 (dir : Int) (m : MsgD) : List UInt8 × Int := if (W13 m).2 = 0 then W13 m else (m.code :: (body14 dir m).1, (body14 dir m).2)
def rW14 (dir : Int) (m : MsgD) : List UInt8 × Int :=
  if (pre14 dir m).2 ≠ 0 then ([], 1) else if (P14 dir (pre14 dir m).1).2 ≠ 0 ∨ (P14 dir (pre14 dir m).1).1 ≠ m then ([], 1) else ((pre14 dir m).1, 0)
theorem codec_cases (c : UInt8) : (codecS c = some (P08, W08) ∧ (c.toNat = 1 ∨ c.toNat = 2 ∨ c.toNat = 5 ∨ c.toNat = 15)) ∨ (codecS c = some (P09, W09) ∧ (c.toNat = 3 ∨ c.toNat = 4 ∨ c.toNat = 6 ∨ c.toNat = 16 ∨ c.toNat = 22 ∨ c.toNat = 23 ∨ c.toNat = 24)) ∨ (codecS c = some (P10, W10) ∧ (c.toNat = 7 ∨ c.toNat = 8 ∨ c.toNat = 11 ∨ c.toNat = 12 ∨ c.toNat = 17)) ∨ (codecS c = some (P11, W11) ∧ (c.toNat = 20 ∨ c.toNat = 21)) ∨ (codecS c = some (P12, W12) ∧ c.toNat = 43) ∨ (codecS c = none ∧ ¬ (c.toNat = 1 ∨ c.toNat = 2 ∨ c.toNat = 5 ∨ c.toNat = 15) ∧ ¬ (c.toNat = 3 ∨ c.toNat = 4 ∨ c.toNat = 6 ∨ c.toNat = 16 ∨ c.toNat = 22 ∨ c.toNat = 23 ∨ c.toNat = 24) ∧ ¬ (c.toNat = 7 ∨ c.toNat = 8 ∨ c.toNat = 11 ∨ c.toNat = 12 ∨ c.toNat = 17) ∧ ¬ (c.toNat = 20 ∨ c.toNat = 21) ∧ ¬ c.toNat = 43) := by
  unfold codecS
  by_cases h1 : c.toNat = 1 ∨ c.toNat = 2 ∨ c.toNat = 5 ∨ c.toNat = 15
  · rw [if_pos h1]; exact .inl ⟨rfl, h1⟩
  rw [if_neg h1]; refine .inr ?_
  by_cases h2 : c.toNat = 3 ∨ c.toNat = 4 ∨ c.toNat = 6 ∨ c.toNat = 16 ∨ c.toNat = 22 ∨ c.toNat = 23 ∨ c.toNat = 24
  · rw [if_pos h2]; exact .inl ⟨rfl, h2⟩
  rw [if_neg h2]; refine .inr ?_
  by_cases h3 : c.toNat = 7 ∨ c.toNat = 8 ∨ c.toNat = 11 ∨ c.toNat = 12 ∨ c.toNat = 17
  · rw [if_pos h3]; exact .inl ⟨rfl, h3⟩
  rw [if_neg h3]; refine .inr ?_
  by_cases h4 : c.toNat = 20 ∨ c.toNat = 21
  · rw [if_pos h4]; exact .inl ⟨rfl, h4⟩
  rw [if_neg h4]; refine .inr ?_
  by_cases h5 : c.toNat = 43
  · rw [if_pos h5]; exact .inl ⟨rfl, h5⟩
  rw [if_neg h5]; exact .inr ⟨rfl, h1, h2, h3, h4, h5⟩
/-- a layer's writer says what its reader reads back -/
structure Lay1 (dir : Int) (m : MsgD) (Pp : Int → UInt8 → List UInt8 → MsgD × Int) (Ww : Int → MsgD → List UInt8 × Int) : Prop where
  err : (Ww dir m).2 ≠ 0 → Ww dir m = ([], 1)
  ok : (Ww dir m).2 = 0 → Pp dir m.code (Ww dir m).1 = (m, 0)
  fail : m.fail ≠ 0 → (Ww dir m).2 ≠ 0
theorem lay1_of {dir : Int} {m : MsgD} {Pp : Int → UInt8 → List UInt8 → MsgD × Int} {Ww : Int → MsgD → List UInt8 × Int} {L : List UInt8} (h : Ww dir m = writeBy L (Pp dir m.code L) m) (hf : (Pp dir m.code L).1.fail = 0) : Lay1 dir m Pp Ww := by
  refine ⟨fun he => ?_, fun he => ?_, fun he => ?_⟩
  · rw [h] at he ⊢; exact writeBy_err he
  · rw [h] at he ⊢
    unfold writeBy at he ⊢
    by_cases hq : (Pp dir m.code L).2 = 0 ∧ (Pp dir m.code L).1 = m
    · rw [if_pos hq]; exact Prod.ext hq.2 hq.1
    · rw [if_neg hq] at he; exact absurd he (by decide)
  · rw [h, writeBy_fail hf he]; decide
theorem lay08 (dir : Int) (m : MsgD) : Lay1 dir m P08 W08 := lay1_of rfl (P08_fail ..)
theorem lay09 (dir : Int) (m : MsgD) : Lay1 dir m P09 W09 := lay1_of rfl (P09_fail ..)
theorem lay10 (dir : Int) (m : MsgD) : Lay1 dir m P10 W10 := lay1_of rfl (P10_fail ..)
theorem lay11 (dir : Int) (m : MsgD) : Lay1 dir m P11 W11 := lay1_of rfl (P11_fail ..)
theorem lay12 (dir : Int) (m : MsgD) : Lay1 dir m P12 W12 := lay1_of rfl (P12_fail ..)
theorem body14_eq (dir : Int) (m : MsgD) : (∃ Pp Ww, codecS m.code = some (Pp, Ww) ∧ body14 dir m = Ww dir m ∧ Lay1 dir m Pp Ww ∧ m.code.toNat < 128) ∨ (codecS m.code = none ∧ body14 dir m = ([], 1)) := by
  unfold body14
  rcases codec_cases m.code with ⟨h, k⟩ | ⟨h, k⟩ | ⟨h, k⟩ | ⟨h, k⟩ | ⟨h, k⟩ | ⟨h, k1, k2, k3, k4, k5⟩
  · refine .inl ⟨_, _, h, ?_, lay08 dir m, by omega⟩
    rw [W09_no dir m (by omega), W10_no dir m (by omega), W11_no dir m (by omega), W12_no dir m (by omega), cas_r (lay08 dir m).err, cas_r (lay08 dir m).err, cas_r (lay08 dir m).err, cas_r (lay08 dir m).err]
  · refine .inl ⟨_, _, h, ?_, lay09 dir m, by omega⟩
    rw [W08_no dir m (by omega), W10_no dir m (by omega), W11_no dir m (by omega), W12_no dir m (by omega), cas_no, cas_r (lay09 dir m).err, cas_r (lay09 dir m).err, cas_r (lay09 dir m).err]
  · refine .inl ⟨_, _, h, ?_, lay10 dir m, by omega⟩
    rw [W08_no dir m (by omega), W09_no dir m (by omega), W11_no dir m (by omega), W12_no dir m (by omega), cas_no, cas_no, cas_r (lay10 dir m).err, cas_r (lay10 dir m).err]
  · refine .inl ⟨_, _, h, ?_, lay11 dir m, by omega⟩
    rw [W08_no dir m (by omega), W09_no dir m (by omega), W10_no dir m (by omega), W12_no dir m (by omega), cas_no, cas_no, cas_no, cas_r (lay11 dir m).err]
  · refine .inl ⟨_, _, h, ?_, lay12 dir m, by omega⟩
    rw [W08_no dir m (by omega), W09_no dir m (by omega), W10_no dir m (by omega), W11_no dir m (by omega), cas_no, cas_no, cas_no, cas_no]
  · refine .inr ⟨h, ?_⟩
    rw [W08_no dir m k1, W09_no dir m k2, W10_no dir m k3, W11_no dir m k4, W12_no dir m k5]; rfl
theorem public_lt {c : UInt8} (h : publicS c = true) : c.toNat < 128 := by
  unfold publicS at h; simp at h; omega
theorem add_sub128 (c : UInt8) : c + 128 - 128 = c := by
  apply UInt8.toNat_inj.1; rw [UInt8.toNat_sub, UInt8.toNat_add, show (UInt8.toNat 128) = 128 from rfl]; have := c.toNat_lt; omega
theorem toNat_add128 {c : UInt8} (h : c.toNat < 128) : (c + 128).toNat = c.toNat + 128 := by
  rw [UInt8.toNat_add, show (UInt8.toNat 128) = 128 from rfl]; omega
theorem P13_two {c f : UInt8} (hc : publicS c = true) (hf : failureS f = true) : P13 [c + 128, f] = ({ code := c, fail := f }, 0) := by
  have h1 := public_lt hc
  have h2 := toNat_add128 h1
  unfold P13
  simp only [add_sub128]
  rw [if_neg (by rw [hc]; simp; omega)]
  simp [hf]
theorem W13_ok {m : MsgD} (h : (W13 m).2 = 0) : publicS m.code = true ∧ failureS m.fail = true ∧ m = { code := m.code, fail := m.fail } ∧ W13 m = ([m.code + 128, m.fail], 0) := by
  unfold W13 at h ⊢
  split
  · rename_i q
    simp only [Bool.and_eq_true, decide_eq_true_eq] at q
    exact ⟨q.1.1, q.1.2, q.2, rfl⟩
  · rename_i q; rw [if_neg q] at h; exact absurd h (by decide)
theorem W13_no {m : MsgD} (h : (W13 m).2 ≠ 0) : W13 m = ([], 1) := by
  unfold W13 at h ⊢
  split
  · rename_i q; rw [if_pos q] at h; exact absurd rfl h
  · rfl
theorem rW14_eq (dir : Int) (m : MsgD) : rW14 dir m = W14 dir m := by
  by_cases hm : m.fail.toNat ≠ 0
  · have hm0 : m.fail ≠ 0 := fun e => hm (by rw [e]; rfl)
    by_cases h13 : (W13 m).2 = 0
    · obtain ⟨q1, q2, q3, q4⟩ := W13_ok h13
      have hpre : pre14 dir m = ([m.code + 128, m.fail], 0) := by unfold pre14; rw [if_pos h13, q4]
      have hc := toNat_add128 (public_lt q1)
      unfold rW14 W14
      rw [if_pos hm, hpre, if_neg (by simp)]
      by_cases hd : dir = 1
      · subst hd
        have : P14 1 [m.code + 128, m.fail] = (m, 0) := by
          unfold P14
          rw [if_neg (by decide)]
          simp only
          rw [if_neg (by simp), if_pos ⟨by omega, by trivial⟩, P13_two q1 q2, ← q3]
        rw [this, if_neg (by simp), if_neg (by simp), q4]
      · have : (P14 dir [m.code + 128, m.fail]).2 ≠ 0 := by
          unfold P14
          by_cases h0 : dir ≠ 0 ∧ dir ≠ 1
          · rw [if_pos h0]; decide
          · rw [if_neg h0]
            simp only
            rw [if_neg (by simp), if_neg (by omega)]
            have : codecS (m.code + 128) = none := by
              unfold codecS
              rw [if_neg (by omega), if_neg (by omega), if_neg (by omega), if_neg (by omega), if_neg (by omega)]
            rw [this]; simp
        rw [if_pos (.inl this), if_pos hd]
    · have hb : body14 dir m = ([], 1) := by
        rcases body14_eq dir m with ⟨Pp, Ww, _, h2, h3, _⟩ | ⟨_, h2⟩
        · rw [h2]; exact h3.err (h3.fail hm0)
        · exact h2
      have hpre : (pre14 dir m).2 ≠ 0 := by unfold pre14; rw [if_neg h13, hb]; simp
      unfold rW14 W14
      rw [if_pos hpre, if_pos hm]
      split
      · rfl
      · exact (W13_no h13).symm
  · have hm0 : m.fail.toNat = 0 := by omega
    have h13 : ¬ (W13 m).2 = 0 := fun h => by
      have := (W13_ok h).2.1
      unfold failureS at this; simp [hm0] at this
    have hpre : pre14 dir m = (m.code :: (body14 dir m).1, (body14 dir m).2) := by unfold pre14; rw [if_neg h13]
    unfold rW14 W14
    rw [if_neg hm, hpre]
    rcases body14_eq dir m with ⟨Pp, Ww, h1, h2, h3, h4⟩ | ⟨h1, h2⟩
    · rw [h1, h2]
      simp only
      by_cases he : (Ww dir m).2 = 0
      · rw [if_neg (by simp [he])]
        have hp := h3.ok he
        by_cases hd : dir ≠ 0 ∧ dir ≠ 1
        · exfalso
          -- a direction that is none: nothing is written
          have := hp
          have h5 : ∀ l, (Pp dir m.code l).2 ≠ 0 := by
            rcases codec_cases m.code with ⟨h, k⟩ | ⟨h, k⟩ | ⟨h, k⟩ | ⟨h, k⟩ | ⟨h, k⟩ | ⟨h, k1, k2, k3, k4, k5⟩ <;> rw [h1] at h <;> cases h <;> intro l
            · unfold P08 parseBy; rw [if_pos hd]; decide
            · unfold P09 parseBy; rw [if_pos hd]; decide
            · unfold P10 parseBy; rw [if_pos hd]; decide
            · unfold P11; rw [if_pos hd]; decide
            · unfold P12 parseBy; rw [if_pos hd]; decide
          exact h5 _ (by rw [this])
        · by_cases hl : 253 ≤ (Ww dir m).1.length
          · have : (P14 dir (m.code :: (Ww dir m).1)).2 ≠ 0 := by
              unfold P14; rw [if_neg hd]; simp only; rw [if_pos (by simp; omega)]; decide
            rw [if_pos (.inl this), if_pos (.inr hl)]
          · have : P14 dir (m.code :: (Ww dir m).1) = (m, 0) := by
              unfold P14; rw [if_neg hd]; simp only; rw [if_neg (by simp; omega), if_neg (by omega), h1]; exact hp
            rw [this, if_neg (by simp), if_neg (by simp [he]; omega)]
      · rw [if_pos he, if_pos (.inl he)]
    · rw [h1, h2]; rfl
end Go.Bus
