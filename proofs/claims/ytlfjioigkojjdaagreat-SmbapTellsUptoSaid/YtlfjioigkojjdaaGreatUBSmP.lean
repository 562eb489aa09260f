/- Part of the proof: SmP. No condition. -/
import Derived.Test.YtlfjioigkojjdaaGreatUBEvt
set_option linter.unusedVariables false
namespace Go.Bus
open Go Go.Proofs
def smN (dir : Int) (s : Sm) : List EventD × Sm :=
 if s.held.length < 6 then ([], s)
 else if 254 < sizeN s.held then ([⟨3, {}⟩], ⟨[], sizeN s.held⟩)
 else if sizeN s.held < 2 then ([⟨5, {}⟩], ⟨[], sizeN s.held⟩)
 else if s.held.length = 6 + sizeN s.held then ([evOf (P17 dir s.held)], ⟨[], s.skip⟩)
 else ([], s)
theorem sm1_skip (dir : Int) (s : Sm) (c : UInt8) (h : 0 < s.skip) : sm1 dir s c = ([], ⟨s.held, s.skip - 1⟩) := by unfold sm1; rw [if_pos h]
theorem sm1_take (dir : Int) (s : Sm) (c : UInt8) (h : ¬ 0 < s.skip) : sm1 dir s c = smN dir ⟨s.held ++ [c], s.skip⟩ := by unfold sm1 smN; rw [if_neg h]
theorem at8_le (h : List UInt8) (i : Nat) : at8 h i ≤ 255 := by unfold at8; have := (h.getD i 0).toNat_lt; omega
theorem at8_get {h : List UInt8} {i : Nat} (hi : i < h.length) : at8 h i = (h[i]'hi).toNat := by unfold at8; rw [List.getD_eq_getElem?_getD, List.getElem?_eq_getElem hi, Option.getD_some]
theorem sizeN_le (h : List UInt8) : sizeN h ≤ 65535 := by unfold sizeN; have := at8_le h 4; have := at8_le h 5; omega
theorem smN_few (dir : Int) (s : Sm) : (smN dir s).1.length ≤ 1 ∧ (smN dir s).2.held.length ≤ s.held.length ∧ (s.skip ≤ 65535 → (smN dir s).2.skip ≤ 65535) := by
 have := sizeN_le s.held
 unfold smN
 by_cases h1 : s.held.length < 6
 · rw [if_pos h1]; exact ⟨by simp, Nat.le_refl _, id⟩
 rw [if_neg h1]
 by_cases h2 : 254 < sizeN s.held
 · rw [if_pos h2]; exact ⟨by simp, Nat.zero_le _, fun _ => this⟩
 rw [if_neg h2]
 by_cases h3 : sizeN s.held < 2
 · rw [if_pos h3]; exact ⟨by simp, Nat.zero_le _, fun _ => this⟩
 rw [if_neg h3]
 by_cases h4 : s.held.length = 6 + sizeN s.held
 · rw [if_pos h4]; exact ⟨by simp, Nat.zero_le _, id⟩
 rw [if_neg h4]; exact ⟨by simp, Nat.le_refl _, id⟩
theorem smF_snoc (dir : Int) (s : Sm) (l : List UInt8) (c : UInt8) : smF dir s (l ++ [c]) = ((smF dir s l).1 ++ (sm1 dir (smF dir s l).2 c).1, (sm1 dir (smF dir s l).2 c).2) := by
 rw [smF_append]; simp [smF]
def SmAcc (dir : Int) (s0 : Sm) (l : List UInt8) (xs : List EvX) (st : Sm) : Prop := xs.map EvX.d = (smF dir s0 l).1 ∧ st = (smF dir s0 l).2 ∧ xs.length ≤ l.length ∧ st.held.length ≤ s0.held.length + l.length ∧ st.skip ≤ 65535
theorem SmAcc.nil {dir : Int} {s0 : Sm} (h : s0.skip ≤ 65535) : SmAcc dir s0 [] [] s0 := ⟨rfl, rfl, Nat.le_refl _, Nat.le_refl _, h⟩
theorem SmAcc.skipped {dir : Int} {s0 st : Sm} {l : List UInt8} {xs : List EvX} (h : SmAcc dir s0 l xs st) (hs : 0 < st.skip) (c : UInt8) : SmAcc dir s0 (l ++ [c]) xs ⟨st.held, st.skip - 1⟩ := by
 obtain ⟨h1, h2, h3, h4, h5⟩ := h
 have e := smF_snoc dir s0 l c
 rw [← h2, sm1_skip dir st c hs] at e
 refine ⟨by rw [e, h1]; simp, by rw [e], by simp; omega, by simp; omega, by show st.skip - 1 ≤ 65535; omega⟩
theorem SmAcc.taken {dir : Int} {s0 st : Sm} {l : List UInt8} {xs ys : List EvX} (h : SmAcc dir s0 l xs st) (hs : ¬ 0 < st.skip) (c : UInt8) (hy : ys.map EvX.d = (smN dir ⟨st.held ++ [c], st.skip⟩).1) : SmAcc dir s0 (l ++ [c]) (xs ++ ys) (smN dir ⟨st.held ++ [c], st.skip⟩).2 := by
 obtain ⟨h1, h2, h3, h4, h5⟩ := h
 have e := smF_snoc dir s0 l c
 rw [← h2, sm1_take dir st c hs] at e
 obtain ⟨f1, f2, f3⟩ := smN_few dir ⟨st.held ++ [c], st.skip⟩
 have hl := congrArg List.length hy
 simp only [List.length_map] at hl
 simp only [List.length_append, List.length_cons, List.length_nil] at f2
 exact ⟨by rw [e, List.map_append, h1, hy], by rw [e], by simp; omega, by simp; omega, f3 h5⟩
theorem smF_few (dir : Int) : ∀ (l : List UInt8) (s : Sm), (smF dir s l).1.length ≤ l.length ∧ (smF dir s l).2.held.length ≤ s.held.length + l.length ∧ (s.skip ≤ 65535 → (smF dir s l).2.skip ≤ 65535)
 | [], s => ⟨Nat.le_refl _, Nat.le_refl _, id⟩
 | c :: l, s => by
  obtain ⟨h1, h2, h3⟩ := smF_few dir l (sm1 dir s c).2
  have h4 : (sm1 dir s c).1.length ≤ 1 ∧ (sm1 dir s c).2.held.length ≤ s.held.length + 1 ∧ (s.skip ≤ 65535 → (sm1 dir s c).2.skip ≤ 65535) := by
   by_cases hs : 0 < s.skip
   · rw [sm1_skip dir s c hs]; exact ⟨by simp, by simp, fun h => by show s.skip - 1 ≤ 65535; omega⟩
   · rw [sm1_take dir s c hs]
     obtain ⟨f1, f2, f3⟩ := smN_few dir ⟨s.held ++ [c], s.skip⟩
     simp only [List.length_append, List.length_cons, List.length_nil] at f2
     exact ⟨f1, f2, f3⟩
  simp only [smF, List.length_append, List.length_cons]
  exact ⟨by omega, by omega, fun h => h3 (h4.2.2 h)⟩
theorem SmAcc.feed {dir : Int} {s0 st : Sm} {l p : List UInt8} {xs ys : List EvX} (h : SmAcc dir s0 l xs st) (hy : ys.map EvX.d = (smF dir st p).1) : SmAcc dir s0 (l ++ p) (xs ++ ys) (smF dir st p).2 := by
 obtain ⟨h1, h2, h3, h4, h5⟩ := h
 have e := smF_append dir l p s0
 rw [← h2] at e
 obtain ⟨f1, f2, f3⟩ := smF_few dir p st
 have hl := congrArg List.length hy
 rw [List.length_map] at hl
 exact ⟨by rw [e, List.map_append, h1, hy], by rw [e], by simp; omega, by simp; omega, f3 h5⟩
theorem run_or64 {P : Program} (w : World) (a b : Nat) (ha : a < 256) (hb : b < 256) : (Op.intBits .or .i64 ((256 * a : Nat) : Int) (b : Int)).run P w = .ok (.int .i64 ((256 * a + b : Nat) : Int)) w := by
 have e : (BitVec.ofInt 64 ((256 * a : Nat) : Int) ||| BitVec.ofInt 64 (b : Int)).toNat = 256 * a + b := by
  rw [BitVec.ofInt_natCast, BitVec.ofInt_natCast, BitVec.toNat_or, BitVec.toNat_ofNat, BitVec.toNat_ofNat, Nat.mod_eq_of_lt (by omega), Nat.mod_eq_of_lt (by omega)]
  have := Nat.shiftLeft_add_eq_or_of_lt (i := 8) (b := b) (by omega) a
  rw [Nat.shiftLeft_eq] at this
  rw [show 256 * a = a * 2 ^ 8 by omega, ← this]
 have h0 : (Op.intBits .or .i64 ((256 * a : Nat) : Int) (b : Int)).run P w = .ok (.int .i64 (IntKind.i64.wrap ((BitVec.ofInt 64 ((256 * a : Nat) : Int) ||| BitVec.ofInt 64 (b : Int)).toNat : Nat))) w := rfl
 rw [h0, e, IntWalk.i64_in _ (by omega)]
end Go.Bus
