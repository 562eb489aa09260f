/- Part of the proof: CrcP. No condition. -/
import Derived.Test.YtlfjioigkojjdaaGreatUAFrame
set_option linter.unusedVariables false
namespace Go.Bus
open Go Go.Proofs
section
variable {c : Ctx} {Q : Post} {E : Env} {S T : List Res} {ops : Array Oper} {rest : List Oper} {d : Option Nat} {op : Op} {ty : TypeId} {pos : String} {af : Array Edge}
theorem GL_on {j s : Nat} {want : Bool} (hj : (ops[j]?).bind (·.dst) = some s) (hv : E s = .bool want) (k : GL c ops (⟨d, op, ty, pos, af, none⟩ :: rest) Q E S T) : GL c ops (⟨d, op, ty, pos, af, some (j, want)⟩ :: rest) Q E S T := fun w a hr hs => by
 have hk := k w a hr hs
 have hg : Gv (E s) want true := by rw [hv]; cases want <;> rfl
 have hw := wanted_of (ops := ops) (o := ⟨d, op, ty, pos, af, some (j, want)⟩) hr rfl hj hg
 simp only [wpList] at hk ⊢
 rw [hw, if_pos rfl]
 rw [if_pos (by rfl)] at hk
 exact hk
end
theorem tab_len {N i : Nat} {f : Nat → Value} {z : Value} (h : i ≤ N) : ((List.range i).map f ++ List.replicate (N - i) z).length = N := by simp; omega
theorem tab_set {N i : Nat} {f : Nat → Value} {z : Value} (h : i < N) : ((List.range i).map f ++ List.replicate (N - i) z).set i (f i) = (List.range (i + 1)).map f ++ List.replicate (N - (i + 1)) z := by
 obtain ⟨m, rfl⟩ : ∃ m, N = i + (m + 1) := ⟨N - i - 1, by omega⟩
 rw [show i + (m + 1) - i = m + 1 by omega, show i + (m + 1) - (i + 1) = m by omega, List.replicate_succ, List.range_succ, List.map_append]
 apply List.ext_getElem?
 intro q
 by_cases hq : q < i
 · rw [List.getElem?_set_ne (by omega), List.getElem?_append_left (by simpa using hq), List.append_assoc, List.getElem?_append_left (by simpa using hq)]
 · by_cases e : q = i
   · subst e
     rw [List.getElem?_set_self (by simp), List.append_assoc, List.getElem?_append_right (by simp)]
     simp
   · rw [List.getElem?_set_ne (by omega), List.append_assoc, List.getElem?_append_right (by simp; omega), List.getElem?_append_right (by simp; omega)]
     simp only [List.length_map, List.length_range]
     obtain ⟨r, hr⟩ : ∃ r, q - i = r + 1 := ⟨q - i - 1, by omega⟩
     rw [hr]; rfl
theorem tab_at {N j i : Nat} {f : Nat → Value} {z : Value} (h : j < i) : ((List.range i).map f ++ List.replicate (N - i) z)[j]? = some (f j) := by
 rw [List.getElem?_append_left (by simpa using h)]
 simp [h]
theorem tab_one {N i : Nat} {f : Nat → Value} {z : Value} (hf : ∀ j, (f j).oneCell' = true) (hz : z.oneCell' = true) : ∀ u ∈ (List.range i).map f ++ List.replicate (N - i) z, u.oneCell' = true := by
 intro u hu
 rcases List.mem_append.1 hu with hu | hu
 · obtain ⟨j, _, rfl⟩ := List.mem_map.1 hu; exact hf j
 · rw [(List.mem_replicate.1 hu).2]; exact hz
@[irreducible] def tabC (i : Nat) : List Value := (List.range i).map (fun j => .int .u16 (cbits 8 j : Nat)) ++ List.replicate (256 - i) (.int .u16 0)
theorem tabC_eq (i : Nat) : tabC i = (List.range i).map (fun j => .int .u16 (cbits 8 j : Nat)) ++ List.replicate (256 - i) (.int .u16 0) := by unfold tabC; rfl
theorem tabC_len {i : Nat} (h : i ≤ 256) : (tabC i).length = 256 := by rw [tabC_eq]; exact tab_len h
theorem tabC_zero : tabC 0 = List.replicate 256 (.int .u16 0) := by rw [tabC_eq]; rfl
theorem tabC_one (i : Nat) : ∀ u ∈ tabC i, u.oneCell' = true := by rw [tabC_eq]; exact tab_one (fun _ => rfl) rfl
theorem tabC_put {i : Nat} (h : i < 256) : Put1 (tabC i) (i * 1) (.int .u16 (cbits 8 i : Nat)) (tabC (i + 1)) :=
 ⟨by rw [Nat.mul_one, tabC_eq, tabC_eq]; exact (tab_set h).symm, by rw [tabC_len (Nat.le_of_lt h)]; omega⟩
theorem tabC_at {j : Nat} (h : j < 256) : Nth (tabC 256) (j * 1) (.int .u16 (cbits 8 j : Nat)) := ⟨by rw [Nat.mul_one, tabC_eq]; exact tab_at h⟩
theorem cstep_alt (x : Nat) : (x / 2) ^^^ (x % 2 * 40961) = cstep x := by
 unfold cstep
 rcases Nat.mod_two_eq_zero_or_one x with h | h <;> simp [h]
theorem and_one (x : Nat) : x &&& 1 = x % 2 := Nat.and_one_is_mod x
theorem shr8 (x : Nat) : (x : Int).fdiv (2 ^ (min (8 : Int).toNat IntKind.u16.bits)) = ((x / 256 : Nat) : Int) := by
 rw [Int.fdiv_eq_ediv_of_nonneg _ (by decide)]; simp [IntKind.bits]
theorem shr1 (x : Nat) : (x : Int).fdiv (2 ^ (min (1 : Int).toNat IntKind.u16.bits)) = ((x / 2 : Nat) : Int) := by
 rw [Int.fdiv_eq_ediv_of_nonneg _ (by decide)]; simp [IntKind.bits]
theorem crc_next (s : Nat) (l : List UInt8) (m : Nat) (h : m < l.length) : crcN s (l.take (m + 1)) = cbyte (crcN s (l.take m)) (l[m]'h).toNat := by
 rw [take_snoc l m h, crcN_snoc]
theorem crcIs_two {n : Nat} (l : List UInt8) (hl : l.length = n) (h2 : 2 ≤ n) : crcIs l = (decide ((l[n - 2]'(by omega)) = UInt8.ofNat (crcN 65535 (l.take (n - 2)))) && decide ((l[n - 1]'(by omega)) = UInt8.ofNat (crcN 65535 (l.take (n - 2)) / 256))) := by
 subst hl
 have e : l.drop (l.length - 2) = [l[l.length - 2]'(by omega), l[l.length - 1]'(by omega)] := by
  rw [List.drop_eq_getElem_cons (by omega), List.drop_eq_getElem_cons (by omega), List.drop_of_length_le (by omega)]
  congr 2
  congr 1; omega
 unfold crcIs crc2
 rw [decide_eq_true h2, e, Bool.true_and, ← Bool.decide_and, decide_eq_decide]
 constructor
 · intro h; simp only [List.cons.injEq, and_true] at h; exact ⟨h.1.symm, h.2.symm⟩
 · intro h; rw [h.1, h.2]
end Go.Bus
