/- Part of the proof: Pure. No condition. -/
import Derived.Test.YtlfjioigkojjdaaGreatUBEng
set_option linter.unusedVariables false
namespace Go.Bus
open Go
def b8 (x : UInt8) : Value := .int .u8 x.toNat
def w16 (x : UInt16) : Value := .int .u16 x.toNat
def bytesV (l : List UInt8) : List Value := l.map b8
def wordsV (l : List UInt16) : List Value := l.map w16
def boolsV (l : List Bool) : List Value := l.map Value.bool
theorem bytesV_length (l : List UInt8) : (bytesV l).length = l.length := by simp [bytesV]
theorem bytesV_one (l : List UInt8) : ∀ u ∈ bytesV l, u.oneCell' = true := by
 intro u hu; obtain ⟨x, _, rfl⟩ := List.mem_map.1 hu; rfl
theorem boolsV_one (l : List Bool) : ∀ u ∈ boolsV l, u.oneCell' = true := by
 intro u hu; obtain ⟨x, _, rfl⟩ := List.mem_map.1 hu; rfl
structure Cu where
 r : List UInt8
 s : Bool
 e : Int
def needE (e : Int) (ok : Bool) (j : Int) : Int := if e = 0 ∧ ok = false then j else e
def Cu.need (c : Cu) (ok : Bool) (k : Int) : Cu := ⟨c.r, c.s, needE c.e ok k⟩
def Cu.bad (c : Cu) (n : Int) : Bool := c.s || decide (n < 0) || decide ((c.r.length : Int) < n)
def Cu.bytes (c : Cu) (n : Int) : List UInt8 × Cu := if c.bad n = true then ([], Cu.need ⟨[], true, c.e⟩ false 2) else (c.r.take n.toNat, { c with r := c.r.drop n.toNat })
def takeW : List UInt8 → List UInt16
 | a :: b :: l => UInt16.ofNat (256 * a.toNat + b.toNat) :: takeW l
 | _ => []
def wordTake (b : List UInt8) : List UInt16 := if b.length % 2 = 0 then takeW b else []
def Cu.words (c : Cu) (n : Int) : List UInt16 × Cu := if n < 0 ∨ (c.r.length : Int) < n then ([], (c.bytes (-1)).2) else (wordTake (c.bytes (2 * n)).1, (c.bytes (2 * n)).2)
def Cu.byte (c : Cu) : UInt8 × Cu := ((c.bytes 1).1.headD 0, (c.bytes 1).2)
def Cu.word (c : Cu) : UInt16 × Cu := ((c.words 1).1.headD 0, (c.words 1).2)
def Cu.fin (c : Cu) : Cu := c.need (decide (c.r.length = 0)) 3
theorem takeW_two (l : List UInt8) : ∀ (m : Nat) (h : 2 * m + 1 < l.length), takeW (l.take (2 * (m + 1))) = takeW (l.take (2 * m)) ++ [UInt16.ofNat (256 * (l[2 * m]'(by omega)).toNat + (l[2 * m + 1]'h).toNat)] := by
 intro m
 induction m generalizing l with
 | zero =>
  intro h
  match l, h with
  | a :: b :: l, h => simp [takeW]
 | succ m ih =>
  intro h
  match l, h with
  | a :: b :: l, h =>
   have h' : 2 * m + 1 < l.length := by simp at h; omega
   have := ih l h'
   have e1 : 2 * (m + 1 + 1) = 2 * (m + 1) + 2 := by omega
   have e2 : 2 * (m + 1) = 2 * m + 2 := by omega
   rw [e1, List.take_succ_cons, List.take_succ_cons, takeW]
   rw [show List.take (2 * (m + 1)) (a :: b :: l) = a :: b :: List.take (2 * m) l by rw [e2, List.take_succ_cons, List.take_succ_cons], takeW, this]
   simp [e2]
theorem wordsV_append (a b : List UInt16) : wordsV (a ++ b) = wordsV a ++ wordsV b := by simp [wordsV]
theorem bytesV_append (a b : List UInt8) : bytesV (a ++ b) = bytesV a ++ bytesV b := by simp [bytesV]
theorem bytesV_at {l : List UInt8} {i : Nat} (h : i < l.length) : (bytesV l)[i]? = some (b8 (l[i]'h)) := by simp [bytesV, h]
theorem wordsV_at {l : List UInt16} {i : Nat} (h : i < l.length) : (wordsV l)[i]? = some (w16 (l[i]'h)) := by simp [wordsV, h]
theorem w16_of (n : Nat) (h : n < 65536) : w16 (UInt16.ofNat n) = .int .u16 n := by
 unfold w16; rw [UInt16.toNat_ofNat_of_lt' h]
theorem b8_of (n : Nat) (h : n < 256) : b8 (UInt8.ofNat n) = .int .u8 n := by
 unfold b8; rw [UInt8.toNat_ofNat_of_lt' h]
theorem run_or16 {P : Program} (w : World) (a b : Nat) (ha : a < 256) (hb : b < 256) : (Op.intBits .or .u16 (256 * (a : Int)) b).run P w = .ok (.int .u16 ((256 * a + b : Nat) : Int)) w := by
 have e : (BitVec.ofInt 16 (256 * (a : Int)) ||| BitVec.ofInt 16 (b : Int)).toNat = 256 * a + b := by
  have h1 : BitVec.ofInt 16 (256 * (a : Int)) = BitVec.ofNat 16 (256 * a) := by
   rw [show (256 * (a : Int)) = ((256 * a : Nat) : Int) by omega]; exact BitVec.ofInt_natCast ..
  have h2 : BitVec.ofInt 16 (b : Int) = BitVec.ofNat 16 b := BitVec.ofInt_natCast ..
  rw [h1, h2, BitVec.toNat_or, BitVec.toNat_ofNat, BitVec.toNat_ofNat, Nat.mod_eq_of_lt (by omega), Nat.mod_eq_of_lt (by omega)]
  have := Nat.shiftLeft_add_eq_or_of_lt (i := 8) (b := b) (by omega) a
  rw [Nat.shiftLeft_eq] at this
  rw [show 256 * a = a * 2 ^ 8 by omega, ← this]
 have h0 : (Op.intBits .or .u16 (256 * (a : Int)) b).run P w = .ok (.int .u16 (IntKind.u16.wrap ((BitVec.ofInt 16 (256 * (a : Int)) ||| BitVec.ofInt 16 (b : Int)).toNat : Nat))) w := rfl
 rw [h0, e, IntWalk.u16_in _ (by omega)]
theorem Cu.bytes_le (c : Cu) (n : Int) : (c.bytes n).1.length ≤ c.r.length := by
 unfold Cu.bytes; split
 · simp
 · simp; omega
theorem Cu.bytes_rest (c : Cu) (n : Int) : (c.bytes n).2.r.length ≤ c.r.length := by
 unfold Cu.bytes; split
 · simp [Cu.need]
 · simp
theorem Cu.words_rest (c : Cu) (n : Int) : (c.words n).2.r.length ≤ c.r.length := by
 unfold Cu.words; split
 · exact c.bytes_rest _
 · exact c.bytes_rest _
theorem Cu.byte_rest (c : Cu) : c.byte.2.r.length ≤ c.r.length := c.bytes_rest _
theorem Cu.word_rest (c : Cu) : c.word.2.r.length ≤ c.r.length := c.words_rest _
end Go.Bus
