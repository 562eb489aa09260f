/- Part of the proof: Stream. No condition. -/
import Derived.Test.YtlfjioigkojjdaaGreatUAPlainb
set_option linter.unusedVariables false
set_option linter.unusedSimpArgs false
namespace Go.Bus
open Go Go.Proofs
structure EventD where
 e : Int := 0
 f : FrameD := {}
deriving DecidableEq
def evOf (p : FrameD × Int) : EventD := ⟨p.2, p.1⟩
structure Sr where
 held : List UInt8 := []
 off : Bool := false
deriving DecidableEq
def srFeed (s : Sr) (b : List UInt8) : List EventD × Sr :=
 if s.off then ([], s) else if b.length ≤ 256 - s.held.length then ([], ⟨s.held ++ b, false⟩) else ([⟨3, {}⟩], ⟨[], true⟩)
def srTick (dir : Int) (s : Sr) : List EventD × Sr := (if s.held = [] then [] else [evOf (P15 dir s.held)], ⟨[], false⟩)
def of19 (dir : Int) (b : List UInt8) (ended : Bool) : List EventD :=
 if 256 < b.length then [⟨3, {}⟩] else if b = [] ∨ ended = false then [] else [evOf (P15 dir b)]
def srAt (b : List UInt8) : Sr := if 256 < b.length then ⟨[], true⟩ else ⟨b, false⟩
theorem srFeed_at (dir : Int) (b p : List UInt8) : srFeed (srAt b) p = (if ¬ 256 < b.length ∧ 256 < (b ++ p).length then of19 dir (b ++ p) false else [], srAt (b ++ p)) := by
 by_cases h : 256 < b.length
 · have h2 : 256 < (b ++ p).length := by simp; omega
   have e1 : srAt b = ⟨[], true⟩ := if_pos h
   have e2 : srAt (b ++ p) = ⟨[], true⟩ := if_pos h2
   rw [e1, e2, if_neg (fun q => q.1 h)]; rfl
 · have e1 : srAt b = ⟨b, false⟩ := if_neg h
   rw [e1]
   by_cases h2 : 256 < (b ++ p).length
   · have e2 : srAt (b ++ p) = ⟨[], true⟩ := if_pos h2
     rw [e2, if_pos ⟨h, h2⟩]
     unfold srFeed of19
     rw [if_neg (by simp), if_neg (by simp at h2 ⊢; omega), if_pos h2]
   · have e2 : srAt (b ++ p) = ⟨b ++ p, false⟩ := if_neg h2
     rw [e2, if_neg (fun q => h2 q.2)]
     unfold srFeed
     rw [if_neg (by simp), if_pos (by simp at h2 ⊢; omega)]
theorem srAt_len (b : List UInt8) : ((srAt b).held.length : Int) = if 256 < b.length then 0 else b.length := by
 unfold srAt; split <;> simp
theorem srTick_at (dir : Int) (b : List UInt8) : srTick dir (srAt b) = (if 256 < b.length then [] else of19 dir b true, srAt []) := by
 unfold srAt srTick of19
 by_cases h : 256 < b.length
 · simp [h]
 · simp [h]
structure Sm where
 held : List UInt8 := []
 skip : Nat := 0
deriving DecidableEq
end Go.Bus
