/- Part of the proof: Frame. No condition. -/
import Derived.Test.YtlfjioigkojjdaaGreatUAPlainb
import Derived.Test.YtlfjioigkojjdaaGreatUAEnge
set_option linter.unusedVariables false
namespace Go.Bus
open Go Go.Proofs
def frCells (u : UInt8) (t : UInt16) (x : MsgX) : List Value := b8 u :: w16 t :: x.cells
theorem frCells_one (u : UInt8) (t : UInt16) (x : MsgX) : ∀ v ∈ frCells u t x, v.oneCell' = true := by
 intro v hv
 simp only [frCells, List.mem_cons] at hv
 rcases hv with rfl | rfl | hv
 · rfl
 · rfl
 · exact x.cells_one v hv
theorem two_fill {a b v w : Value} {z c : List Value} {h m : List Value} (hv : v = .agg h.toArray) (hw : w = .agg m.toArray) (h2 : h = [a, b]) (hm : m = c) (hc : c.length = 22) (hz : z.length = 24) : fillL [(0, 2), (2, 22)] z [(0, v), (1, w)] = some (a :: b :: c) := by
 subst hv hw h2 hm
 obtain ⟨z0, z, rfl⟩ : ∃ z0 r, z = z0 :: r := by cases z with | nil => simp at hz | cons z0 r => exact ⟨z0, r, rfl⟩
 obtain ⟨z1, z, rfl⟩ : ∃ z0 r, z = z0 :: r := by cases z with | nil => simp at hz | cons z0 r => exact ⟨z0, r, rfl⟩
 simp only [List.length_cons] at hz
 have := putAll_whole m [a, b] z (by omega)
 simp only [List.cons_append, List.nil_append, List.length_cons, List.length_nil] at this
 simp [fillL, cellsL, putAll, hc, this, hz]
 rfl
theorem frame_fill {u : UInt8} {t : UInt16} {x : MsgX} {v w : Value} {z : List Value} (hv : v = .agg #[b8 u, w16 t]) (hw : w = .agg x.cells.toArray) (hz : z.length = 24) : fillL [(0, 2), (2, 22)] z [(0, v), (1, w)] = some (frCells u t x) :=
 two_fill hv hw rfl rfl rfl hz
def FrameOut (p : FrameD × Int) (v : Value) (S' T' : List Res) : Prop := ∃ u t x, v = .tuple #[.agg (frCells u t x).toArray, .int .i64 p.2] ∧ (⟨u, t, x.m⟩ : FrameD) = p.1 ∧ S' = [] ∧ T' = [msgR x]
def Slc (l : List UInt8) (v : Value) (S' T' : List Res) : Prop := ∃ A n k, v = .slice A n k ∧ S' = [] ∧ T' = [row 1 A n k (bytesV l)]
theorem framed_err {u : UInt8} {t : UInt16} {m : MsgD} {e : Int} (h : e ≠ 0) : framed u t (m, e) = ({}, e) := by unfold framed; rw [if_pos h]
theorem framed_ok {u : UInt8} {t : UInt16} {m : MsgD} {e : Int} (h : e = 0) : framed u t (m, e) = ({ unit := u, tid := t, msg := m }, 0) := by unfold framed; rw [if_neg (by simp [h])]
end Go.Bus
