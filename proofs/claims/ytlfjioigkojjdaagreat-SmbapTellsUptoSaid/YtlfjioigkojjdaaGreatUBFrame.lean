/- Part of the proof: Frame. No condition. -/
import Derived.Test.YtlfjioigkojjdaaGreatUBPlainb
import Derived.Test.YtlfjioigkojjdaaGreatUBEnge
set_option linter.unusedVariables false
namespace Go.Bus
open Go Go.Proofs
def frCells (u : UInt8) (t : UInt16) (x : MsgX) : List Value := b8 u :: w16 t :: x.cells
theorem frCells_one (u : UInt8) (t : UInt16) (x : MsgX) : ∀ v ∈ frCells u t x, v.oneCell' = true := by
 intro v hv
 simp only [frCells, List.mem_cons] at hv
 rcases hv with rfl | rfl | hv
 · rfl
 · rfl
 · exact x.cells_one v hv
theorem two_fill {a b v w : Value} {z c : List Value} {h m : List Value} (hv : v = .agg h.toArray) (hw : w = .agg m.toArray) (h2 : h = [a, b]) (hm : m = c) (hc : c.length = 22) (hz : z.length = 24) : fillL [(0, 2), (2, 22)] z [(0, v), (1, w)] = some (a :: b :: c) := by
 subst hv hw h2 hm
 obtain ⟨z0, z, rfl⟩ : ∃ z0 r, z = z0 :: r := by cases z with | nil => simp at hz | cons z0 r => exact ⟨z0, r, rfl⟩
 obtain ⟨z1, z, rfl⟩ : ∃ z0 r, z = z0 :: r := by cases z with | nil => simp at hz | cons z0 r => exact ⟨z0, r, rfl⟩
 simp only [List.length_cons] at hz
 have := putAll_whole m [a, b] z (by omega)
 simp only [List.cons_append, List.nil_append, List.length_cons, List.length_nil] at this
 simp [fillL, cellsL, putAll, hc, this, hz]
 rfl
theorem frame_fill {u : UInt8} {t : UInt16} {x : MsgX} {v w : Value} {z : List Value} (hv : v = .agg #[b8 u, w16 t]) (hw : w = .agg x.cells.toArray) (hz : z.length = 24) : fillL [(0, 2), (2, 22)] z [(0, v), (1, w)] = some (frCells u t x) :=
 two_fill hv hw rfl rfl rfl hz
def FrameOut (p : FrameD × Int) (v : Value) (S' T' : List Res) : Prop := ∃ u t x, v = .tuple #[.agg (frCells u t x).toArray, .int .i64 p.2] ∧ (⟨u, t, x.m⟩ : FrameD) = p.1 ∧ S' = [] ∧ T' = [msgR x]
theorem cons_of {α : Type} {l : List α} (h : 0 < l.length) : ∃ a r, l = a :: r := by
 cases l with
 | nil => simp at h
 | cons a r => exact ⟨a, r, rfl⟩
theorem seven {l : List UInt8} (h : 8 ≤ l.length) : ∃ b0 b1 b2 b3 b4 b5 b6 r, l = b0 :: b1 :: b2 :: b3 :: b4 :: b5 :: b6 :: r := by
 obtain ⟨b0, l, rfl⟩ := cons_of (l := l) (by omega)
 obtain ⟨b1, l, rfl⟩ := cons_of (l := l) (by simp at h; omega)
 obtain ⟨b2, l, rfl⟩ := cons_of (l := l) (by simp at h; omega)
 obtain ⟨b3, l, rfl⟩ := cons_of (l := l) (by simp at h; omega)
 obtain ⟨b4, l, rfl⟩ := cons_of (l := l) (by simp at h; omega)
 obtain ⟨b5, l, rfl⟩ := cons_of (l := l) (by simp at h; omega)
 obtain ⟨b6, l, rfl⟩ := cons_of (l := l) (by simp at h; omega)
 exact ⟨b0, b1, b2, b3, b4, b5, b6, l, rfl⟩
theorem word_cons (a b : UInt8) (r : List UInt8) : (⟨a :: b :: r, false, 0⟩ : Cu).word = (UInt16.ofNat (256 * a.toNat + b.toNat), ⟨r, false, 0⟩) := by
 have hb : ¬ (⟨a :: b :: r, false, 0⟩ : Cu).bad (2 * 1) = true := by simp [Cu.bad]; omega
 have hby : (⟨a :: b :: r, false, 0⟩ : Cu).bytes (2 * 1) = ([a, b], ⟨r, false, 0⟩) := by unfold Cu.bytes; rw [if_neg hb]; rfl
 have hw : (⟨a :: b :: r, false, 0⟩ : Cu).words 1 = ([UInt16.ofNat (256 * a.toNat + b.toNat)], ⟨r, false, 0⟩) := by
  unfold Cu.words; rw [if_neg (by simp; omega), hby]; simp [wordTake, takeW]
 unfold Cu.word; rw [hw]; rfl
theorem byte_cons' (a : UInt8) (r : List UInt8) : (⟨a :: r, false, 0⟩ : Cu).byte = (a, ⟨r, false, 0⟩) := by
 have hb : ¬ (⟨a :: r, false, 0⟩ : Cu).bad 1 = true := by simp [Cu.bad]; omega
 unfold Cu.byte Cu.bytes; rw [if_neg hb]; rfl
theorem bytes_all (r : List UInt8) : (⟨r, false, 0⟩ : Cu).bytes r.length = (r, ⟨[], false, 0⟩) := by
 have hb : ¬ (⟨r, false, 0⟩ : Cu).bad r.length = true := by simp [Cu.bad]
 unfold Cu.bytes; rw [if_neg hb]; simp
theorem two_toNat (a b : UInt8) : (UInt16.ofNat (256 * a.toNat + b.toNat)).toNat = 256 * a.toNat + b.toNat := by
 have h1 := a.toNat_lt
 have h2 := b.toNat_lt
 exact UInt16.toNat_ofNat_of_lt' (by simp [UInt16.size]; omega)
theorem framed_err {u : UInt8} {t : UInt16} {m : MsgD} {e : Int} (h : e ≠ 0) : framed u t (m, e) = ({}, e) := by unfold framed; rw [if_pos h]
theorem framed_ok {u : UInt8} {t : UInt16} {m : MsgD} {e : Int} (h : e = 0) : framed u t (m, e) = ({ unit := u, tid := t, msg := m }, 0) := by unfold framed; rw [if_neg (by simp [h])]
end Go.Bus
