/- What an argument that reads as a frame gives the walks. No condition. -/
import Derived.Test.YtlfjioigkojjdaaGreatOpen
import Derived.Test.YtlfjioigkojjdaaGreatFrame
set_option linter.unusedVariables false
set_option linter.unusedSimpArgs false
set_option maxRecDepth 100000
namespace Go.Bus
open Go Go.Proofs Go.RowKit
section
variable {H : Type} {enc : TypeId × Value → H} {P : Program} {w : World} {base : Nat} {spare : Nat → Bool} {held : Bool}
/-- a struct's field -/
theorem trod_part {t : TypeId} {fs : Array Field} {fuel : Nat} {cs : List Value} {x : DataW H × List MemPlace} (ht : P.underlying t = some (.struct fs)) (h : DataW.trod enc P w base spare held fuel t cs = some x) (i : Nat) {f : Field} (hf : fs[i]? = some f) {c : Nat} (hc : P.cellsOf f.type = c) : ∃ n y, DataW.trod enc P w base spare held n f.type ((cs.drop f.offset).take c) = some y := by
  obtain ⟨xs, n, rfl, _, hlen, hxl, hfs⟩ := DataW.trod_struct ht h
  have h1 := hfs i f hf
  have hi : i < xs.length := by rw [hxl]; exact (Array.getElem?_eq_some_iff.1 hf).1
  rw [hc, List.getElem?_eq_getElem hi] at h1
  exact ⟨n, _, h1⟩
end
theorem ce42 : PG.cellsOf 42 = 2 := by kernel_rfl
theorem ce44 : PG.cellsOf 44 = 24 := by kernel_rfl
section
variable {H : Type} {enc : TypeId × Value → H} {w : World} {base : Nat} {spare : Nat → Bool} {held : Bool} {fuel : Nat} {cs : List Value} {x : DataW H × List MemPlace}
theorem openHead {c0 c1 : Value} (h : DataW.trod enc PG w base spare held fuel 42 [c0, c1] = some x) : ∃ (u : UInt8) (t : UInt16), c0 = b8 u ∧ c1 = w16 t := by
  obtain ⟨z0, rfl, h0⟩ := fieldI Tryz.underlying42 h 0 rfl ce5 Tryz.underlying5 (v := c0) rfl
  obtain ⟨z1, rfl, h1⟩ := fieldI Tryz.underlying42 h 1 rfl ce24 Tryz.underlying24 (v := c1) rfl
  exact ⟨UInt8.ofNat z0.toNat, UInt16.ofNat z1.toNat, (wf8 h0).symm, (wf16 h1).symm⟩
theorem openFrame (hl : cs.length = 24) (h : DataW.trod enc PG w base spare held fuel 44 cs = some x) : ∃ (u : UInt8) (t : UInt16) (y : MsgX), cs = frCells u t y ∧ (msgR y).ok w := by
  match cs, hl with
  | c0 :: c1 :: r, hl =>
    have hr : r.length = 22 := by simpa using hl
    obtain ⟨n0, y0, h0⟩ := trod_part Tryz.underlying44 h 0 rfl ce42
    obtain ⟨n1, y1, h1⟩ := trod_part Tryz.underlying44 h 1 rfl ce30
    have e0 : ((c0 :: c1 :: r).drop 0).take 2 = [c0, c1] := rfl
    have e1 : ((c0 :: c1 :: r).drop 2).take 22 = r := by simp [List.take_of_length_le (Nat.le_of_eq hr)]
    obtain ⟨u, t, rfl, rfl⟩ := openHead (e0 ▸ h0)
    obtain ⟨y, rfl, ho⟩ := openMsg hr (e1 ▸ h1)
    exact ⟨u, t, y, rfl, ho⟩
end
end Go.Bus
