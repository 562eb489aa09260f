/- Part of the proof: Openp. No condition. -/
import Derived.Test.YtlfjioigkojjdaaGreatUBOpen
import Derived.Test.YtlfjioigkojjdaaGreatUBEvt
set_option linter.unusedVariables false
set_option linter.unusedSimpArgs false
set_option maxRecDepth 100000
namespace Go.Bus
open Go Go.Proofs Go.RowKit
def Szd {H : Type} (d : DataW H) (n : Nat) : Prop := (d = .nil ∧ n = 0) ∨ ∃ D sp, d = .slice ((List.range n).map D) sp
theorem pcRows_map {α : Type} (f : α → List UInt8) (g : α → Hd) : ∀ l : List α, pcRows (l.map f) (l.map g) = l.map fun i => row 1 (g i).A (g i).n (g i).k (bytesV (f i))
 | [] => rfl
 | x :: l => by simp [pcRows, pcRows_map f g l]
section
variable {H : Type} {enc : TypeId × Value → H} {w : World} {base : Nat} {spare : Nat → Bool} {held : Bool} {fuel : Nat} {cs : List Value} {x : DataW H × List MemPlace}
theorem openBytesZ (h : DataW.trod enc PG w base spare held fuel 22 cs = some x) : ∃ (h : Hd) (l : List UInt8), cs = [.slice h.A h.n h.k] ∧ (row 1 h.A h.n h.k (bytesV l)).ok w ∧ Szd x.1 l.length := by
 obtain ⟨hd, l, h1, h2⟩ := openBytes h
 refine ⟨hd, l, h1, h2, ?_⟩
 have hl : l.length = hd.n := by have := (row_ok.1 h2).1; simpa [bytesV] using this
 rcases Go.Deep.open_slice1 Tryz.underlying22 ce5 h with ⟨h3, h4⟩ | ⟨a, len, cap, m, n, V, D, Pl, h3, _, _, _, _, h4, _⟩
 · rw [h1] at h3
   simp only [List.cons.injEq, Value.slice.injEq, and_true] at h3
   exact .inl ⟨by rw [h4], by omega⟩
 · rw [h1] at h3
   simp only [List.cons.injEq, Value.slice.injEq, and_true] at h3
   refine .inr ⟨D, (List.range (m - len)).map (fun j => D (len + j)), ?_⟩
   rw [h4, hl, h3.2.1]
theorem openPieces (h : DataW.trod enc PG w base spare held fuel 49 cs = some x) : ∃ (hd : Hd) (b : List (List UInt8)) (hs : List Hd), cs = [.slice hd.A hd.n hd.k] ∧ (pieceR hd b hs).ok w ∧ (b = [] ∨ ∃ D sp, x.1 = .slice ((List.range b.length).map D) sp ∧ ∀ i (hi : i < b.length), Szd (D i) (b[i]'hi).length) := by
 rcases Go.Deep.open_slice1 Tryz.underlying49 ce22 h with ⟨rfl, _⟩ | ⟨a, len, cap, m, n, V, D, Pl, rfl, _, hl, hm, hmm, rfl, hV⟩
 · exact ⟨{}, [], [], rfl, bun_ok.2 ⟨rfl, fun R hR => by rw [List.mem_singleton.1 hR]; exact nil_row_ok 1 w⟩, .inl rfl⟩
 · have hlm : len ≤ m := by rw [hmm]; split <;> omega
   obtain ⟨B, hB⟩ := Go.Deep.choose_lt (α := Hd × List UInt8) (p := fun i r => V i = .slice r.1.A r.1.n r.1.k ∧ (row 1 r.1.A r.1.n r.1.k (bytesV r.2)).ok w ∧ Szd (D i) r.2.length) (fun i (hi : i < m) => by
    obtain ⟨h', l, h1, h2, h3⟩ := openBytesZ (hV i hi).2
    exact ⟨(h', l), by simpa using h1, h2, h3⟩)
   refine ⟨⟨some a, len, cap⟩, (List.range len).map (fun i => (B i).2), (List.range len).map (fun i => (B i).1), rfl, bun_ok.2 ⟨by simp, fun R hR => ?_⟩, .inr ⟨D, _, by simp only [List.length_map, List.length_range]; rfl, fun i hi => ?_⟩⟩
   · rcases List.mem_cons.1 hR with rfl | hR
     · refine row_ok.2 ⟨by simp [hdsV], hl, hm, fun e => (by cases e), fun _ e => (by cases e), fun i v hi => ?_⟩
       simp only [hdsV, List.map_map, List.getElem?_map, Option.map_eq_some_iff] at hi
       obtain ⟨j, hj, rfl⟩ := hi
       have hlt := (List.getElem?_eq_some_iff.1 hj).1
       simp at hlt
       rw [List.getElem?_range hlt] at hj
       cases hj
       rw [elt_some, (hV i (by omega)).1, Function.comp_apply, (hB i (by omega)).1]; rfl
     · rw [pcRows_map] at hR
       obtain ⟨j, hj, rfl⟩ := List.mem_map.1 hR
       exact (hB j (by have := List.mem_range.1 hj; omega)).2.1
   · simp only [List.length_map, List.length_range] at hi
     simp only [List.getElem_map, List.getElem_range]
     exact (hB i (by omega)).2.2
end
end Go.Bus
