/- What an argument that reads as data gives the walks: bytes, words, messages, frames, lists of bytes. No condition. -/
import Derived.Test.YtlfjioigkojjdaaGreatSpec
import Derived.Test.YtlfjioigkojjdaaGreatEngb
import Derived.Deep.Slices
import Derived.ChangeSlices
import Derived.ChangeOld
import Derived.WalkKit
import Derived.ProofKit
import Derived.OpenShut
import Derived.Below
import Derived.Carry
set_option linter.unusedVariables false
set_option linter.unusedSimpArgs false
set_option maxRecDepth 100000
namespace Go.Bus
open Go Go.Proofs Go.RowKit
theorem wf8 {z : Int} (h : (Lit.int .u8 z).wf = true) : b8 (UInt8.ofNat z.toNat) = .int .u8 z := by
  simp [Lit.wf, IntKind.min, IntKind.max, IntKind.bits, IntKind.signed] at h
  rw [b8_of _ (by omega), show (z.toNat : Int) = z by omega]
theorem wf16 {z : Int} (h : (Lit.int .u16 z).wf = true) : w16 (UInt16.ofNat z.toNat) = .int .u16 z := by
  simp [Lit.wf, IntKind.min, IntKind.max, IntKind.bits, IntKind.signed] at h
  rw [w16_of _ (by omega), show (z.toNat : Int) = z by omega]
section
variable {H : Type} {enc : TypeId × Value → H} {P : Program} {w : World} {base : Nat} {spare : Nat → Bool} {held : Bool}
theorem openI {α : Type} {k : IntKind} (cv : α → Value) (mk : Int → α) (hcv : ∀ z, (Lit.int k z).wf = true → cv (mk z) = .int k z) {t e : TypeId} {fuel : Nat} {cs : List Value} {x : DataW H × List MemPlace} (ht : P.underlying t = some (.slice e)) (he : P.underlying e = some (.int k)) (hc : P.cellsOf e = 1)
    (h : DataW.trod enc P w base spare held fuel t cs = some x) : ∃ (h : Hd) (l : List α), cs = [.slice h.A h.n h.k] ∧ (row 1 h.A h.n h.k (l.map cv)).ok w := by
  rcases Go.ChangeShapes.open_ints ht he hc h with ⟨rfl, _⟩ | ⟨a, len, cap, zs, rfl, _, hl, hm, hz, _, hcell, hwz⟩
  · exact ⟨{}, [], rfl, nil_row_ok 1 w⟩
  · have hzl : len ≤ zs.length := by rw [hz]; split <;> omega
    refine ⟨⟨some a, len, cap⟩, (zs.take len).map mk, rfl, row_ok.2 ⟨by simp; omega, hl, hm, fun e => (by cases e), fun _ e => (by cases e), fun i v hi => ?_⟩⟩
    simp only [List.map_map, List.getElem?_map, Option.map_eq_some_iff] at hi
    obtain ⟨z, hz1, rfl⟩ := hi
    rw [List.getElem?_take] at hz1
    split at hz1
    · have hlt := (List.getElem?_eq_some_iff.1 hz1).1
      have := hcell i hlt
      rw [elt_some, this]
      have hg : zs.getD i 0 = z := by rw [List.getD_eq_getElem?_getD, hz1]; rfl
      rw [hg, Function.comp_apply, hcv z (hwz z (List.mem_of_getElem? hz1))]
    · cases hz1
theorem openBools {t e : TypeId} {fuel : Nat} {cs : List Value} {x : DataW H × List MemPlace} (ht : P.underlying t = some (.slice e)) (he : P.underlying e = some .bool) (hc : P.cellsOf e = 1)
    (h : DataW.trod enc P w base spare held fuel t cs = some x) : ∃ (h : Hd) (l : List Bool), cs = [.slice h.A h.n h.k] ∧ (row 1 h.A h.n h.k (boolsV l)).ok w := by
  rcases Go.Deep.open_slice1 ht hc h with ⟨rfl, _⟩ | ⟨a, len, cap, m, n, V, D, Pl, rfl, _, hl, hm, hmm, _, hV⟩
  · exact ⟨{}, [], rfl, nil_row_ok 1 w⟩
  · have hlm : len ≤ m := by rw [hmm]; split <;> omega
    obtain ⟨B, hB⟩ := Go.Deep.choose_lt (α := Bool) (p := fun i b => V i = .bool b) (fun i (hi : i < m) => by
      obtain ⟨b, h1, _⟩ := DataW.trod_bool he (hV i hi).2
      exact ⟨b, by simpa using h1⟩)
    refine ⟨⟨some a, len, cap⟩, (List.range len).map B, rfl, row_ok.2 ⟨by simp [boolsV], hl, hm, fun e => (by cases e), fun _ e => (by cases e), fun i v hi => ?_⟩⟩
    simp only [boolsV, List.map_map, List.getElem?_map, Option.map_eq_some_iff] at hi
    obtain ⟨j, hj, rfl⟩ := hi
    have hlt := (List.getElem?_eq_some_iff.1 hj).1
    simp at hlt
    rw [List.getElem?_range hlt] at hj
    cases hj
    rw [elt_some, (hV i (by omega)).1, Function.comp_apply, hB i (by omega)]
/-- a slice of elements, each of which opens to its cells and some rows -/
theorem openS {α : Type} [Inhabited α] (sz : Nat) (cells : α → List Value) (rows : α → List Res) {t e : TypeId} {fuel : Nat} {cs : List Value} {x : DataW H × List MemPlace} (ht : P.underlying t = some (.slice e)) (hc : P.cellsOf e = sz)
    (each : ∀ n cs' y, cs'.length = sz → DataW.trod enc P w base spare held n e cs' = some y → ∃ r, cs' = cells r ∧ ∀ R ∈ rows r, R.ok w)
    (h : DataW.trod enc P w base spare held fuel t cs = some x) : ∃ (h : Hd) (l : List α), cs = [.slice h.A h.n h.k] ∧ (row sz h.A h.n h.k (l.flatMap cells)).ok w ∧ ∀ r ∈ l, ∀ R ∈ rows r, R.ok w := by
  rcases Go.Deep.open_slice ht h with ⟨rfl, _⟩ | ⟨a, len, cap, m, n, D, Pl, rfl, _, hl, hm, hmm, _, hx⟩
  · exact ⟨{}, [], rfl, nil_row_ok sz w, by simp⟩
  · have hlm : len ≤ m := by rw [hmm]; split <;> omega
    obtain ⟨B, hB⟩ := Go.Deep.choose_lt (α := α) (p := fun i r => w.cells? base (a.add (i * sz)) sz = some (cells r) ∧ (cells r).length = sz ∧ ∀ R ∈ rows r, R.ok w) (fun i (hi : i < m) => by
      obtain ⟨cs', h1, h2⟩ := hx i hi
      rw [hc] at h1
      have hlen := (World.cells?_some h1).2.1
      obtain ⟨r, h3, h4⟩ := each n cs' _ hlen h2
      subst h3
      exact ⟨r, h1, hlen, h4⟩)
    have hfl : ∀ q, q ≤ m → (((List.range q).map B).flatMap cells).length = q * sz := fun q => by
      induction q with
      | zero => intro _; simp
      | succ q ih =>
        intro hq
        rw [List.range_succ, List.map_append, List.flatMap_append, List.length_append, ih (by omega)]
        simp [(hB q (by omega)).2.1, Nat.add_mul]
    have hfc : ∀ q, q ≤ m → ∀ i v, (((List.range q).map B).flatMap cells)[i]? = some v → w.cell? (a.add i) = some v := fun q => by
      induction q with
      | zero => intro _ i v hi; simp at hi
      | succ q ih =>
        intro hq i v hi
        rw [List.range_succ, List.map_append, List.flatMap_append] at hi
        by_cases hlt : i < q * sz
        · rw [List.getElem?_append_left (by rw [hfl q (by omega)]; exact hlt)] at hi
          exact ih (by omega) i v hi
        · rw [List.getElem?_append_right (by rw [hfl q (by omega)]; omega), hfl q (by omega)] at hi
          simp only [List.map_cons, List.map_nil, List.flatMap_cons, List.flatMap_nil, List.append_nil] at hi
          obtain ⟨h1, h2, h3⟩ := hB q (by omega)
          have hj := (List.getElem?_eq_some_iff.1 hi).1
          have := (World.cells?_some h1).2.2 (i - q * sz) (by omega)
          rw [hi, add_add, show q * sz + (i - q * sz) = i by omega] at this
          exact this
    refine ⟨⟨some a, len, cap⟩, (List.range len).map B, rfl, row_ok.2 ⟨hfl len hlm, hl, hm, fun e => (by cases e), fun _ e => (by cases e), fun i v hi => ?_⟩, ?_⟩
    · rw [elt_some]; exact hfc len hlm i v hi
    · intro r hr R hR
      obtain ⟨i, hi, rfl⟩ := List.mem_map.1 hr
      exact (hB i (by have := List.mem_range.1 hi; omega)).2.2 R hR
/-- a struct's field of one cell -/
theorem trod_field {t : TypeId} {fs : Array Field} {fuel : Nat} {cs : List Value} {x : DataW H × List MemPlace} (ht : P.underlying t = some (.struct fs)) (h : DataW.trod enc P w base spare held fuel t cs = some x) (i : Nat) {f : Field} (hf : fs[i]? = some f) (hc : P.cellsOf f.type = 1) {v : Value} (hv : cs[f.offset]? = some v) : ∃ n y, DataW.trod enc P w base spare held n f.type [v] = some y := by
  obtain ⟨xs, n, rfl, _, hlen, hxl, hfs⟩ := DataW.trod_struct ht h
  have h1 := hfs i f hf
  have hi : i < xs.length := by rw [hxl]; exact (Array.getElem?_eq_some_iff.1 hf).1
  rw [hc, List.getElem?_eq_getElem hi] at h1
  have h2 : (cs.drop f.offset).take 1 = [v] := by
    have hlt := (List.getElem?_eq_some_iff.1 hv).1
    rw [List.drop_eq_getElem_cons hlt]
    simp only [List.take_succ_cons, List.take_zero, List.cons.injEq, and_true]
    rw [List.getElem?_eq_getElem hlt] at hv
    exact Option.some.inj hv
  rw [h2] at h1
  exact ⟨n, _, h1⟩
theorem fieldI {t : TypeId} {fs : Array Field} {fuel : Nat} {cs : List Value} {x : DataW H × List MemPlace} {k : IntKind} (ht : P.underlying t = some (.struct fs)) (h : DataW.trod enc P w base spare held fuel t cs = some x) (i : Nat) {f : Field} (hf : fs[i]? = some f) (hc : P.cellsOf f.type = 1) (hk : P.underlying f.type = some (.int k)) {v : Value} (hv : cs[f.offset]? = some v) : ∃ z, v = .int k z ∧ (Lit.int k z).wf = true := by
  obtain ⟨n, y, hy⟩ := trod_field ht h i hf hc hv
  obtain ⟨z, h1, _, h2⟩ := DataW.trod_int hk hy
  exact ⟨z, by simpa using h1, h2⟩
end
instance inhRec : Inhabited RecD := ⟨{}⟩
instance inhObj : Inhabited ObjD := ⟨{}⟩
instance inhHd : Inhabited Hd := ⟨{}⟩
/-! ### this program's data -/
theorem ce5 : PG.cellsOf 5 = 1 := by kernel_rfl
theorem ce24 : PG.cellsOf 24 = 1 := by kernel_rfl
theorem ce4 : PG.cellsOf 4 = 1 := by kernel_rfl
theorem ce25 : PG.cellsOf 25 = 1 := by kernel_rfl
theorem ce26 : PG.cellsOf 26 = 1 := by kernel_rfl
theorem ce22 : PG.cellsOf 22 = 1 := by kernel_rfl
theorem ce27 : PG.cellsOf 27 = 1 := by kernel_rfl
theorem ce28 : PG.cellsOf 28 = 1 := by kernel_rfl
theorem ce76 : PG.cellsOf 76 = 4 := by kernel_rfl
theorem ce78 : PG.cellsOf 78 = 2 := by kernel_rfl
theorem ce30 : PG.cellsOf 30 = 22 := by kernel_rfl
section
variable {H : Type} {enc : TypeId × Value → H} {w : World} {base : Nat} {spare : Nat → Bool} {held : Bool} {fuel : Nat} {cs : List Value} {x : DataW H × List MemPlace}
theorem openBytes (h : DataW.trod enc PG w base spare held fuel 22 cs = some x) : ∃ (h : Hd) (l : List UInt8), cs = [.slice h.A h.n h.k] ∧ (row 1 h.A h.n h.k (bytesV l)).ok w :=
  openI b8 (fun z => UInt8.ofNat z.toNat) (fun z hz => wf8 hz) Tryz.underlying22 Tryz.underlying5 ce5 h
theorem openWords (h : DataW.trod enc PG w base spare held fuel 25 cs = some x) : ∃ (h : Hd) (l : List UInt16), cs = [.slice h.A h.n h.k] ∧ (row 1 h.A h.n h.k (wordsV l)).ok w :=
  openI w16 (fun z => UInt16.ofNat z.toNat) (fun z hz => wf16 hz) Tryz.underlying25 Tryz.underlying24 ce24 h
theorem openBits (h : DataW.trod enc PG w base spare held fuel 26 cs = some x) : ∃ (h : Hd) (l : List Bool), cs = [.slice h.A h.n h.k] ∧ (row 1 h.A h.n h.k (boolsV l)).ok w :=
  openBools Tryz.underlying26 Tryz.underlying4 ce4 h
theorem openRec (hl : cs.length = 4) (h : DataW.trod enc PG w base spare held fuel 76 cs = some x) : ∃ r : RecD × Hd, cs = recCells r.1 r.2 ∧ ∀ R ∈ [row 1 r.2.A r.2.n r.2.k (wordsV r.1.words)], R.ok w := by
  match cs, hl with
  | [c0, c1, c2, c3], _ =>
    obtain ⟨z0, rfl, h0⟩ := fieldI Tryz.underlying76 h 0 rfl ce24 Tryz.underlying24 (v := c0) rfl
    obtain ⟨z1, rfl, h1⟩ := fieldI Tryz.underlying76 h 1 rfl ce24 Tryz.underlying24 (v := c1) rfl
    obtain ⟨z2, rfl, h2⟩ := fieldI Tryz.underlying76 h 2 rfl ce24 Tryz.underlying24 (v := c2) rfl
    obtain ⟨n, y, hy⟩ := trod_field Tryz.underlying76 h 3 rfl ce25 (v := c3) rfl
    obtain ⟨hd, l, h3, h4⟩ := openWords hy
    simp only [List.cons.injEq, and_true] at h3
    subst h3
    exact ⟨(⟨UInt16.ofNat z0.toNat, UInt16.ofNat z1.toNat, UInt16.ofNat z2.toNat, l⟩, hd), by simp only [recCells, wf16 h0, wf16 h1, wf16 h2], by intro R hR; rw [List.mem_singleton.1 hR]; exact h4⟩
theorem openObj (hl : cs.length = 2) (h : DataW.trod enc PG w base spare held fuel 78 cs = some x) : ∃ r : ObjD × Hd, cs = objCells r.1 r.2 ∧ ∀ R ∈ [row 1 r.2.A r.2.n r.2.k (bytesV r.1.value)], R.ok w := by
  match cs, hl with
  | [c0, c1], _ =>
    obtain ⟨z0, rfl, h0⟩ := fieldI Tryz.underlying78 h 0 rfl ce5 Tryz.underlying5 (v := c0) rfl
    obtain ⟨n, y, hy⟩ := trod_field Tryz.underlying78 h 1 rfl ce22 (v := c1) rfl
    obtain ⟨hd, l, h3, h4⟩ := openBytes hy
    simp only [List.cons.injEq, and_true] at h3
    subst h3
    exact ⟨(⟨UInt8.ofNat z0.toNat, l⟩, hd), by simp only [objCells, wf8 h0], by intro R hR; rw [List.mem_singleton.1 hR]; exact h4⟩
theorem recsV_flat : ∀ l : List (RecD × Hd), l.flatMap (fun r => recCells r.1 r.2) = recsV (l.map (·.1)) (l.map (·.2))
  | [] => rfl
  | r :: l => by simp [recsV, recsV_flat l]
theorem objsV_flat : ∀ l : List (ObjD × Hd), l.flatMap (fun r => objCells r.1 r.2) = objsV (l.map (·.1)) (l.map (·.2))
  | [] => rfl
  | r :: l => by simp [objsV, objsV_flat l]
theorem recRows_flat : ∀ l : List (RecD × Hd), recRows (l.map (·.1)) (l.map (·.2)) = l.map fun r => row 1 r.2.A r.2.n r.2.k (wordsV r.1.words)
  | [] => rfl
  | r :: l => by simp [recRows, recRows_flat l]
theorem objRows_flat : ∀ l : List (ObjD × Hd), objRows (l.map (·.1)) (l.map (·.2)) = l.map fun r => row 1 r.2.A r.2.n r.2.k (bytesV r.1.value)
  | [] => rfl
  | r :: l => by simp [objRows, objRows_flat l]
theorem openRecs (h : DataW.trod enc PG w base spare held fuel 27 cs = some x) : ∃ (h : Hd) (l : List RecD) (hs : List Hd), hs.length = l.length ∧ cs = [.slice h.A h.n h.k] ∧ (row 4 h.A h.n h.k (recsV l hs)).ok w ∧ ∀ R ∈ recRows l hs, R.ok w := by
  obtain ⟨hd, l, h1, h2, h3⟩ := openS (α := RecD × Hd) 4 (fun r => recCells r.1 r.2) (fun r => [row 1 r.2.A r.2.n r.2.k (wordsV r.1.words)]) Tryz.underlying27 ce76 (fun n cs' y hl hy => openRec hl hy) h
  refine ⟨hd, l.map (·.1), l.map (·.2), by simp, h1, by rw [← recsV_flat]; exact h2, fun R hR => ?_⟩
  rw [recRows_flat] at hR
  obtain ⟨r, hr, rfl⟩ := List.mem_map.1 hR
  exact h3 r hr _ (List.mem_singleton.2 rfl)
theorem openObjs (h : DataW.trod enc PG w base spare held fuel 28 cs = some x) : ∃ (h : Hd) (l : List ObjD) (hs : List Hd), hs.length = l.length ∧ cs = [.slice h.A h.n h.k] ∧ (row 2 h.A h.n h.k (objsV l hs)).ok w ∧ ∀ R ∈ objRows l hs, R.ok w := by
  obtain ⟨hd, l, h1, h2, h3⟩ := openS (α := ObjD × Hd) 2 (fun r => objCells r.1 r.2) (fun r => [row 1 r.2.A r.2.n r.2.k (bytesV r.1.value)]) Tryz.underlying28 ce78 (fun n cs' y hl hy => openObj hl hy) h
  refine ⟨hd, l.map (·.1), l.map (·.2), by simp, h1, by rw [← objsV_flat]; exact h2, fun R hR => ?_⟩
  rw [objRows_flat] at hR
  obtain ⟨r, hr, rfl⟩ := List.mem_map.1 hR
  exact h3 r hr _ (List.mem_singleton.2 rfl)
theorem openMsg (hl : cs.length = 22) (h : DataW.trod enc PG w base spare held fuel 30 cs = some x) : ∃ y : MsgX, cs = y.cells ∧ (msgR y).ok w := by
  match cs, hl with
  | [c0, c1, c2, c3, c4, c5, c6, c7, c8, c9, c10, c11, c12, c13, c14, c15, c16, c17, c18, c19, c20, c21], _ =>
    obtain ⟨z0, rfl, h0⟩ := fieldI Tryz.underlying30 h 0 rfl ce5 Tryz.underlying5 (v := c0) rfl
    obtain ⟨z1, rfl, h1⟩ := fieldI Tryz.underlying30 h 1 rfl ce5 Tryz.underlying5 (v := c1) rfl
    obtain ⟨z2, rfl, h2⟩ := fieldI Tryz.underlying30 h 2 rfl ce24 Tryz.underlying24 (v := c2) rfl
    obtain ⟨z3, rfl, h3⟩ := fieldI Tryz.underlying30 h 3 rfl ce24 Tryz.underlying24 (v := c3) rfl
    obtain ⟨z4, rfl, h4⟩ := fieldI Tryz.underlying30 h 4 rfl ce24 Tryz.underlying24 (v := c4) rfl
    obtain ⟨z5, rfl, h5⟩ := fieldI Tryz.underlying30 h 5 rfl ce24 Tryz.underlying24 (v := c5) rfl
    obtain ⟨z6, rfl, h6⟩ := fieldI Tryz.underlying30 h 6 rfl ce24 Tryz.underlying24 (v := c6) rfl
    obtain ⟨z7, rfl, h7⟩ := fieldI Tryz.underlying30 h 7 rfl ce24 Tryz.underlying24 (v := c7) rfl
    obtain ⟨z8, rfl, h8⟩ := fieldI Tryz.underlying30 h 8 rfl ce24 Tryz.underlying24 (v := c8) rfl
    obtain ⟨z9, rfl, h9⟩ := fieldI Tryz.underlying30 h 9 rfl ce24 Tryz.underlying24 (v := c9) rfl
    obtain ⟨z10, rfl, h10⟩ := fieldI Tryz.underlying30 h 10 rfl ce24 Tryz.underlying24 (v := c10) rfl
    obtain ⟨z11, rfl, h11⟩ := fieldI Tryz.underlying30 h 11 rfl ce24 Tryz.underlying24 (v := c11) rfl
    obtain ⟨n12, y12, hy12⟩ := trod_field Tryz.underlying30 h 12 rfl ce25 (v := c12) rfl
    obtain ⟨d12, l12, e12, r12⟩ := openWords hy12
    simp only [List.cons.injEq, and_true] at e12
    subst e12
    obtain ⟨n13, y13, hy13⟩ := trod_field Tryz.underlying30 h 13 rfl ce26 (v := c13) rfl
    obtain ⟨d13, l13, e13, r13⟩ := openBits hy13
    simp only [List.cons.injEq, and_true] at e13
    subst e13
    obtain ⟨n14, y14, hy14⟩ := trod_field Tryz.underlying30 h 14 rfl ce22 (v := c14) rfl
    obtain ⟨d14, l14, e14, r14⟩ := openBytes hy14
    simp only [List.cons.injEq, and_true] at e14
    subst e14
    obtain ⟨n15, y15, hy15⟩ := trod_field Tryz.underlying30 h 15 rfl ce27 (v := c15) rfl
    obtain ⟨d15, l15, s15, q15, e15, r15, p15⟩ := openRecs hy15
    simp only [List.cons.injEq, and_true] at e15
    subst e15
    obtain ⟨z16, rfl, h16⟩ := fieldI Tryz.underlying30 h 16 rfl ce5 Tryz.underlying5 (v := c16) rfl
    obtain ⟨z17, rfl, h17⟩ := fieldI Tryz.underlying30 h 17 rfl ce5 Tryz.underlying5 (v := c17) rfl
    obtain ⟨z18, rfl, h18⟩ := fieldI Tryz.underlying30 h 18 rfl ce5 Tryz.underlying5 (v := c18) rfl
    obtain ⟨z19, rfl, h19⟩ := fieldI Tryz.underlying30 h 19 rfl ce5 Tryz.underlying5 (v := c19) rfl
    obtain ⟨z20, rfl, h20⟩ := fieldI Tryz.underlying30 h 20 rfl ce5 Tryz.underlying5 (v := c20) rfl
    obtain ⟨n21, y21, hy21⟩ := trod_field Tryz.underlying30 h 21 rfl ce28 (v := c21) rfl
    obtain ⟨d21, l21, s21, q21, e21, r21, p21⟩ := openObjs hy21
    simp only [List.cons.injEq, and_true] at e21
    subst e21
    refine ⟨{ m := { code := UInt8.ofNat z0.toNat, fail := UInt8.ofNat z1.toNat, addr := UInt16.ofNat z2.toNat, count := UInt16.ofNat z3.toNat, value := UInt16.ofNat z4.toNat, and := UInt16.ofNat z5.toNat, or := UInt16.ofNat z6.toNat, addr2 := UInt16.ofNat z7.toNat, sub := UInt16.ofNat z8.toNat, status := UInt16.ofNat z9.toNat, events := UInt16.ofNat z10.toNat, messages := UInt16.ofNat z11.toNat, words := l12, bits := l13, data := l14, recs := l15, mei := UInt8.ofNat z16.toNat, kind := UInt8.ofNat z17.toNat, level := UInt8.ofNat z18.toNat, more := UInt8.ofNat z19.toNat, next := UInt8.ofNat z20.toNat, objects := l21 }, w := d12, b := d13, d := d14, r := d15, o := d21, rw := s15, ow := s21 }, ?_, bun_ok.2 ⟨⟨q15, q21⟩, fun R hR => ?_⟩⟩
    · simp only [MsgX.cells, wf8 h0, wf8 h1, wf16 h2, wf16 h3, wf16 h4, wf16 h5, wf16 h6, wf16 h7, wf16 h8, wf16 h9, wf16 h10, wf16 h11, wf8 h16, wf8 h17, wf8 h18, wf8 h19, wf8 h20]
    · simp only [MsgX.rows, MsgX.rows5, List.mem_append, List.mem_cons, List.not_mem_nil, or_false] at hR
      rcases hR with ((rfl | rfl | rfl | rfl | rfl) | hR) | hR
      · exact r12
      · exact r13
      · exact r14
      · exact r15
      · exact r21
      · exact p15 R hR
      · exact p21 R hR
end
/-! ### a law's run -/
theorem law_calls {P : Program} {f : FuncId} {args : List Value} {T : List Res} (h : Ct P f args [] T fun v _ _ => v = .bool true) {W : World} (hT : ∀ R ∈ T, R.ok W) : Calls P f args.toArray W fun e W' => e = .returned (.bool true) ∧ Below W.heap.size W W' := by
  refine (h.out W ⟨fun _ q => absurd q (by simp), hT, List.Pairwise.nil, fun _ q => absurd q (by simp)⟩).mono ?_
  rintro e W' ⟨v, S', T', rfl, rfl, ht⟩
  exact ⟨rfl, ht.go.os, ht.go.tape, ht.go.output, ht.go.size, fun k hk => ht.go.keep k hk (fun ⟨R, hR, _⟩ => absurd hR (by simp))⟩
end Go.Bus
