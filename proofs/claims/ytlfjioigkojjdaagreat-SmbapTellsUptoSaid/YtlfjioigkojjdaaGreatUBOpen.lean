/- Part of the proof: Open. No condition. -/
import Derived.Test.YtlfjioigkojjdaaGreatUBSpec
import Derived.Test.YtlfjioigkojjdaaGreatUBEngb
import Derived.Deep.Slices
import Derived.ChangeSlices
import Derived.ChangeOld
import Derived.WalkKit
import Derived.ProofKit
import Derived.OpenShut
import Derived.Below
import Derived.Carry
set_option linter.unusedVariables false
set_option linter.unusedSimpArgs false
set_option maxRecDepth 100000
namespace Go.Bus
open Go Go.Proofs Go.RowKit
theorem wf8 {z : Int} (h : (Lit.int .u8 z).wf = true) : b8 (UInt8.ofNat z.toNat) = .int .u8 z := by
 simp [Lit.wf, IntKind.min, IntKind.max, IntKind.bits, IntKind.signed] at h
 rw [b8_of _ (by omega), show (z.toNat : Int) = z by omega]
section
variable {H : Type} {enc : TypeId × Value → H} {P : Program} {w : World} {base : Nat} {spare : Nat → Bool} {held : Bool}
theorem openI {α : Type} {k : IntKind} (cv : α → Value) (mk : Int → α) (hcv : ∀ z, (Lit.int k z).wf = true → cv (mk z) = .int k z) {t e : TypeId} {fuel : Nat} {cs : List Value} {x : DataW H × List MemPlace} (ht : P.underlying t = some (.slice e)) (he : P.underlying e = some (.int k)) (hc : P.cellsOf e = 1)
 (h : DataW.trod enc P w base spare held fuel t cs = some x) : ∃ (h : Hd) (l : List α), cs = [.slice h.A h.n h.k] ∧ (row 1 h.A h.n h.k (l.map cv)).ok w := by
 rcases Go.ChangeShapes.open_ints ht he hc h with ⟨rfl, _⟩ | ⟨a, len, cap, zs, rfl, _, hl, hm, hz, _, hcell, hwz⟩
 · exact ⟨{}, [], rfl, nil_row_ok 1 w⟩
 · have hzl : len ≤ zs.length := by rw [hz]; split <;> omega
   refine ⟨⟨some a, len, cap⟩, (zs.take len).map mk, rfl, row_ok.2 ⟨by simp; omega, hl, hm, fun e => (by cases e), fun _ e => (by cases e), fun i v hi => ?_⟩⟩
   simp only [List.map_map, List.getElem?_map, Option.map_eq_some_iff] at hi
   obtain ⟨z, hz1, rfl⟩ := hi
   rw [List.getElem?_take] at hz1
   split at hz1
   · have hlt := (List.getElem?_eq_some_iff.1 hz1).1
     have := hcell i hlt
     rw [elt_some, this]
     have hg : zs.getD i 0 = z := by rw [List.getD_eq_getElem?_getD, hz1]; rfl
     rw [hg, Function.comp_apply, hcv z (hwz z (List.mem_of_getElem? hz1))]
   · cases hz1
end
instance inhRec : Inhabited RecD := ⟨{}⟩
instance inhObj : Inhabited ObjD := ⟨{}⟩
instance inhHd : Inhabited Hd := ⟨{}⟩
theorem ce5 : PG.cellsOf 5 = 1 := by kernel_rfl
theorem ce22 : PG.cellsOf 22 = 1 := by kernel_rfl
section
variable {H : Type} {enc : TypeId × Value → H} {w : World} {base : Nat} {spare : Nat → Bool} {held : Bool} {fuel : Nat} {cs : List Value} {x : DataW H × List MemPlace}
theorem openBytes (h : DataW.trod enc PG w base spare held fuel 22 cs = some x) : ∃ (h : Hd) (l : List UInt8), cs = [.slice h.A h.n h.k] ∧ (row 1 h.A h.n h.k (bytesV l)).ok w :=
 openI b8 (fun z => UInt8.ofNat z.toNat) (fun z hz => wf8 hz) Tryz.underlying22 Tryz.underlying5 ce5 h
end
theorem law_calls {P : Program} {f : FuncId} {args : List Value} {T : List Res} (h : Ct P f args [] T fun v _ _ => v = .bool true) {W : World} (hT : ∀ R ∈ T, R.ok W) : Calls P f args.toArray W fun e W' => e = .returned (.bool true) ∧ Below W.heap.size W W' := by
 refine (h.out W ⟨fun _ q => absurd q (by simp), hT, List.Pairwise.nil, fun _ q => absurd q (by simp)⟩).mono ?_
 rintro e W' ⟨v, S', T', rfl, rfl, ht⟩
 exact ⟨rfl, ht.go.os, ht.go.tape, ht.go.output, ht.go.size, fun k hk => ht.go.keep k hk (fun ⟨R, hR, _⟩ => absurd hR (by simp))⟩
end Go.Bus
