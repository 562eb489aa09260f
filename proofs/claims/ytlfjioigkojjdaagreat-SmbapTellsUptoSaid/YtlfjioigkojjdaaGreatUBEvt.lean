/- Part of the proof: Evt. No condition. -/
import Derived.Test.YtlfjioigkojjdaaGreatUBCrcP
import Derived.Test.YtlfjioigkojjdaaGreatUBStream
import Derived.Test.YtlfjioigkojjdaaGreatUBEngd
set_option linter.unusedVariables false
namespace Go.Bus
open Go Go.Proofs
structure EvX where
 e : Int
 u : UInt8
 t : UInt16
 x : MsgX
def EvX.d (y : EvX) : EventD := ⟨y.e, ⟨y.u, y.t, y.x.m⟩⟩
def EvX.cells (y : EvX) : List Value := .int .i64 y.e :: frCells y.u y.t y.x
theorem EvX.cells_len (y : EvX) : y.cells.length = 25 := rfl
def evsV (l : List EvX) : List Value := l.flatMap EvX.cells
theorem evsV_len : ∀ l : List EvX, (evsV l).length = l.length * 25
 | [] => rfl
 | y :: l => by
  have := evsV_len l
  simp only [evsV, List.flatMap_cons, List.length_append, List.length_cons] at this ⊢
  rw [this, EvX.cells_len]; omega
theorem evsV_append (a b : List EvX) : evsV (a ++ b) = evsV a ++ evsV b := by simp [evsV]
theorem evsV_at : ∀ (l : List EvX) (i : Nat) (h : i < l.length), ((evsV l).drop (i * 25)).take 25 = (l[i]'h).cells
 | y :: l, 0, _ => by
  simp only [evsV, List.flatMap_cons, Nat.zero_mul, List.drop_zero, List.getElem_cons_zero]
  rw [List.take_append_of_le_length (by rw [EvX.cells_len]; exact Nat.le_refl _), List.take_of_length_le (by rw [EvX.cells_len]; exact Nat.le_refl _)]
 | y :: l, i + 1, h => by
  have := evsV_at l i (by simpa using h)
  simp only [evsV, List.flatMap_cons, List.getElem_cons_succ] at this ⊢
  rw [show (i + 1) * 25 = 25 + i * 25 by omega, ← List.drop_drop, List.drop_left' (EvX.cells_len y)]
  exact this
theorem EvX.cells_one (y : EvX) : ∀ u ∈ y.cells, u.oneCell' = true := by
 intro v hv
 simp only [EvX.cells, List.mem_cons] at hv
 rcases hv with rfl | hv
 · rfl
 · exact frCells_one _ _ _ v hv
theorem evsV_one (l : List EvX) : ∀ u ∈ evsV l, u.oneCell' = true := by
 intro u hu
 obtain ⟨y, _, hy⟩ := List.mem_flatMap.1 hu
 exact y.cells_one u hy
def msgsR (l : List EvX) : Res := bun True (l.map fun y => msgR y.x)
theorem msgs_at {l : List EvX} {T : List Res} (h : msgsR l ∈ T) (i : Nat) (hi : i < l.length) : Shift [] T [] [msgR (l[i]'hi).x] :=
 bun_out h (List.mem_map.2 ⟨_, List.getElem_mem hi, rfl⟩)
theorem msgs_nil {T : List Res} : Shift [] T [] [msgsR []] := bun_nil trivial
theorem msgs_one {y : EvX} {T : List Res} (h : msgR y.x ∈ T) : Shift [] T [] [msgsR [y]] := bun_in trivial fun R hR => by
 rw [List.map_cons, List.map_nil, List.mem_singleton] at hR
 exact .inl (hR ▸ h)
theorem msgs_append {a b : List EvX} {T : List Res} (ha : msgsR a ∈ T) (hb : msgsR b ∈ T) : Shift [] T [] [msgsR (a ++ b)] := bun_in trivial fun R hR => by
 rw [List.map_append, List.mem_append] at hR
 rcases hR with h | h
 · exact inT_bun ha h
 · exact inT_bun hb h
theorem fill_tail {a v w : Value} {z c : List Value} {k : Nat} (hv : cellsL v = [a]) (hw : w = .agg c.toArray) (hc : c.length = k) (hz : z.length = k + 1) : fillL [(0, 1), (1, k)] z [(0, v), (1, w)] = some (a :: c) := by
 subst hw
 obtain ⟨z0, z, rfl⟩ : ∃ z0 r, z = z0 :: r := by cases z with | nil => simp at hz | cons z0 r => exact ⟨z0, r, rfl⟩
 simp only [List.length_cons] at hz
 have := putAll_whole c [a] z (by omega)
 simp only [List.cons_append, List.nil_append, List.length_cons, List.length_nil] at this
 have e : Nat.ble (1 + k) (k + 1) = true := by rw [Nat.ble_eq]; omega
 have e1 : cellsL (.agg c.toArray) = c := rfl
 have e2 : Nat.ble 1 (k + 1) = true := by rw [Nat.ble_eq]; omega
 simp only [fillL, hv, e1, hc, List.length_cons, List.length_nil, putAll, hz, Nat.zero_add, List.getElem?_cons_zero, List.getElem?_cons_succ, List.length_set]
 simp [e, e2, this]
theorem ev_fill {y : EvX} {v w : Value} {z : List Value} (hv : v = .int .i64 y.e) (hw : w = .agg (frCells y.u y.t y.x).toArray) (hz : z.length = 25) : fillL [(0, 1), (1, 24)] z [(0, v), (1, w)] = some y.cells :=
 fill_tail (a := .int .i64 y.e) (by rw [hv]; rfl) hw rfl hz
theorem ev_fill0 {e : Int} {v : Value} (hv : v = .int .i64 e) : fillL [(0, 1), (1, 24)] [.int .i64 0, .int .u8 0, .int .u16 0, .int .u8 0, .int .u8 0, .int .u16 0, .int .u16 0, .int .u16 0, .int .u16 0, .int .u16 0, .int .u16 0, .int .u16 0, .int .u16 0, .int .u16 0, .int .u16 0, .slice none 0 0, .slice none 0 0, .slice none 0 0, .slice none 0 0, .int .u8 0, .int .u8 0, .int .u8 0, .int .u8 0, .int .u8 0, .slice none 0 0] [(0, v)] = some (EvX.cells ⟨e, 0, 0, { m := {} }⟩) := by subst hv; rfl
theorem evs_bs {y : EvX} {v : Value} {z : List Value} (hv : v = .agg y.cells.toArray) (hz : z.length = 25) : fillF (fun i => (i * 25, 25)) (rep 1 z) [(0, v)] = some (evsV [y]) := by
 subst hv
 have e1 : cellsL (.agg y.cells.toArray) = y.cells := rfl
 have e2 : rep 1 z = z := by simp [rep]
 have := putAll_whole y.cells [] z (by rw [hz]; rfl)
 simp only [List.nil_append, List.length_nil] at this
 have e3 : Nat.ble (0 + 25) 25 = true := rfl
 simp only [fillF, e1, e2, hz, EvX.cells_len, Nat.zero_mul, this, e3]
 simp [evsV]
def hdsV (hs : List Hd) : List Value := hs.map Hd.v
def pcRows : List (List UInt8) → List Hd → List Res
 | b :: bs, h :: hs => row 1 h.A h.n h.k (bytesV b) :: pcRows bs hs
 | _, _ => []
def pieceR (hd : Hd) (b : List (List UInt8)) (hs : List Hd) : Res := bun (hs.length = b.length) (row 1 hd.A hd.n hd.k (hdsV hs) :: pcRows b hs)
theorem pcRows_mem : ∀ (bs : List (List UInt8)) (hs : List Hd) (i : Nat) (h1 : i < bs.length) (h2 : i < hs.length), row 1 (hs[i]'h2).A (hs[i]'h2).n (hs[i]'h2).k (bytesV (bs[i]'h1)) ∈ pcRows bs hs
 | _ :: _, _ :: _, 0, _, _ => List.mem_cons_self ..
 | _ :: bs, _ :: hs, i + 1, h1, h2 => List.mem_cons_of_mem _ (pcRows_mem bs hs i (by simpa using h1) (by simpa using h2))
theorem piece_hds {hd : Hd} {b : List (List UInt8)} {hs : List Hd} {T : List Res} (h : pieceR hd b hs ∈ T) : Shift [] T [] [row 1 hd.A hd.n hd.k (hdsV hs)] := bun_out h (List.mem_cons_self ..)
theorem piece_at {hd : Hd} {b : List (List UInt8)} {hs : List Hd} {T : List Res} (h : pieceR hd b hs ∈ T) (i : Nat) (h1 : i < b.length) (h2 : i < hs.length) : Shift [] T [] [row 1 (hs[i]'h2).A (hs[i]'h2).n (hs[i]'h2).k (bytesV (b[i]'h1))] :=
 bun_out h (List.mem_cons_of_mem _ (pcRows_mem b hs i h1 h2))
theorem flat_le : ∀ (b : List (List UInt8)) (i : Nat), (b.take i).flatten.length ≤ b.flatten.length
 | [], _ => by simp
 | _ :: _, 0 => by simp
 | x :: b, i + 1 => by have := flat_le b i; simp only [List.take_succ_cons, List.flatten_cons, List.length_append]; omega
theorem hdsV_at {hs : List Hd} {i : Nat} (h : i < hs.length) : (hdsV hs)[i]? = some (.slice (hs[i]'h).A (hs[i]'h).n (hs[i]'h).k) := by
 simp [hdsV, Hd.v, h]
theorem CtD.lend2 {P : Program} {f : FuncId} {args : List Value} {t : TypeId} {sz n k : Nat} {A : Option Addr} {l : List Value} {T1 : List Res} {v : Value} (h : CtD P f args [] (row sz A n k l :: T1) v [] []) : CtD P f args [own t sz A n k l] T1 v [own t sz A n k l] [] := by
 refine ⟨fun w hs => ?_⟩
 have ho : (own t sz A n k l).ok w := hs.okS _ (by simp)
 refine (h.out w ⟨fun x hx => absurd hx (by simp), fun x hx => by
  rcases List.mem_cons.1 hx with rfl | hx
  · exact own_row ho
  · exact hs.okT x hx, List.Pairwise.nil, fun x hx => absurd hx (by simp)⟩).mono ?_
 rintro e w' ⟨u, S', T', rfl, ⟨rfl, rfl, rfl⟩, hn⟩
 have hk : ∀ b, (own t sz A n k l).fp b → w'.heap[b]? = w.heap[b]? := fun b hb => hn.go.keep b ((own t sz A n k l).dom w ho b hb) (by rintro ⟨R, hR, _⟩; simp at hR)
 refine ⟨_, _, _, rfl, ⟨rfl, rfl, rfl⟩, ⟨hn.go.os, hn.go.tape, hn.go.output, hn.go.size, fun b hb hM => hn.go.keep b hb (by rintro ⟨R, hR, _⟩; simp at hR)⟩, ⟨fun x hx => ?_, fun x hx => absurd hx (by simp), by simp, fun x _ y hy => absurd hy (by simp)⟩, fun R hR b hb => .inl ⟨R, hR, hb⟩, fun x hx => absurd hx (by simp)⟩
 rw [List.mem_singleton.1 hx]
 exact (own t sz A n k l).loc w w' hk ho
section rules
variable {c : Ctx} {Q : Post} {E : Env} {S T : List Res} {ops : Array Oper} {rest : List Oper} {d : Nat} {ty : TypeId} {pos : String} {af : Array Edge} {x : Code}
theorem GC_bun {p : Prop} {L : List Res} (h : bun p L ∈ T) (k : p → GC c x Q E S T) : GC c x Q E S T := fun w a hr hs => k (bun_ok.1 (hs.sat.okT _ h)).1 w a hr hs
theorem GC_freeze {t : TypeId} {sz n k : Nat} {A : Option Addr} {l : List Value} {r : List Res} (hp : Pull S [own t sz A n k l] r)
 (kk : (∀ b, (own t sz A n k l).fp b → c.M b ∨ c.w0.heap.size ≤ b) → (∀ R ∈ r, Apart (own t sz A n k l) R) → (∀ R ∈ T, Apart (own t sz A n k l) R) → GC c x Q E r (own t sz A n k l :: row sz A n k l :: T)) : GC c x Q E S T := fun w a hr hs => by
 have hm : own t sz A n k l ∈ S := (hp.mem _).2 (.inl (List.mem_cons_self ..))
 obtain ⟨p1, p2, p3⟩ := hp.pair hs.sat.sep
 refine kk (hs.own _ hm) (fun R hR => p3 _ (List.mem_cons_self ..) R hR) (fun R hR => hs.sat.sepT _ hm R hR) w a hr ?_
 have h1 := hs.shift hp (S' := []) (T' := [own t sz A n k l, row sz A n k l]) (Turn.see w _ _ _ _ (fun _ h => absurd h (by simp)) (fun R hR => by
  simp only [List.mem_cons, List.not_mem_nil, or_false] at hR
  rcases hR with rfl | rfl
  · exact hs.sat.okS _ hm
  · exact own_row (hs.sat.okS _ hm)) List.Pairwise.nil (fun _ h => absurd h (by simp)) (fun _ h => absurd h (by simp)) (fun R hR b hb => by
  refine .inl ⟨own t sz A n k l, List.mem_singleton.2 rfl, ?_⟩
  simp only [List.mem_cons, List.not_mem_nil, or_false] at hR
  rcases hR with rfl | rfl
  · exact hb
  · rw [row_fp] at hb; exact own_fp.2 hb.2))
 exact h1
theorem GC_thaw {t : TypeId} {sz n k : Nat} {A : Option Addr} {l : List Value} {T' : List Res} (hm : own t sz A n k l ∈ T) (ht : Sub T' T) (h1 : ∀ b, (own t sz A n k l).fp b → c.M b ∨ c.w0.heap.size ≤ b)
 (h2 : ∀ R ∈ S, Apart (own t sz A n k l) R) (h3 : ∀ R ∈ T', Apart (own t sz A n k l) R) (kk : GC c x Q E (own t sz A n k l :: S) T') : GC c x Q E S T := fun w a hr hs =>
 kk w a hr ⟨hs.go, ⟨fun R hR => by
  rcases List.mem_cons.1 hR with rfl | hR
  · exact hs.sat.okT _ hm
  · exact hs.sat.okS R hR, fun R hR => hs.sat.okT R (ht.mem R hR), List.pairwise_cons.2 ⟨h2, hs.sat.sep⟩, fun R hR R' hR' => by
  rcases List.mem_cons.1 hR with rfl | hR
  · exact h3 R' hR'
  · exact hs.sat.sepT R hR R' (ht.mem R' hR')⟩, fun R hR => by
  rcases List.mem_cons.1 hR with rfl | hR
  · exact h1
  · exact hs.own R hR, fun R hR => hs.seen R (ht.mem R hR)⟩
end rules
end Go.Bus
