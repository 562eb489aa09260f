/- Part of the proof: Evt. No condition. -/
import Derived.Test.YtlfjioigkojjdaaGreatUACrcP
import Derived.Test.YtlfjioigkojjdaaGreatUAStream
import Derived.Test.YtlfjioigkojjdaaGreatUAEngd
set_option linter.unusedVariables false
namespace Go.Bus
open Go Go.Proofs
structure EvX where
 e : Int
 u : UInt8
 t : UInt16
 x : MsgX
def EvX.d (y : EvX) : EventD := ⟨y.e, ⟨y.u, y.t, y.x.m⟩⟩
def EvX.cells (y : EvX) : List Value := .int .i64 y.e :: frCells y.u y.t y.x
theorem EvX.cells_len (y : EvX) : y.cells.length = 25 := rfl
def evsV (l : List EvX) : List Value := l.flatMap EvX.cells
theorem evsV_len : ∀ l : List EvX, (evsV l).length = l.length * 25
 | [] => rfl
 | y :: l => by
  have := evsV_len l
  simp only [evsV, List.flatMap_cons, List.length_append, List.length_cons] at this ⊢
  rw [this, EvX.cells_len]; omega
theorem evsV_at : ∀ (l : List EvX) (i : Nat) (h : i < l.length), ((evsV l).drop (i * 25)).take 25 = (l[i]'h).cells
 | y :: l, 0, _ => by
  simp only [evsV, List.flatMap_cons, Nat.zero_mul, List.drop_zero, List.getElem_cons_zero]
  rw [List.take_append_of_le_length (by rw [EvX.cells_len]; exact Nat.le_refl _), List.take_of_length_le (by rw [EvX.cells_len]; exact Nat.le_refl _)]
 | y :: l, i + 1, h => by
  have := evsV_at l i (by simpa using h)
  simp only [evsV, List.flatMap_cons, List.getElem_cons_succ] at this ⊢
  rw [show (i + 1) * 25 = 25 + i * 25 by omega, ← List.drop_drop, List.drop_left' (EvX.cells_len y)]
  exact this
theorem EvX.cells_one (y : EvX) : ∀ u ∈ y.cells, u.oneCell' = true := by
 intro v hv
 simp only [EvX.cells, List.mem_cons] at hv
 rcases hv with rfl | hv
 · rfl
 · exact frCells_one _ _ _ v hv
def msgsR (l : List EvX) : Res := bun True (l.map fun y => msgR y.x)
theorem msgs_at {l : List EvX} {T : List Res} (h : msgsR l ∈ T) (i : Nat) (hi : i < l.length) : Shift [] T [] [msgR (l[i]'hi).x] :=
 bun_out h (List.mem_map.2 ⟨_, List.getElem_mem hi, rfl⟩)
theorem msgs_nil {T : List Res} : Shift [] T [] [msgsR []] := bun_nil trivial
theorem msgs_one {y : EvX} {T : List Res} (h : msgR y.x ∈ T) : Shift [] T [] [msgsR [y]] := bun_in trivial fun R hR => by
 rw [List.map_cons, List.map_nil, List.mem_singleton] at hR
 exact .inl (hR ▸ h)
def EvOut (l : List EventD) (v : Value) (S' T' : List Res) : Prop := ∃ A n k xs, v = .slice A n k ∧ xs.map EvX.d = l ∧ S' = [] ∧ T' = [row 25 A n k (evsV xs), msgsR xs]
theorem fill_tail {a v w : Value} {z c : List Value} {k : Nat} (hv : cellsL v = [a]) (hw : w = .agg c.toArray) (hc : c.length = k) (hz : z.length = k + 1) : fillL [(0, 1), (1, k)] z [(0, v), (1, w)] = some (a :: c) := by
 subst hw
 obtain ⟨z0, z, rfl⟩ : ∃ z0 r, z = z0 :: r := by cases z with | nil => simp at hz | cons z0 r => exact ⟨z0, r, rfl⟩
 simp only [List.length_cons] at hz
 have := putAll_whole c [a] z (by omega)
 simp only [List.cons_append, List.nil_append, List.length_cons, List.length_nil] at this
 have e : Nat.ble (1 + k) (k + 1) = true := by rw [Nat.ble_eq]; omega
 have e1 : cellsL (.agg c.toArray) = c := rfl
 have e2 : Nat.ble 1 (k + 1) = true := by rw [Nat.ble_eq]; omega
 simp only [fillL, hv, e1, hc, List.length_cons, List.length_nil, putAll, hz, Nat.zero_add, List.getElem?_cons_zero, List.getElem?_cons_succ, List.length_set]
 simp [e, e2, this]
theorem ev_fill {y : EvX} {v w : Value} {z : List Value} (hv : v = .int .i64 y.e) (hw : w = .agg (frCells y.u y.t y.x).toArray) (hz : z.length = 25) : fillL [(0, 1), (1, 24)] z [(0, v), (1, w)] = some y.cells :=
 fill_tail (a := .int .i64 y.e) (by rw [hv]; rfl) hw rfl hz
theorem ev_fill0 {e : Int} {v : Value} (hv : v = .int .i64 e) : fillL [(0, 1), (1, 24)] [.int .i64 0, .int .u8 0, .int .u16 0, .int .u8 0, .int .u8 0, .int .u16 0, .int .u16 0, .int .u16 0, .int .u16 0, .int .u16 0, .int .u16 0, .int .u16 0, .int .u16 0, .int .u16 0, .int .u16 0, .slice none 0 0, .slice none 0 0, .slice none 0 0, .slice none 0 0, .int .u8 0, .int .u8 0, .int .u8 0, .int .u8 0, .int .u8 0, .slice none 0 0] [(0, v)] = some (EvX.cells ⟨e, 0, 0, { m := {} }⟩) := by subst hv; rfl
theorem evs_bs {y : EvX} {v : Value} {z : List Value} (hv : v = .agg y.cells.toArray) (hz : z.length = 25) : fillF (fun i => (i * 25, 25)) (rep 1 z) [(0, v)] = some (evsV [y]) := by
 subst hv
 have e1 : cellsL (.agg y.cells.toArray) = y.cells := rfl
 have e2 : rep 1 z = z := by simp [rep]
 have := putAll_whole y.cells [] z (by rw [hz]; rfl)
 simp only [List.nil_append, List.length_nil] at this
 have e3 : Nat.ble (0 + 25) 25 = true := rfl
 simp only [fillF, e1, e2, hz, EvX.cells_len, Nat.zero_mul, this, e3]
 simp [evsV]
def hdsV (hs : List Hd) : List Value := hs.map Hd.v
def pcRows : List (List UInt8) → List Hd → List Res
 | b :: bs, h :: hs => row 1 h.A h.n h.k (bytesV b) :: pcRows bs hs
 | _, _ => []
def pieceR (hd : Hd) (b : List (List UInt8)) (hs : List Hd) : Res := bun (hs.length = b.length) (row 1 hd.A hd.n hd.k (hdsV hs) :: pcRows b hs)
theorem pcRows_mem : ∀ (bs : List (List UInt8)) (hs : List Hd) (i : Nat) (h1 : i < bs.length) (h2 : i < hs.length), row 1 (hs[i]'h2).A (hs[i]'h2).n (hs[i]'h2).k (bytesV (bs[i]'h1)) ∈ pcRows bs hs
 | _ :: _, _ :: _, 0, _, _ => List.mem_cons_self ..
 | _ :: bs, _ :: hs, i + 1, h1, h2 => List.mem_cons_of_mem _ (pcRows_mem bs hs i (by simpa using h1) (by simpa using h2))
theorem piece_hds {hd : Hd} {b : List (List UInt8)} {hs : List Hd} {T : List Res} (h : pieceR hd b hs ∈ T) : Shift [] T [] [row 1 hd.A hd.n hd.k (hdsV hs)] := bun_out h (List.mem_cons_self ..)
theorem piece_at {hd : Hd} {b : List (List UInt8)} {hs : List Hd} {T : List Res} (h : pieceR hd b hs ∈ T) (i : Nat) (h1 : i < b.length) (h2 : i < hs.length) : Shift [] T [] [row 1 (hs[i]'h2).A (hs[i]'h2).n (hs[i]'h2).k (bytesV (b[i]'h1))] :=
 bun_out h (List.mem_cons_of_mem _ (pcRows_mem b hs i h1 h2))
theorem flat_le : ∀ (b : List (List UInt8)) (i : Nat), (b.take i).flatten.length ≤ b.flatten.length
 | [], _ => by simp
 | _ :: _, 0 => by simp
 | x :: b, i + 1 => by have := flat_le b i; simp only [List.take_succ_cons, List.flatten_cons, List.length_append]; omega
theorem of19_len (dir : Int) (b : List UInt8) (q : Bool) : (of19 dir b q).length ≤ 1 := by
 unfold of19
 by_cases h1 : 256 < b.length
 · rw [if_pos h1]; simp
 · rw [if_neg h1]
   by_cases h2 : b = [] ∨ q = false
   · rw [if_pos h2]; simp
   · rw [if_neg h2]; simp
theorem hdsV_at {hs : List Hd} {i : Nat} (h : i < hs.length) : (hdsV hs)[i]? = some (.slice (hs[i]'h).A (hs[i]'h).n (hs[i]'h).k) := by
 simp [hdsV, Hd.v, h]
section rules
variable {c : Ctx} {Q : Post} {E : Env} {S T : List Res} {ops : Array Oper} {rest : List Oper} {d : Nat} {ty : TypeId} {pos : String} {af : Array Edge} {x : Code}
theorem GC_bun {p : Prop} {L : List Res} (h : bun p L ∈ T) (k : p → GC c x Q E S T) : GC c x Q E S T := fun w a hr hs => k (bun_ok.1 (hs.sat.okT _ h)).1 w a hr hs
theorem GC_freeze {t : TypeId} {sz n k : Nat} {A : Option Addr} {l : List Value} {r : List Res} (hp : Pull S [own t sz A n k l] r)
 (kk : (∀ b, (own t sz A n k l).fp b → c.M b ∨ c.w0.heap.size ≤ b) → (∀ R ∈ r, Apart (own t sz A n k l) R) → (∀ R ∈ T, Apart (own t sz A n k l) R) → GC c x Q E r (own t sz A n k l :: row sz A n k l :: T)) : GC c x Q E S T := fun w a hr hs => by
 have hm : own t sz A n k l ∈ S := (hp.mem _).2 (.inl (List.mem_cons_self ..))
 obtain ⟨p1, p2, p3⟩ := hp.pair hs.sat.sep
 refine kk (hs.own _ hm) (fun R hR => p3 _ (List.mem_cons_self ..) R hR) (fun R hR => hs.sat.sepT _ hm R hR) w a hr ?_
 have h1 := hs.shift hp (S' := []) (T' := [own t sz A n k l, row sz A n k l]) (Turn.see w _ _ _ _ (fun _ h => absurd h (by simp)) (fun R hR => by
  simp only [List.mem_cons, List.not_mem_nil, or_false] at hR
  rcases hR with rfl | rfl
  · exact hs.sat.okS _ hm
  · exact own_row (hs.sat.okS _ hm)) List.Pairwise.nil (fun _ h => absurd h (by simp)) (fun _ h => absurd h (by simp)) (fun R hR b hb => by
  refine .inl ⟨own t sz A n k l, List.mem_singleton.2 rfl, ?_⟩
  simp only [List.mem_cons, List.not_mem_nil, or_false] at hR
  rcases hR with rfl | rfl
  · exact hb
  · rw [row_fp] at hb; exact own_fp.2 hb.2))
 exact h1
theorem GC_thaw {t : TypeId} {sz n k : Nat} {A : Option Addr} {l : List Value} {T' : List Res} (hm : own t sz A n k l ∈ T) (ht : Sub T' T) (h1 : ∀ b, (own t sz A n k l).fp b → c.M b ∨ c.w0.heap.size ≤ b)
 (h2 : ∀ R ∈ S, Apart (own t sz A n k l) R) (h3 : ∀ R ∈ T', Apart (own t sz A n k l) R) (kk : GC c x Q E (own t sz A n k l :: S) T') : GC c x Q E S T := fun w a hr hs =>
 kk w a hr ⟨hs.go, ⟨fun R hR => by
  rcases List.mem_cons.1 hR with rfl | hR
  · exact hs.sat.okT _ hm
  · exact hs.sat.okS R hR, fun R hR => hs.sat.okT R (ht.mem R hR), List.pairwise_cons.2 ⟨h2, hs.sat.sep⟩, fun R hR R' hR' => by
  rcases List.mem_cons.1 hR with rfl | hR
  · exact h3 R' hR'
  · exact hs.sat.sepT R hR R' (ht.mem R' hR')⟩, fun R hR => by
  rcases List.mem_cons.1 hR with rfl | hR
  · exact h1
  · exact hs.own R hR, fun R hR => hs.seen R (ht.mem R hR)⟩
theorem GL_callA {xs : List Operand} {ats : Array TypeId} {f : FuncId} {args : List Value} {S1 T1 r : List Res} {R : Value → List Res → List Res → Prop} (hd : Nat.blt d c.n = true)
 (hcb : Cb c.P f) (hc : Ct c.P f args S1 T1 R) (ha : evs E xs = args) (hp : Pull S S1 r) (ht : Sub T1 T)
 (k : ∀ v S' T', R v S' T' → (∀ R0 ∈ T, (∀ X ∈ S1, Apart R0 X) → (∀ X ∈ T1, Apart R0 X) → (∀ X ∈ S', Apart R0 X) ∧ ∀ X ∈ T', Apart R0 X) → GL c ops rest Q (upd E d v) (S' ++ r) (T' ++ T)) :
 GL c ops (⟨some d, .call { callee := .value (.func f), args := xs.toArray, argTypes := ats }, ty, pos, af, none⟩ :: rest) Q E S T := fun w a hr hs => by
 refine wpList_plain rfl (fun K hK => ?_)
 have hargs : xs.toArray.map (ev E) = args.toArray := by rw [← ha, evs_eq]; simp
 unfold Oper.wp
 have hx : ev E (.func f) = .func (.func f) #[] #[] := rfl
 have hargs2 : (#[] : Array Value) ++ (xs.toArray.map (ev E)) ++ #[] = args.toArray := by rw [hargs]; simp
 simp only [execOp, resolve, Deferred.ofValue, hr.eval, hx, Sem.run_bind, Sem.run_pure, Result.andThen_ok, invoke, hargs2, run_callFunc hcb, Oper.upon]
 refine (hc.out w ((hs.sat.sub hp).subT ht.mem)).mono ?_
 rintro e w' ⟨v, S', T', rfl, hR, hn⟩
 refine hK _ _ (k v S' T' hR (fun R0 h0 hS hT => ?_) w' _ (hr.put hd v) (hs.turn hp ht.mem hn))
 have hdom := R0.dom w (hs.sat.okT R0 h0)
 refine ⟨fun X hX b h1 h2 => ?_, fun X hX b h1 h2 => ?_⟩
 · rcases hn.own X hX b h2 with ⟨Y, hY, hb⟩ | hb
   · exact hS Y hY b h1 hb
   · exact absurd (hdom b h1) (by omega)
 · rcases hn.seen X hX b h2 with ⟨Y, hY, hb⟩ | hb | ⟨Y, hY, hb⟩
   · exact hS Y hY b h1 hb
   · exact absurd (hdom b h1) (by omega)
   · exact hT Y hY b h1 hb
theorem apart_blk {R : Res} {B : Nat} {l l' : List Value} {t t' : TypeId} (h : Apart R (blk B l t)) : Apart R (blk B l' t') := fun b h1 h2 => h b h1 (blk_fp.2 (blk_fp.1 h2))
theorem GL_appC {t e sz bs : Nat} {s y : Operand} {A A2 : Option Addr} {n k m k2 : Nat} {xs news : List Value} (hd : Nat.blt d c.n = true) (ht : El c.P t e sz bs)
 (hs : ev E s = .slice A n n) (hx : ev E y = .slice A2 m k2) (hdst : row sz A n k xs ∈ T) [hsrc : Src (InS c S T) A2 m k2 news] (hl : news.length = m * sz) (hb : (n + m) * bs ≤ 140737488355328) (hm : n + m ≤ maxLen)
 (kk : ∀ A' k', GL c ops rest Q (upd E d (.slice A' (n + m) k')) S (row sz A' (n + m) k' (xs ++ news) :: T)) :
 GL c ops (⟨some d, .call { callee := .builtin .append, args := [s, y].toArray, argTypes := [t, t].toArray }, ty, pos, af, none⟩ :: rest) Q E S T := fun w a hr hst => by
 refine wpList_plain rfl (fun K hK => ?_)
 obtain ⟨i, z, q1, q2, q3, q4, q5, q6, q7⟩ := ht.out
 have hrow := row_ok.1 (hst.sat.okT _ hdst)
 obtain ⟨o1, o2, o3, o4, o5, o6⟩ := hrow
 obtain ⟨s1, s2, s3⟩ := hsrc.out w hst
 unfold Oper.wp
 by_cases h0 : m = 0
 · subst h0
   have e2 : news = [] := List.eq_nil_of_length_eq_zero (by simpa using hl)
   subst e2
   have hrun : (Builtin.append_ #[t, t] ty #[.slice A n n, .slice A2 0 k2]).run c.P w = .ok (.slice A n n) w := by
    cases A <;> cases A2 <;> simp [Builtin.append_, run_underlying q1, sizeOf, typeInfo, q2, Builtin.lenOf, Builtin.firstCells, loadCells, loadCellsFrom, storeCells]
   simp [execOp, hr.eval, resolve, invoke, builtin, hs, hx, hrun, Oper.upon]
   have := kk A n
   simp only [Nat.add_zero, List.append_nil] at this
   refine hK _ _ (this w _ (hr.put hd _) ?_)
   have hsh : Shift [] T [] [row sz A n n xs] := seeR hdst (fun w hk => by
    obtain ⟨p1, p2, p3, p4, p5, p6⟩ := row_ok.1 hk
    exact row_ok.2 ⟨p1, Nat.le_refl _, by omega, fun e => by have := p4 e; omega, p5, p6⟩) (fun b hb => by rw [row_fp] at hb ⊢; exact hb)
   exact hst.shift (S1 := []) .nil (hsh w ⟨fun x hx => absurd hx (by simp), hst.sat.okT, List.Pairwise.nil, fun x hx => absurd hx (by simp)⟩)
 · have grown : ∀ (old : Nat), old < n + m →
    (w.drew.alloc (.cells (xs.toArray ++ news.toArray ++ Builtin.zeroCells z.cells (grownCap w (n + m) old e - (n + m))) e)).ownsRow 0 e sz
     (.slice (some ⟨w.heap.size, 0, none⟩) (n + m) (grownCap w (n + m) old e)) (n + m) (xs ++ news) := by
    intro old ho
    have hlen : (xs ++ news).length = (n + m) * sz := by rw [List.length_append, o1, hl, Nat.add_mul]
    refine ⟨hlen, .inr ⟨w.heap.size, _, _, rfl, Nat.zero_le _, heap_alloc_new w.drew _, grownCap_ge w (n + m) old e, grownCap_le_maxLen w (n + m) old e hm, ?_, ?_⟩⟩
    · have hge := grownCap_ge w (n + m) old e
      simp only [Array.size_append, List.size_toArray, size_zeroCells, q6, o1, hl, ← Nat.add_mul]
      congr 1
      omega
    · simp only [Array.toList_append, List.append_assoc]
      rw [← List.append_assoc, ← hlen]
      exact List.take_left
   have turn : ∀ (old : Nat) (cs : Array Value), (w.drew.alloc (.cells cs e)).ownsRow 0 e sz (.slice (some ⟨w.heap.size, 0, none⟩) (n + m) (grownCap w (n + m) old e)) (n + m) (xs ++ news) → St c (w.drew.alloc (.cells cs e)) S (row sz (some ⟨w.heap.size, 0, none⟩) (n + m) (grownCap w (n + m) old e) (xs ++ news) :: T) := by
    intro old cs ho
    have hrk := own_row (own_ok.2 ho)
    have hn : Turn w (w.drew.alloc (.cells cs e)) [] [] [row sz (some ⟨w.heap.size, 0, none⟩) (n + m) (grownCap w (n + m) old e) (xs ++ news)] [] :=
     ⟨⟨rfl, rfl, rfl, by simp, fun k hk _ => heap_alloc_old w.drew _ hk⟩, ⟨fun x hx => absurd hx (by simp), fun x hx => by rw [List.mem_singleton.1 hx]; exact hrk, List.Pairwise.nil, fun x hx => absurd hx (by simp)⟩, fun x hx => absurd hx (by simp), fun x hx b hb => by
      rw [List.mem_singleton.1 hx, row_fp] at hb
      obtain ⟨_, ad, h1, rfl⟩ := hb
      injection h1 with h1
      subst h1
      exact .inr (.inl (Nat.le_refl _))⟩
    have := hst.turn (S1 := []) .nil (T1 := []) (fun _ h => absurd h (by simp)) hn
    simpa using this
   obtain ⟨a2, rfl⟩ : ∃ a2, A2 = some a2 := by
    cases A2 with
    | none => have := s1 rfl; omega
    | some a2 => exact ⟨a2, rfl⟩
   simp only [maxLen] at hm
   cases A with
   | none =>
    have hn : n = 0 := by have := o4 rfl; omega
    subst hn
    have hxs : xs = [] := List.eq_nil_of_length_eq_zero (by simpa using o1)
    subst hxs
    have hrun := run_append_nil (P := c.P) w t ty e i z q1 q2 q3 a2 m k2 news (by rw [q4]; exact hl) (s3 a2 rfl) (by omega) (by omega) (by rw [q5]; simp only [Nat.zero_add] at hb; omega)
    have hg := grown 0 (by omega)
    simp only [Nat.zero_add, List.nil_append, Array.empty_append] at hg
    simp [execOp, hr.eval, resolve, invoke, builtin, hs, hx, hrun, Oper.upon]
    have h2 := turn 0 (news.toArray ++ Builtin.zeroCells z.cells (grownCap w m 0 e - m)) (by simp only [Nat.zero_add, List.nil_append]; exact hg)
    have h3 := kk (some ⟨w.heap.size, 0, none⟩) (grownCap w m 0 e)
    simp only [Nat.zero_add, List.nil_append] at h2 h3
    exact hK _ _ (h3 _ _ (hr.put hd _) h2)
   | some b =>
    have hrun := run_append_grow (P := c.P) w t ty e i z q1 q2 q3 b n n xs (by rw [q4]; exact o1) (fun j v hj => by have := o6 j v hj; rwa [elt_some] at this) a2 m k2 news (by rw [q4]; exact hl) (s3 a2 rfl) (by omega) (by omega) (growslice_fits (by omega) (by rw [q5]; exact hb))
    have hg := grown n (by omega)
    simp [execOp, hr.eval, resolve, invoke, builtin, hs, hx, hrun, Oper.upon]
    exact hK _ _ (kk _ _ _ _ (hr.put hd _) (turn n _ (by rwa [show xs.toArray ++ news.toArray = (xs ++ news).toArray by simp] at hg)))
end rules
end Go.Bus
