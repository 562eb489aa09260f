/- Part of the proof: Engc. No condition. -/
import Derived.Test.YtlfjioigkojjdaaGreatUBEngb
import Derived.Test.YtlfjioigkojjdaaGreatUBPure
import Derived.ChangeKeysEq
import Derived.Laws.StructEq
import Derived.Laws.IdiomStrings
set_option linter.unusedVariables false
set_option linter.unusedSimpArgs false
namespace Go.Bus
open Go
def mes (k : IntKind) : List (Int × Value) → Nat → List MapEntry
 | [], _ => []
 | (n, v) :: l, j => ⟨.int k n, v, j⟩ :: mes k l (j + 1)
def look (n : Int) : List (Int × Value) → Option Value
 | [] => none
 | (m, v) :: l => if n = m then some v else look n l
def lookD (n : Int) (l : List (Int × Value)) (z : Value) : Value := match look n l with | some v => v | none => z
def lookB (n : Int) (l : List (Int × Value)) : Bool := match look n l with | some _ => true | none => false
def lookI (n : Int) : List (Int × Value) → Nat → Option (Nat × Value)
 | [], _ => none
 | (m, v) :: l, i => if n = m then some (i, v) else lookI n l (i + 1)
theorem lookI_look (n : Int) : ∀ (l : List (Int × Value)) (i : Nat), (lookI n l i).map (·.2) = look n l
 | [], _ => rfl
 | (m, v) :: l, i => by
  simp only [lookI, look]
  split
  · rfl
  · exact lookI_look n l (i + 1)
theorem findNow_mes (d k : IntKind) (n : Int) : ∀ (l : List (Int × Value)) (j i : Nat), Instr.findNow (.int d) (.int k n) (mes k l j) i = some (lookI n l i)
 | [], _, _ => rfl
 | (m, v) :: l, j, i => by
  simp only [mes, Instr.findNow, Instr.sameNow, if_true, lookI]
  by_cases h : n = m
  · subst h; simp
  · have hb : (n == m) = false := by simpa using h
    simp only [hb]
    rw [if_neg h]
    exact findNow_mes d k n l (j + 1) (i + 1)
theorem mes_snoc (k : IntKind) (n : Int) (v : Value) : ∀ (l : List (Int × Value)) (j : Nat), mes k (l ++ [(n, v)]) j = mes k l j ++ [⟨.int k n, v, j + l.length⟩]
 | [], _ => rfl
 | (m, u) :: l, j => by
  simp only [List.cons_append, mes, mes_snoc k n v l (j + 1), List.length_cons]
  rw [show j + 1 + l.length = j + (l.length + 1) by omega]
@[irreducible] def mapr (B : Nat) (k : IntKind) (l : List (Int × Value)) : Res where
 fp b := b = B
 ok w := w.heap[B]? = some (.map (mes k l 0).toArray l.length)
 loc w w' h q := by rw [h B rfl]; exact q
 dom w q b hb := by subst hb; exact (Array.getElem?_eq_some_iff.1 q).1
theorem mapr_fp {B : Nat} {k : IntKind} {l : List (Int × Value)} {b : Nat} : (mapr B k l).fp b ↔ b = B := by unfold mapr; rfl
theorem mapr_ok {B : Nat} {k : IntKind} {l : List (Int × Value)} {w : World} : (mapr B k l).ok w ↔ w.heap[B]? = some (.map (mes k l 0).toArray l.length) := by unfold mapr; rfl
class HasM (B : Nat) (k : outParam IntKind) (l : outParam (List (Int × Value))) (L : List Res) : Prop where
 mem : mapr B k l ∈ L
instance (priority := 1000) hasM0 {B : Nat} {k : IntKind} {l : List (Int × Value)} {L : List Res} : HasM B k l (mapr B k l :: L) := ⟨List.mem_cons_self ..⟩
instance (priority := 900) hasM1 {B : Nat} {k : IntKind} {l : List (Int × Value)} {R : Res} {L : List Res} [h : HasM B k l L] : HasM B k l (R :: L) := ⟨List.mem_cons_of_mem _ h.mem⟩
class LkM (I : World → Prop) (B : Nat) (k : outParam IntKind) (l : outParam (List (Int × Value))) : Prop where
 out : ∀ w, I w → (mapr B k l).ok w
instance (priority := 1000) lkMS {c : Ctx} {S T : List Res} {B : Nat} {k : IntKind} {l : List (Int × Value)} [h : HasM B k l S] : LkM (InS c S T) B k l := ⟨fun w q => St.sat q |>.okS _ h.mem⟩
instance (priority := 900) lkMT {c : Ctx} {S T : List Res} {B : Nat} {k : IntKind} {l : List (Int × Value)} [h : HasM B k l T] : LkM (InS c S T) B k l := ⟨fun w q => St.sat q |>.okT _ h.mem⟩
theorem run_checkKey_int {P : Program} {kt : TypeId} {d : IntKind} (hk : P.underlying kt = some (.int d)) (b : Bool) (j : Nat) (v : Value) (w : World) : (Instr.checkKey b (j + 1) kt v).run P w = .ok () w := by
 simp only [Instr.checkKey, Sem.run_bind, run_underlying hk, Result.andThen_ok]
 cases v <;> rfl
section
variable {c : Ctx} {Q : Post} {E : Env} {S T : List Res} {ops : Array Oper} {rest : List Oper} {d : Nat} {ty : TypeId} {pos : String} {af : Array Edge}
theorem GL_mkMap {t : TypeId} (k : IntKind) (hd : Nat.blt d c.n = true) (kk : ∀ B, GL c ops rest Q (upd E d (.map (some B))) (mapr B k [] :: S) T) :
 GL c ops (⟨some d, .makeMap t none, ty, pos, af, none⟩ :: rest) Q E S T := fun w a hr hs => by
 refine wpList_plain rfl (fun K hK => ?_)
 unfold Oper.wp
 simp only [execOp, Option.map_none, Instr.makeMap, Sem.run_bind, run_newObj, Result.andThen_ok, Sem.run_pure, World.alloc_eq, Oper.upon]
 exact hK _ _ (kk w.heap.size _ _ (hr.put hd _) (hs.new _ (mapr w.heap.size k []) (by rw [mapr_ok]; exact heap_alloc_new w _) (fun b hb => mapr_fp.1 hb)))
theorem run_mapUpdate_new {P : Program} {w : World} {B : Nat} {k : IntKind} {l : List (Int × Value)} {n : Int} {v : Value} {t kt et : TypeId} {dk : IntKind} (ht : P.underlying t = some (.map kt et)) (hk : P.underlying kt = some (.int dk)) (hn : look n l = none) (h : (mapr B k l).ok w) :
 ∃ w', (Instr.mapUpdate t (.map (some B)) (.int k n) v).run P w = .ok () w' ∧ Turn w w' [mapr B k l] [mapr B k (l ++ [(n, v)])] [] [] := by
 rw [mapr_ok] at h
 have hlt : B < w.heap.size := (Array.getElem?_eq_some_iff.1 h).1
 have hf : (Instr.findKey kt (.int k n) (mes k l 0)).run P w = .ok none w := by
  have : lookI n l 0 = none := by
   have := lookI_look n l 0
   rw [hn] at this
   simpa using this
  simp only [Instr.findKey, Sem.run_bind, run_underlying hk, Result.andThen_ok, findNow_mes, this, Sem.run_pure]
 refine ⟨{ w with heap := w.heap.setIfInBounds B (.map ((mes k l 0).toArray.push ⟨.int k n, v, l.length⟩) (l.length + 1)) }, ?_, ?_⟩
 · have hg : (getObj B).run P w = .ok (.map (mes k l 0).toArray l.length) w := by simp [getObj, Sem.run, h]
   have hset : (setObj B (.map ((mes k l 0).toArray.push ⟨.int k n, v, l.length⟩) (l.length + 1))).run P w = .ok () { w with heap := w.heap.setIfInBounds B (.map ((mes k l 0).toArray.push ⟨.int k n, v, l.length⟩) (l.length + 1)) } := by simp [setObj, Sem.run, h]
   simp only [Instr.mapUpdate, Sem.run_bind, run_underlying ht, Result.andThen_ok, hg, run_checkKey_int hk, hf, hset]
 · refine Turn.one w _ _ _ ⟨rfl, rfl, rfl, by simp, fun b hb hM => ?_⟩ ?_ (fun b hb => .inl (mapr_fp.2 (mapr_fp.1 hb)))
   · rw [mapr_fp] at hM
     simp [Array.getElem?_setIfInBounds_ne (Ne.symm hM)]
   · rw [mapr_ok]
     simp [hlt, mes_snoc]
theorem GL_ins {t kt et : TypeId} {dk k : IntKind} {m x y : Operand} {B : Nat} {l : List (Int × Value)} {n : Int} {v : Value} {S' : List Res} (ht : c.P.underlying t = some (.map kt et)) (hk : c.P.underlying kt = some (.int dk)) (hm : ev E m = .map (some B)) (hx : ev E x = .int k n) (hy : ev E y = v)
 [hb : HasM B k l S] (hn : look n l = none) [hs' : Swap (mapr B k l) (mapr B k (l ++ [(n, v)])) S S'] (kk : GL c ops rest Q E S' T) :
 GL c ops (⟨none, .insert t m x y, ty, pos, af, none⟩ :: rest) Q E S T := fun w a hr hs => by
 refine wpList_plain rfl (fun K hK => ?_)
 obtain ⟨w', r1, r2⟩ := run_mapUpdate_new (v := v) ht hk hn (hs.sat.okS _ hb.mem)
 unfold Oper.wp
 simp only [execOp, Sem.run_bind, hr.eval, hm, hx, hy, r1, Result.andThen_ok, Sem.run_pure, Oper.upon]
 exact hK _ _ (kk w' _ (hr.none _) (hs.swap hs' r2))
theorem GL_upd {t kt et : TypeId} {dk k : IntKind} {m x y : Operand} {B : Nat} {l : List (Int × Value)} {n : Int} {v : Value} {S' : List Res} (ht : c.P.underlying t = some (.map kt et)) (hk : c.P.underlying kt = some (.int dk)) (hm : ev E m = .map (some B)) (hx : ev E x = .int k n) (hy : ev E y = v)
 [hb : HasM B k l S] (hn : look n l = none) [hs' : Swap (mapr B k l) (mapr B k (l ++ [(n, v)])) S S'] (kk : GL c ops rest Q E S' T) :
 GL c ops (⟨none, .mapUpdate t m x y, ty, pos, af, none⟩ :: rest) Q E S T := fun w a hr hs => by
 refine wpList_plain rfl (fun K hK => ?_)
 obtain ⟨w', r1, r2⟩ := run_mapUpdate_new (v := v) ht hk hn (hs.sat.okS _ hb.mem)
 unfold Oper.wp
 simp only [execOp, Sem.run_bind, hr.eval, hm, hx, hy, r1, Result.andThen_ok, Sem.run_pure, Oper.upon]
 exact hK _ _ (kk w' _ (hr.none _) (hs.swap hs' r2))
end
section
variable {P : Program} {I : World → Prop} {E : Env} {g : Bool} {x y : Operand} {t kt et : TypeId}
theorem run_lookup_int {w : World} {B : Nat} {k dk : IntKind} {l : List (Int × Value)} {n : Int} {z : Value} (ht : P.underlying t = some (.map kt et)) (hk : P.underlying kt = some (.int dk)) (hz : ∀ w, (zeroValue et).run P w = .ok z w) (h : (mapr B k l).ok w) (b : Bool) :
 (Instr.lookup t (.map (some B)) (.int k n) b).run P w = .ok (if b then .tuple #[lookD n l z, .bool (lookB n l)] else lookD n l z) w := by
 rw [mapr_ok] at h
 have hg : (getObj B).run P w = .ok (.map (mes k l 0).toArray l.length) w := by simp [getObj, Sem.run, h]
 have hf : (Instr.findKey kt (.int k n) (mes k l 0)).run P w = .ok (lookI n l 0) w := by
  simp only [Instr.findKey, Sem.run_bind, run_underlying hk, Result.andThen_ok, findNow_mes, Sem.run_pure]
 have hl := lookI_look n l 0
 simp only [Instr.lookup, Sem.run_bind, run_underlying ht, Result.andThen_ok, hg, run_checkKey_int hk, Sem.run_pure, hf]
 cases h2 : lookI n l 0 with
 | none =>
  rw [h2] at hl
  have hl : look n l = none := by simpa using hl.symm
  simp only [Sem.run_bind, hz w, Result.andThen_ok, Sem.run_pure, lookD, lookB, hl]
 | some p =>
  rw [h2] at hl
  have hl : look n l = some p.2 := by simpa using hl.symm
  simp only [Sem.run_bind, Sem.run_pure, Result.andThen_ok, lookD, lookB, hl]
theorem rv_look {B : Nat} {k dk : IntKind} {l : List (Int × Value)} {n : Int} {z v : Value} (ht : P.underlying t = some (.map kt et)) (hk : P.underlying kt = some (.int dk)) (hz : ∀ w, (zeroValue et).run P w = .ok z w) (hx : Vw g (ev E x) (.map (some B))) (hy : Vw g (ev E y) (.int k n)) [h : LkM I B k l] (hv : lookD n l z = v) : RV P I E g (.lookup t x y false) v := fun q w i d ty pos af gd => by
 have := run_lookup_int (n := n) ht hk hz (h.out w i) false
 simp [execOp, hx q, hy q, this, hv]
theorem rv_lookOk {B : Nat} {k dk : IntKind} {l : List (Int × Value)} {n : Int} {z v : Value} {b : Bool} (ht : P.underlying t = some (.map kt et)) (hk : P.underlying kt = some (.int dk)) (hz : ∀ w, (zeroValue et).run P w = .ok z w) (hx : Vw g (ev E x) (.map (some B))) (hy : Vw g (ev E y) (.int k n)) [h : LkM I B k l] (hv : lookD n l z = v) (hb : lookB n l = b) : RV P I E g (.lookup t x y true) (.tuple [v, .bool b].toArray) := fun q w i d ty pos af gd => by
 have := run_lookup_int (n := n) ht hk hz (h.out w i) true
 simp [execOp, hx q, hy q, this, hv, hb]
theorem rv_b2s {A : Option Addr} {n k : Nat} {l : List UInt8} {src dst e : TypeId} {sz bs : Nat} (hs : El P src e sz bs) (he : P.underlying e = some (.int .u8)) (hd : P.underlying dst = some .string) (hx : Vw g (ev E x) (.slice A n k)) [h : LkR I A 1 n k (bytesV l)] : RV P I E g (.convert src dst x) (.string ⟨l.toArray⟩) := fun q w i d ty pos af gd => by
 obtain ⟨_, _, h1, _⟩ := hs.out
 have hr := row_ok.1 (h.out w i)
 have hl : l.length = n := by have := hr.1; simpa [bytesV] using this
 cases A with
 | none =>
  have h0 : n = 0 := by have := hr.2.2.2.1 rfl; have := hr.2.1; omega
  have h2 : l = [] := List.eq_nil_of_length_eq_zero (by omega)
  subst h2
  have := run_convert_bytes_nil (P := P) w src e h1 he n k dst hd
  simp [execOp, hx q, this]
  rfl
 | some ad =>
  have := run_convert_bytes_back (P := P) w src dst e ad k l h1 he hd (fun j hj => by
   have := hr.2.2.2.2.2 j (b8 l[j]) (bytesV_at hj)
   rwa [elt_some] at this)
  rw [hl] at this
  simp [execOp, hx q, this]
theorem beq_eq_decide' {l l' : List UInt8} : (l == l') = decide (l = l') := by
 rw [Bool.eq_iff_iff]; simp
theorem toList_mk (l : List UInt8) : (⟨l.toArray⟩ : ByteArray).toList = l := by rw [ByteArray.toList_eq]
theorem rv_eqB {l l' : List UInt8} {t' : TypeId} (hx : Vw g (ev E x) (.string ⟨l.toArray⟩)) (hy : Vw g (ev E y) (.string ⟨l'.toArray⟩)) : RV P I E g (.binOp .eql t x y t') (.bool (decide (l = l'))) := fun q w i d ty pos af gd => by
 rw [rv_eqS hx hy q w i d ty pos af gd, toList_mk, toList_mk]
 simp only [beq_eq_decide']
theorem rv_neB {l l' : List UInt8} {t' : TypeId} (hx : Vw g (ev E x) (.string ⟨l.toArray⟩)) (hy : Vw g (ev E y) (.string ⟨l'.toArray⟩)) : RV P I E g (.binOp .neq t x y t') (.bool (!decide (l = l'))) := fun q w i d ty pos af gd => by
 rw [rv_neS hx hy q w i d ty pos af gd, toList_mk, toList_mk]
 simp only [beq_eq_decide']
theorem rv_neBool {a b : Bool} {t' : TypeId} (ht : P.underlying t = some .bool) (hx : Vw g (ev E x) (.bool a)) (hy : Vw g (ev E y) (.bool b)) : RV P I E g (.binOp .neq t x y t') (.bool (!decide (a = b))) := fun q w i d ty pos af gd => by
 simp [execOp, hx q, hy q, eqGuard, run_neq_bool w t a b ht]; cases a <;> cases b <;> rfl
theorem run_eqItems_int {w : World} {e : TypeId} {k k' : IntKind} (he : P.underlying e = some (.int k')) (d : Nat) (xs ys : List Int) : ∀ (is : List Nat), (∀ i ∈ is, i < xs.length ∧ i < ys.length) →
 (Op.eqItems (d + 1) e 1 (xs.map (Value.int k)).toArray (ys.map (Value.int k)).toArray is).run P w = .ok (decide (∀ i ∈ is, xs[i]? = ys[i]?)) w
 | [], _ => by simp [Op.eqItems]
 | i :: is, h => by
  have hi := h i (List.mem_cons_self ..)
  have ih := run_eqItems_int (w := w) (k := k) he d xs ys is (fun j hj => h j (List.mem_cons_of_mem _ hj))
  have hp : ∀ (zs : List Int) (hz : i < zs.length), (part e (zs.map (Value.int k)).toArray (i * 1)).run P w = .ok (.int k zs[i]) w := by
   intro zs hz
   simp [part, run_isAgg he w, plainD, hz]
  simp only [Op.eqItems, Sem.run_bind, hp xs hi.1, hp ys hi.2, Result.andThen_ok, run_equalIn_int w d e k k' _ _ he]
  by_cases hxy : xs[i] = ys[i]
  · have hb : (xs[i] == ys[i]) = true := by simpa using hxy
    simp only [hb]
    rw [if_neg (by simp), ih]
    simp [hi.1, hi.2, hxy]
  · have hb : (xs[i] == ys[i]) = false := by simpa using hxy
    simp only [hb]
    rw [if_pos (by simp)]
    simp [hi.1, hi.2, hxy]
theorem rv_eqArr {n : Nat} {e t' : TypeId} {k k' : IntKind} {xs ys : List Int} {u v : Value} (ht : P.underlying t = some (.array n e)) (he : P.underlying e = some (.int k')) (hc : P.cellsOf e = 1) (hq : P.eqGuardType P.depth t = false) (hx : Vw g (ev E x) u) (hy : Vw g (ev E y) v) (hu : u = .agg (xs.map (Value.int k)).toArray) (hv : v = .agg (ys.map (Value.int k)).toArray) (hn : xs.length = n ∧ ys.length = n) : RV P I E g (.binOp .eql t x y t') (.bool (decide (xs = ys))) := fun q w i d ty pos af gd => by
 subst hu; subst hv
 obtain ⟨i0, hi0⟩ : ∃ i, P.info? e = some i := by
  cases h : P.info? e with
  | some i => exact ⟨i, rfl⟩
  | none => simp [Program.underlying, h] at he
 have h1 := run_equalIn_array (w := w) 9999 (xs.map (Value.int k)).toArray (ys.map (Value.int k)).toArray ht hi0
 rw [hc, run_eqItems_int he 9998 xs ys (List.range n) (fun i hi => by rw [List.mem_range] at hi; omega)] at h1
 have h2 : (decide (∀ i ∈ List.range n, xs[i]? = ys[i]?)) = decide (xs = ys) := by
  congr 1
  apply propext
  constructor
  · intro h
    apply List.ext_getElem?
    intro i
    by_cases hi : i < n
    · exact h i (List.mem_range.2 hi)
    · rw [List.getElem?_eq_none (by omega), List.getElem?_eq_none (by omega)]
  · rintro rfl i _; rfl
 rw [h2] at h1
 simp [execOp, hx q, hy q, run_eqGuard_agg w _ t _ _ _ _ hq, run_eql_struct, h1]
end
section rules
variable {c : Ctx} {Q : Post} {E : Env} {S T : List Res} {ops : Array Oper} {rest : List Oper} {d : Nat} {ty : TypeId} {pos : String} {af : Array Edge}
theorem GL_callG {xs : List Operand} {ats : Array TypeId} {f : FuncId} {args : List Value} {T1 : List Res} {v : Value} {j s : Nat} {want g : Bool} (hd : Nat.blt d c.n = true) (hj : (ops[j]?).bind (·.dst) = some s) (hg : Gv (E s) want g)
 (hcb : Cb c.P f) (hc : g = true → CtD c.P f args [] T1 v [] []) (ha : g = true → evs E xs = args) (ht : g = true → Sub T1 T)
 (k : GL c ops rest Q (upd E d (gd g v)) S T) :
 GL c ops (⟨some d, .call { callee := .value (.func f), args := xs.toArray, argTypes := ats }, ty, pos, af, some (j, want)⟩ :: rest) Q E S T := fun w a hr hs => by
 cases g with
 | true =>
  have hk := GL_callD (c := c) (ops := ops) (rest := rest) (Q := Q) (E := E) (S := S) (T := T) (ty := ty) (pos := pos) (af := af) (d := d) (ats := ats) hd hcb (hc rfl) (ha rfl) .nil (ht rfl) (by rw [gd_true] at k; exact k) w a hr hs
  have hw := wanted_of (ops := ops) (o := ⟨some d, .call { callee := .value (.func f), args := xs.toArray, argTypes := ats }, ty, pos, af, some (j, want)⟩) hr rfl hj hg
  simp only [wpList] at hk ⊢
  rw [hw, if_pos rfl]
  rw [if_pos (by rfl)] at hk
  exact hk
 | false =>
  have hw := wanted_of (ops := ops) (o := ⟨some d, .call { callee := .value (.func f), args := xs.toArray, argTypes := ats }, ty, pos, af, some (j, want)⟩) hr rfl hj hg
  simp only [wpList]
  rw [hw, if_neg (by simp)]
  rw [gd_false] at k
  exact k w _ (hr.put hd undef) hs
theorem GL_stE {t e sz : Nat} {x y : Operand} {A : Option Addr} {n k i : Nat} {xs xs' : List Value} {u : Value} {S' : List Res} (hx : ev E x = .pointer (some (elt A i))) (hy : ev E y = u) (hc : Cells c.P t 1) (h1 : u.oneCell' = true)
 [hb : HasW A e sz n k xs S] (hi : i < n * sz) (hxs : xs.set i u = xs') [hs' : Swap (own e sz A n k xs) (own e sz A n k xs') S S'] (kk : GL c ops rest Q E S' T) :
 GL c ops (⟨none, .store t x y, ty, pos, af, none⟩ :: rest) Q E S T := fun w a hr hs => by
 subst hxs
 refine wpList_plain rfl (fun K hK => ?_)
 have hown := own_ok.1 (hs.sat.okS _ hb.mem)
 obtain ⟨hl, h⟩ := hown
 rcases h with ⟨e1, hn⟩ | ⟨gb, cap, cur, e1, hb0, hg, q1, q2, q3, q4⟩
 · subst hn; simp at hi
 · injection e1 with e1 _ e3
   subst e1; subst e3
   have hlt : i < cur.size := by rw [q3]; exact Nat.lt_of_lt_of_le hi (Nat.mul_le_mul_right _ q1)
   have hblk : (blk gb cur.toList e).ok w := by rw [blk_ok]; simpa using hg
   obtain ⟨w', r1, r2, r3⟩ := run_storeVar (P := c.P) (v := u) (off := i) hc (by rw [cellsL_one h1]; rfl) (by rw [cellsL_one h1]; simpa using h1) (by simp; omega) hblk
   rw [cellsL_one h1] at r2
   simp only [putAll] at r2
   rw [blk_ok] at r2
   have ha : elt (some ⟨gb, 0, none⟩) i = ⟨gb, i, none⟩ := by rw [elt_some, add_lit]
   unfold Oper.wp
   simp only [execOp, Instr.storeAt, Instr.sureAddr, Sem.run_bind, hr.eval, hx, hy, ha, Sem.run_pure, Result.andThen_ok, r1, Oper.upon]
   refine hK _ _ (kk w' _ (hr.none _) (hs.swap hs' (Turn.one w w' _ _ ⟨r3.os, r3.tape, r3.output, r3.size, fun b hb hM => r3.keep b hb (fun e => hM (own_fp.2 ⟨_, rfl, e⟩))⟩ (own_ok.2 ⟨by simpa using hl, .inr ⟨gb, _, _, rfl, Nat.zero_le _, r2, q1, q2, by simpa using q3, ?_⟩⟩) (fun b hb => .inl (own_fp.2 (own_fp.1 hb))))))
   simp [List.take_set, q4]
theorem GL_mk {t e bs n : Nat} {x : Operand} {j : Int} {z : Value} (hd : Nat.blt d c.n = true) (ht : El c.P t e 1 bs) (hz : ∀ w, (zeroValue e).run c.P w = .ok z w) (h1 : z.oneCell' = true) (hx : ev E x = .int .i64 j) (hj : j = (n : Int)) (hb : bs * n ≤ 281474976710656) (hn : n ≤ maxLen)
 (kk : ∀ B, GL c ops rest Q (upd E d (.slice (some ⟨B, 0, none⟩) n n)) (own e 1 (some ⟨B, 0, none⟩) n n (List.replicate n z) :: S) T) :
 GL c ops (⟨some d, .makeSlice t x x, ty, pos, af, none⟩ :: rest) Q E S T := fun w a hr hs => by
 subst hj
 refine wpList_plain rfl (fun K hK => ?_)
 obtain ⟨i, z0, q1, q2, q3, q4, q5, q6, q7⟩ := ht.out
 have hzz : z0 = z := by
  have := hz w
  simp [zeroValue, typeInfo, q2, q3] at this
  exact this
 subst hzz
 obtain ⟨w', r1, r2, r3⟩ := run_make_full (P := c.P) w 0 t e i z0 1 q1 q2 q3 q4 .i64 .i64 n (by rw [q5]; exact hb) hn (Nat.zero_le _)
 have hc : z0.cells = #[z0] := by rw [cellsL_eq, cellsL_one h1]
 have hm : (madeCells z0.cells (n * 1)).toList = List.replicate n z0 := by
  rw [hc]
  apply List.ext_getElem
  · simp [madeCells]
  · intro j h1 h2
    simp [madeCells, Nat.mod_one]
 rw [hm] at r2
 unfold Oper.wp
 simp only [execOp, hr.eval, hx, r1, Sem.run_bind, Result.andThen_ok, Sem.run_pure, Oper.upon]
 have hn : Turn w w' [] [own e 1 (some ⟨w.heap.size, 0, none⟩) n n (List.replicate n z0)] [] [] := by
  refine ⟨⟨r3.os, r3.tape, r3.output, r3.size, fun b hb _ => r3.block b hb (by simp)⟩, ⟨fun R hR => ?_, fun _ h => absurd h (by simp), List.pairwise_singleton _ _, fun _ _ _ h => absurd h (by simp)⟩, fun R hR b hb => ?_, fun _ h => absurd h (by simp)⟩
  · rw [List.mem_singleton.1 hR]; exact own_ok.2 r2
  · rw [List.mem_singleton.1 hR, own_fp] at hb
    obtain ⟨ad, h2, rfl⟩ := hb
    injection h2 with h2
    subst h2
    exact .inr (Nat.le_refl _)
 have := hs.turn .nil (T1 := []) (fun _ h => absurd h (by simp)) hn
 exact hK _ _ (kk w.heap.size w' _ (hr.put hd _) (by simpa using this))
end rules
end Go.Bus
