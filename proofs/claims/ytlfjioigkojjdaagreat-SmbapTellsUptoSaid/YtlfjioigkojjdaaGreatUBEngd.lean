/- Part of the proof: Engd. No condition. -/
import Derived.Test.YtlfjioigkojjdaaGreatUBEngc
set_option linter.unusedVariables false
set_option linter.unusedSimpArgs false
namespace Go.Bus
open Go
section
variable {P : Program} {I : World → Prop} {E : Env} {g : Bool} {x y : Operand} {t : TypeId}
theorem rv_bldArr {n sz : Nat} {e : TypeId} {ps : List (Nat × Operand)} {z z' : List Value} (hz : ZeroOf P t z) (ht : P.underlying t = some (.array n e)) (hc : Cells P e sz) (hv : g = true → fillF (fun i => (i * sz, sz)) z (prs E ps) = some z') : RV P I E g (.build t ps.toArray) (.agg z'.toArray) := fun q w iw d ty pos af gd => by
 obtain ⟨v, hv0, rfl⟩ := hz
 have h3 := fill_fillF _ _ _ _ (hv q)
 rw [← cellsL_eq] at h3
 have h4 : (ps.toArray.map fun (i, x) => (i, ev E x)).toList = prs E ps := by rw [prs_eq]; simp
 simp only [execOp, Instr.build, Sem.run_bind, hv0 w, Result.andThen_ok, underlying, run_program, ht, Sem.run_pure, h4, hc w, h3]
theorem run_eqSt2 {w : World} {f1 f2 : Field} {k1 k2 j1 j2 : IntKind} {a b c d : Int} (ht : P.underlying t = some (.struct #[f1, f2])) (n1 : f1.name ≠ "_") (n2 : f2.name ≠ "_") (h1 : P.underlying f1.type = some (.int j1)) (h2 : P.underlying f2.type = some (.int j2)) (o1 : f1.offset = 0) (o2 : f2.offset = 1) (hp : P.stoodInHeld t = false) (dd : Nat) :
 (Op.equalIn (dd + 1 + 1) t (.agg #[.int k1 a, .int k2 b]) (.agg #[.int k1 c, .int k2 d])).run P w = .ok (decide (a = c) && decide (b = d)) w := by
 have hf : P.fieldsOf t = #[f1, f2] := by simp [Program.fieldsOf, ht]
 rw [run_equalIn_struct (w := w) (dd + 1) t _ _ (by rw [hf]; exact ht) hp, hf]
 have p1 : ∀ (a b : Int), (part f1.type #[.int k1 a, .int k2 b] f1.offset).run P w = .ok (.int k1 a) w := fun a b => by
  simp [part, run_isAgg h1 w, plainD, o1]
 have p2 : ∀ (a b : Int), (part f2.type #[.int k1 a, .int k2 b] f2.offset).run P w = .ok (.int k2 b) w := fun a b => by
  simp [part, run_isAgg h2 w, plainD, o2]
 simp only [Op.eqFields, n1, n2, ne_eq, not_false_eq_true, if_true, Sem.run_bind, p1, p2, Result.andThen_ok, run_equalIn_int w dd _ _ _ _ _ h1, run_equalIn_int w dd _ _ _ _ _ h2]
 by_cases e1 : a = c
 · subst e1
   by_cases e2 : b = d
   · subst e2; simp [p2, run_equalIn_int w dd _ _ _ _ _ h2]
   · simp [e2, p2, run_equalIn_int w dd _ _ _ _ _ h2]
 · simp [e1]
theorem rv_eqSt2 {f1 f2 : Field} {k1 k2 j1 j2 : IntKind} {a b c d : Int} {u v : Value} {t' : TypeId} (ht : P.underlying t = some (.struct #[f1, f2])) (n1 : f1.name ≠ "_") (n2 : f2.name ≠ "_") (h1 : P.underlying f1.type = some (.int j1)) (h2 : P.underlying f2.type = some (.int j2)) (o1 : f1.offset = 0) (o2 : f2.offset = 1) (hp : P.stoodInHeld t = false) (hq : P.eqGuardType P.depth t = false)
 (hx : Vw g (ev E x) u) (hy : Vw g (ev E y) v) (hu : u = .agg #[.int k1 a, .int k2 b]) (hv : v = .agg #[.int k1 c, .int k2 d]) : RV P I E g (.binOp .eql t x y t') (.bool (decide (a = c) && decide (b = d))) := fun q w i dd ty pos af gd => by
 subst hu; subst hv
 have := run_eqSt2 (w := w) (k1 := k1) (k2 := k2) (a := a) (b := b) (c := c) (d := d) ht n1 n2 h1 h2 o1 o2 hp 9998
 simp [execOp, hx q, hy q, run_eqGuard_agg w _ t _ _ _ _ hq, run_eql_struct, this]
def isNilF : Value → Bool
 | .nilFunc => true
 | _ => false
theorem rv_eqFn {v : Value} {t' : TypeId} {ps rs : Array TypeId} {vr : Bool} (ht : P.underlying t = some (.func ps rs vr)) (hx : Vw g (ev E x) v) (hv : v = .nilFunc ∨ ∃ f a b, v = .func f a b) : RV P I E g (.binOp .eql t x (.const .nilFunc) t') (.bool (isNilF v)) := fun q w iw d ty pos af gd => by
 have hc : ev E (.const .nilFunc) = .nilFunc := rfl
 rcases hv with rfl | ⟨f, a, b, rfl⟩
 · have h : ∀ d, (Op.equalIn (d + 1) t .nilFunc .nilFunc).run P w = .ok true w := fun d => by simp [Op.equalIn, run_underlying ht]
   simp only [execOp, hx q, hc, eqGuard, binOp]
   simp [Op.equal, Op.maxDepth, h 9999, isNilF]
 · have h : ∀ d, (Op.equalIn (d + 1) t (.func f a b) .nilFunc).run P w = .ok false w := fun d => by simp [Op.equalIn, run_underlying ht]
   simp only [execOp, hx q, hc, eqGuard, binOp]
   simp [Op.equal, Op.maxDepth, h 9999, isNilF]
theorem rv_neFn {v : Value} {t' : TypeId} {ps rs : Array TypeId} {vr : Bool} (ht : P.underlying t = some (.func ps rs vr)) (hx : Vw g (ev E x) v) (hv : v = .nilFunc ∨ ∃ f a b, v = .func f a b) : RV P I E g (.binOp .neq t x (.const .nilFunc) t') (.bool (!isNilF v)) := fun q w iw d ty pos af gd => by
 have hc : ev E (.const .nilFunc) = .nilFunc := rfl
 rcases hv with rfl | ⟨f, a, b, rfl⟩
 · have h : ∀ d, (Op.equalIn (d + 1) t .nilFunc .nilFunc).run P w = .ok true w := fun d => by simp [Op.equalIn, run_underlying ht]
   simp only [execOp, hx q, hc, eqGuard, binOp]
   simp [Op.equal, Op.maxDepth, h 9999, isNilF]
 · have h : ∀ d, (Op.equalIn (d + 1) t (.func f a b) .nilFunc).run P w = .ok false w := fun d => by simp [Op.equalIn, run_underlying ht]
   simp only [execOp, hx q, hc, eqGuard, binOp]
   simp [Op.equal, Op.maxDepth, h 9999, isNilF]
theorem rv_eqPt {a : Option Addr} {t' e : TypeId} (ht : P.underlying t = some (.pointer e)) (hx : Vw g (ev E x) (.pointer a)) : RV P I E g (.binOp .eql t x (.const (.pointer none)) t') (.bool a.isNone) := fun q w iw d ty pos af gd => by
 have hc : ev E (.const (.pointer none)) = .pointer none := rfl
 have h : ∀ d, (Op.equalIn (d + 1) t (.pointer a) (.pointer none)).run P w = .ok a.isNone w := fun d => by cases a <;> simp [Op.equalIn, run_underlying ht]
 simp only [execOp, hx q, hc, eqGuard, binOp]
 simp [Op.equal, Op.maxDepth, h 9999]
theorem rv_ixA {B n sz i : Nat} {e : TypeId} {k : IntKind} {j : Int} (ht : P.underlying t = some (.array n e)) (hs : Cells P e sz) (hx : Vw g (ev E x) (.pointer (some ⟨B, 0, none⟩))) (hy : Vw g (ev E y) (.int k j)) (hj : g = true → j = (i : Int)) (hh : g = true → i < n) : RV P I E g (.indexAddr t x y) (.pointer (some ⟨B, i * sz, none⟩)) := fun q w iw d ty pos af gd => by
 have e1 := hj q; have e2 := hh q; subst e1
 have e3 : (i : Int) < (n : Int) := by omega
 have e4 := hs w
 simp [execOp, hx q, hy q, Instr.indexAt, Instr.sureAddr, asIntOf, underlying, ht, e2, e4, add_lit]
end
section rules
variable {c : Ctx} {Q : Post} {E : Env} {S T H : List Res} {ops : Array Oper} {x f : Nat} {l : Array Bool}
theorem GL_callG2 {rest : List Oper} {d : Nat} {ty : TypeId} {pos : String} {af : Array Edge} {xs : List Operand} {ats : Array TypeId} {f : FuncId} {args : List Value} {S1 T1 r : List Res} {v : Value} {j s : Nat} {want g : Bool} (hd : Nat.blt d c.n = true) (hj : (ops[j]?).bind (·.dst) = some s) (hg : Gv (E s) want g)
 (hcb : Cb c.P f) (hc : g = true → CtD c.P f args S1 T1 v S1 []) (ha : g = true → evs E xs = args) (hp : Pull S S1 r) (ht : g = true → Sub T1 T)
 (k : GL c ops rest Q (upd E d (gd g v)) (S1 ++ r) T) :
 GL c ops (⟨some d, .call { callee := .value (.func f), args := xs.toArray, argTypes := ats }, ty, pos, af, some (j, want)⟩ :: rest) Q E S T := fun w a hr hs => by
 cases g with
 | true =>
  have hk := GL_call (c := c) (ops := ops) (rest := rest) (Q := Q) (E := E) (S := S) (T := T) (ty := ty) (pos := pos) (af := af) (d := d) (ats := ats) hd hcb (hc rfl) (ha rfl) hp (ht rfl) (by rintro _ _ _ ⟨rfl, rfl, rfl⟩; rw [gd_true] at k; exact k) w a hr hs
  have hw := wanted_of (ops := ops) (o := ⟨some d, .call { callee := .value (.func f), args := xs.toArray, argTypes := ats }, ty, pos, af, some (j, want)⟩) hr rfl hj hg
  simp only [wpList] at hk ⊢
  rw [hw, if_pos rfl]
  rw [if_pos (by rfl)] at hk
  exact hk
 | false =>
  have hw := wanted_of (ops := ops) (o := ⟨some d, .call { callee := .value (.func f), args := xs.toArray, argTypes := ats }, ty, pos, af, some (j, want)⟩) hr rfl hj hg
  simp only [wpList]
  rw [hw, if_neg (by simp)]
  rw [gd_false] at k
  have hs' : St c w (S1 ++ r) T := by
   have := hs.turn (S' := S1) (T' := []) hp (T1 := []) (fun _ h => absurd h (by simp)) (Turn.see w _ _ _ _ (fun R hR => hs.sat.okS R ((hp.mem _).2 (.inl hR))) (fun _ h => absurd h (by simp)) (hp.pair hs.sat.sep).1 (fun _ _ _ h => absurd h (by simp)) (fun R hR b hb => ⟨R, hR, hb⟩) (fun _ h => absurd h (by simp)))
   simpa using this
  exact k w _ (hr.put hd undef) hs'
theorem GA_each (h0 : Region.ready .any ops l ≠ []) (k : ∀ i ∈ Region.ready .any ops l, ∃ o, ops[i]? = some o ∧ Nat.blt i x = true ∧ GL c ops [o] (Sq (fun E S T => HSub H S T ∧ GA c ops x H f (l.setIfInBounds i true) Q E S T) Q) E S T) : GA c ops x H (f + 1) l Q E S T := fun w a ha hs hh => by
 rw [anyX]
 refine ⟨fun h => absurd h h0, fun j hj => ?_⟩
 obtain ⟨o, hi, _, kk⟩ := k j hj
 have hk := kk w a ha hs
 unfold wpOp
 rw [hi]
 simp only [wpList] at hk
 have conv : ∀ a' w', post c (Sq (fun E S T => HSub H S T ∧ GA c ops x H f (l.setIfInBounds j true) Q E S T) Q) .normal a' w' → (j < x → Held H w') ∧ anyX c.P ops (post c Q) x (Held H) f (l.setIfInBounds j true) a' w' := by
  rintro a' w' ⟨E', S', T', r1, r2, r3, r4⟩
  have := r3.held r2
  exact ⟨fun _ => this, r4 w' a' r1 r2 this⟩
 by_cases hw : Region.wanted o (yielded ops a.tmps) = true
 · simp only [hw, if_true] at hk ⊢
   rcases hk with hk | ⟨h1, h2⟩
   · exact .inl (wp_monoQ conv (fun _ _ _ q => q) (fun _ _ q => q) hk)
   · exact .inr ⟨h1, h2⟩
 · simp only [hw] at hk ⊢
   exact conv _ _ hk
theorem GA_two (i j : Nat) {oi oj : Oper} (hi : ops[i]? = some oi) (hj : ops[j]? = some oj) (hix : Nat.blt i x = true) (hjx : Nat.blt j x = true) (hr : Region.ready .any ops l = [i, j])
 (ki : GL c ops [oi] (Sq (fun E S T => HSub H S T ∧ GA c ops x H f (l.setIfInBounds i true) Q E S T) Q) E S T)
 (kj : GL c ops [oj] (Sq (fun E S T => HSub H S T ∧ GA c ops x H f (l.setIfInBounds j true) Q E S T) Q) E S T) : GA c ops x H (f + 1) l Q E S T := by
 refine GA_each (by rw [hr]; simp) fun m hm => ?_
 rw [hr] at hm
 simp only [List.mem_cons, List.not_mem_nil, or_false] at hm
 rcases hm with rfl | rfl
 · exact ⟨oi, hi, hix, ki⟩
 · exact ⟨oj, hj, hjx, kj⟩
end rules
end Go.Bus
