/- Part of the proof: Range. No condition. -/
import Derived.Test.YtlfjioigkojjdaaGreatUBEngd
import Derived.RangeFuncLeaves
import Derived.RangeFuncRecord
import Derived.TacticsIn
set_option linter.unusedVariables false
set_option linter.unusedSimpArgs false
namespace Go.Bus
open Go
def Open (F : Fence) : Prop := F = Fence.wide ∨ ∃ l, F = Fence.wide.inRound l
theorem Open.fn {F : Fence} (h : Open F) (f : FuncId) : F.fn f := by rcases h with rfl | ⟨l, rfl⟩ <;> trivial
theorem Open.depth {F : Fence} (h : Open F) : F.depth = none := by rcases h with rfl | ⟨l, rfl⟩ <;> rfl
theorem Open.calls {F : Fence} (h : Open F) {n : Nat} {P : Program} {f : FuncId} {args : Array Value} {w : World} {R : Ending → World → Prop} (hc : Calls P f args w R) : CallsIn F n P f args w R := by
 have h0 : CallsIn Fence.wide n P f args w R := callsIn_wide.2 hc
 rcases h with rfl | ⟨l, rfl⟩
 · exact h0
 · exact h0
theorem Open.rows {F : Fence} (h : Open F) {n : Nat} {P : Program} {row : String} {args : Array Value} {w : World} {R : Value → World → Prop} (hc : Rows P row args w R) : RowsIn F n P row args w R := by
 have h0 : RowsIn Fence.wide n P row args w R := fun c cs _ => let ⟨v, w', r, s⟩ := hc c cs; ⟨v, w', r, stepsIn_wide.2 s⟩
 rcases h with rfl | ⟨l, rfl⟩
 · exact h0
 · exact h0
theorem upon_in {F : Fence} (hF : Open F) {n : Nat} {P : Program} {o : Oper} {a : Act} {next : Act → World → Prop} {Q : Exit → Act → World → Prop} : ∀ r : Result Next, o.upon P a next Q r → o.uponIn F n P a next Q r
 | .ok (.value u) w', h => h
 | .ok .skip w', h => h
 | .ok (.defer q) w', h => h
 | .ok (.enter f args) w', h => by
  rw [Oper.upon_enter] at h
  rw [Oper.uponIn_enter]
  exact ⟨fun hd => (by rw [hF.depth] at hd; cases hd), hF.calls h⟩
 | .ok (.row row args) w', h => by
  rw [Oper.uponIn_row]
  exact ⟨fun hd => (by rw [hF.depth] at hd; cases hd), hF.rows h⟩
 | .halt (.panic u) w', h => h
theorem opIn_of_wp {F : Fence} (hF : Open F) {n : Nat} {P : Program} {o : Oper} {a : Act} {w : World} {next : Act → World → Prop} {Q : Exit → Act → World → Prop} (hnd : ∀ c, o.op ≠ .defer c) (h : o.wp P a w next Q) : o.wpIn F n P a w next Q := by
 refine ⟨fun f _ => hF.fn f, ?_⟩
 rw [Oper.semAt_eq _ _ _ hnd]
 exact upon_in hF _ h
def noDefer (l : List Oper) : Bool := l.all fun o => match o.op with | .defer _ => false | _ => true
theorem listIn_of_wp {F : Fence} (hF : Open F) {n : Nat} {P : Program} {ops : Array Oper} {Q : Exit → Act → World → Prop} (hno : ¬ LetsOut Q) : ∀ (l : List Oper) (a : Act) (w : World), noDefer l = true → wpList P ops Q l a w → wpListIn F n P ops Q l a w := by
 intro l
 induction l with
 | nil => intro a w _ h; exact h
 | cons o l ih =>
  intro a w hnd h
  simp only [noDefer, List.all_cons, Bool.and_eq_true] at hnd
  simp only [wpList] at h
  simp only [wpListIn]
  by_cases hw : Region.wanted o (yielded ops a.tmps) = true
  · rw [if_pos hw] at h ⊢
    rcases h with h | ⟨_, h⟩
    · refine opIn_of_wp hF (fun c e => ?_) (wp_monoQ (fun a w k => ih a w hnd.2 k) (fun _ _ _ q => q) (fun _ _ q => q) h)
      have := hnd.1
      rw [e] at this; simp at this
    · exact absurd h hno
  · rw [if_neg hw] at h ⊢
    exact ⟨fun f _ => hF.fn f, ih _ _ hnd.2 h⟩
structure YCt (P : Program) (L : Nat) (args : List Value) (S T : List Res) (R : Value → List Res → List Res → Prop) : Prop where
 out : ∀ w, Sat w S T → ∃ fn tmps assign body, (Instr.yield L args.toArray).run P w = .ok (.round L fn tmps assign body) w ∧ ∀ n, RoundIn Fence.wide n P L fn tmps assign body w fun e w' => ∃ v S' T', e = .returned v ∧ R v S' T' ∧ Turn w w' S S' T' T
def GLW (c : Ctx) (ops : Array Oper) (l : List Oper) (Q : Post) (E : Env) (S T : List Res) : Prop := ∀ w a, Rd a c E → St c w S T → wpListIn Fence.wide 9 c.P ops (post c Q) l a w
def NoOut (Q : Post) : Prop := ∀ E S T, ¬ Q .outgrown E S T
class NoOutC (Q : Post) : Prop where
 out : NoOut Q
instance noOSq {K : Env → List Res → List Res → Prop} {Q : Post} [h : NoOutC Q] : NoOutC (Sq K Q) := ⟨fun E S T k => h.out E S T k⟩
instance noOBl {id : Nat} {Q : Post} [h : NoOutC Q] : NoOutC (Bl id Q) := ⟨fun E S T k => h.out E S T k⟩
instance noOFin {fn : Func} {P : Program} {c : Ctx} {R : Value → List Res → List Res → Prop} : NoOutC (Fin fn P c R) := ⟨fun E S T k => by rcases k.1 with h | h <;> cases h⟩
section rules
variable {c : Ctx} {Q : Post} {E : Env} {S T : List Res} {ops : Array Oper} {rest : List Oper}
theorem GC_regionW {id : Nat} {l : List Oper} (h : GLW c l.toArray l Q E S T) : GC c (.region id l.toArray false) Q E S T := fun w a hr hs => wpIn_wide.1 (wpIn_region_lit (h w a hr hs))
theorem GLW_nil (h : Q .normal E S T) : GLW c ops [] Q E S T := fun w a hr hs => ⟨E, S, T, hr, hs, h⟩
theorem GLW_step {o : Oper} [ho : NoOutC Q] (hnd : noDefer [o] = true) (h : GL c ops [o] (Sq (fun E S T => GLW c ops rest Q E S T) Q) E S T) : GLW c ops (o :: rest) Q E S T := fun w a hr hs => by
 have hk := h w a hr hs
 simp only [wpList] at hk
 simp only [wpListIn]
 have conv : ∀ a' w', post c (Sq (fun E S T => GLW c ops rest Q E S T) Q) .normal a' w' → wpListIn Fence.wide 9 c.P ops (post c Q) rest a' w' := by
  rintro a' w' ⟨E', S', T', r1, r2, r3⟩
  exact r3 w' a' r1 r2
 by_cases hw : Region.wanted o (yielded ops a.tmps) = true
 · rw [if_pos hw] at hk ⊢
   rcases hk with hk | ⟨_, hk⟩
   · refine opIn_of_wp (.inl rfl) (fun c e => ?_) (wp_monoQ conv (fun _ _ _ q => q) (fun _ _ q => q) hk)
     simp only [noDefer, List.all_cons, List.all_nil, Bool.and_true] at hnd
     rw [e] at hnd; simp at hnd
   · obtain ⟨a', w', E', S', T', _, _, k⟩ := hk
     exact absurd k (ho.out E' S' T')
 · rw [if_neg hw] at hk ⊢
   exact ⟨fun f _ => trivial, conv _ _ hk⟩
theorem GLW_yield {x : Operand} {xs : List Operand} {ats : Array TypeId} {d : Nat} {ty : TypeId} {pos : String} {af : Array Edge} {L : Nat} {args : List Value} {S1 T1 r : List Res} {R : Value → List Res → List Res → Prop} {j s : Nat} {want g : Bool} (hd : Nat.blt d c.n = true) (hj : (ops[j]?).bind (·.dst) = some s) (hg : Gv (E s) want g)
 (hx : g = true → ev E x = .func (.yield L) #[] #[]) (ha : g = true → evs E xs = args) (hc : g = true → YCt c.P L args S1 T1 R) (hp : Pull S S1 r) (ht : Sub T1 T)
 (kt : g = true → ∀ v S' T', R v S' T' → GLW c ops rest Q (upd E d v) (S' ++ r) (T' ++ T)) (kf : g = false → GLW c ops rest Q (upd E d undef) S T) :
 GLW c ops (⟨some d, .call { callee := .value x, args := xs.toArray, argTypes := ats }, ty, pos, af, some (j, want)⟩ :: rest) Q E S T := fun w a hr hs => by
 have hw := wanted_of (ops := ops) (o := ⟨some d, .call { callee := .value x, args := xs.toArray, argTypes := ats }, ty, pos, af, some (j, want)⟩) hr rfl hj hg
 simp only [wpListIn]
 rw [hw]
 cases g with
 | false =>
  rw [if_neg (by simp)]
  exact ⟨fun f _ => trivial, kf rfl w _ (hr.put hd undef) hs⟩
 | true =>
  rw [if_pos rfl]
  obtain ⟨fn, tmps, assign, body, hy, hround⟩ := (hc rfl).out w ((hs.sat.sub hp).subT ht.mem)
  refine ⟨fun f _ => trivial, ?_⟩
  rw [Oper.semAt_eq _ _ _ (fun c e => by cases e)]
  have hargs : xs.toArray.map (ev E) = args.toArray := by rw [← ha rfl, evs_eq]; simp
  have hrun : (execOp a.eval ⟨some d, .call { callee := .value x, args := xs.toArray, argTypes := ats }, ty, pos, af, some (j, want)⟩).run c.P w = .ok (.round L fn tmps assign body) w := by
   simp only [execOp, resolve, Deferred.ofValue, hr.eval, hx rfl, Sem.run_bind, Sem.run_pure, Result.andThen_ok, invoke, hargs]
   simpa using hy
  rw [hrun, Oper.uponIn_round]
  refine ⟨fun h => (by cases h), (hround _).mono ?_⟩
  rintro e w' ⟨v, S', T', rfl, hR, hn⟩
  exact kt rfl v S' T' hR w' _ (hr.put hd v) (hs.turn hp ht.mem hn)
end rules
def SwapP (R R' : Res) (S S' : List Res) : Prop := ∃ r, Ins R r S ∧ Ins R' r S'
theorem swapP {R R' : Res} {S S' : List Res} [h : Swap R R' S S'] : SwapP R R' S S' := h.out
theorem St.swapP {c : Ctx} {w w' : World} {S S' T : List Res} {R R' : Res} (h : St c w S T) (hs : SwapP R R' S S') (hn : Turn w w' [R] [R'] [] []) : St c w' S' T := @St.swap c w w' S S' T R R' h ⟨hs⟩ hn
theorem SwapP.ok {R R' : Res} {S S' T : List Res} (h : SwapP R R' S S') {c : Ctx} {w : World} (hs : St c w S T) : R.ok w := by
 obtain ⟨r, h1, h2⟩ := h
 exact hs.sat.okS R ((h1.mem R).2 (.inl rfl))
theorem turn_obj {w : World} {L : Nat} {o : Obj} (o' : Obj) (h : (obj L o).ok w) : Turn w (w.putObj L o') [obj L o] [obj L o'] [] [] := by
 rw [obj_ok] at h
 have hlt : L < w.heap.size := (Array.getElem?_eq_some_iff.1 h).1
 refine Turn.one w _ _ _ ⟨rfl, rfl, rfl, by simp, fun b hb hM => ?_⟩ (obj_ok.2 (World.putObj_heap_same hlt)) (fun b hb => .inl (obj_fp.2 (obj_fp.1 hb)))
 exact World.putObj_heap_other (fun e => hM (obj_fp.2 e))
def recL (f : FuncId) (tm : Array Value) (p : Tmp) (ida : Nat) (la : List Oper) (bid idb : Nat) (lb : List Oper) (D : Nat) (st : LoopState) : Loop :=
 { state := st, pending := none, fn := f, tmps := tm, params := #[p], assign := .region ida la.toArray false, body := .block bid (.region idb lb.toArray false), defers := D }
def BodyQ (busy ready : Res) (R : Value → List Res → List Res → Prop) : Post := fun e E S T => e = .normal ∧ ∃ S3 S' T' r, SwapP busy ready S S3 ∧ Pull S3 S' r ∧ Sub T' T ∧ R (.bool true) S' T'
def AssignQ (c : Ctx) (busy ready : Res) (lb : List Oper) (R : Value → List Res → List Res → Prop) : Post := fun e E S T => e = .normal ∧ ∃ S', SwapP ready busy S S' ∧ GL c lb.toArray lb (BodyQ busy ready R) E S' T
theorem YCt_of {P : Program} {n L D : Nat} {f : FuncId} {tm : Array Value} {p : Tmp} {ida bid idb : Nat} {la lb : List Oper} {E : Env} {x : Value} {S1 T : List Res} {R : Value → List Res → List Res → Prop}
 (htm : tm.size = n) (hE : ∀ i, tm.getD i undef = E i) (hp : Nat.blt p n = true) (hla : noDefer la = true) (hlb : noDefer lb = true)
 (h : ∀ (w0 : World) (M N : Nat → Prop), GL ⟨P, n, w0, M, N, []⟩ la.toArray la (AssignQ ⟨P, n, w0, M, N, []⟩ (obj L (.loop (recL f tm p ida la bid idb lb D .busy))) (obj L (.loop (recL f tm p ida la bid idb lb D .ready))) lb R) (upd E p x) (obj L (.loop (recL f tm p ida la bid idb lb D .ready)) :: S1) T) :
 YCt P L [x] (obj L (.loop (recL f tm p ida la bid idb lb D .ready)) :: S1) T R := ⟨fun w hs => by
 have hl : w.heap[L]? = some (.loop (recL f tm p ida la bid idb lb D .ready)) := obj_ok.1 (hs.okS _ (List.mem_cons_self ..))
 have hy := run_yield (P := P) (args := [x].toArray) hl rfl
 refine ⟨_, _, _, _, hy, fun m => roundIn_of_wpIn trivial ?_⟩
 obtain ⟨c, hc⟩ : ∃ c : Ctx, c = ⟨P, n, w, fpl (obj L (.loop (recL f tm p ida la bid idb lb D .ready)) :: S1), fpl T, []⟩ := ⟨_, rfl⟩
 have hst : St c w (obj L (.loop (recL f tm p ida la bid idb lb D .ready)) :: S1) T := by
  rw [hc]; exact ⟨Go1.refl _ w, hs, fun x hx b hb => .inl ⟨x, hx, hb⟩, fun x hx b hb => .inr (.inr ⟨x, hx, hb⟩)⟩
 have hlt : p < n := by simpa using hp
 have hrd : Rd { tmps := (((recL f tm p ida la bid idb lb D .ready).params.zip [x].toArray).foldl (fun tmps (t, a) => tmps.setIfInBounds t a) (recL f tm p ida la bid idb lb D .ready).tmps), defers := [] } c (upd E p x) := by
  rw [hc]
  refine ⟨rfl, by simp [recL, htm], fun i => ?_⟩
  simp only [recL, upd]
  by_cases hi : i = p
  · subst hi; simp [htm, hlt]
  · have hb : Nat.beq i p = false := by
     cases e : Nat.beq i p with
     | false => rfl
     | true => exact absurd (Nat.eq_of_beq_eq_true e) hi
    rw [hb, cond_false, ← hE i]
    simp [Ne.symm hi]
 have hw := h w (fpl (obj L (.loop (recL f tm p ida la bid idb lb D .ready)) :: S1)) (fpl T)
 rw [← hc] at hw
 have hcP : c.P = P := by rw [hc]
 have h1 := hw w _ hrd hst
 rw [hcP] at h1
 refine wpIn_mono (wpIn_region_lit (listIn_of_wp (.inr ⟨L, rfl⟩) (by rintro ⟨a, w, E, S, T, _, _, k⟩; cases k.1) la _ w hla h1)) ?_
 rintro e a1 w1 ⟨E1, S2, T2, hr1, hs1, he, S3, hsw, hb⟩
 subst he
 have hl1 := obj_ok.1 (hsw.ok hs1)
 refine ⟨_, run_beginRound hl1 rfl, ?_⟩
 have hs2 : St c (w1.putObj L (.loop (recL f tm p ida la bid idb lb D .busy))) S3 T2 := hs1.swapP hsw (turn_obj _ (hsw.ok hs1))
 have h2 := hb _ a1 hr1 hs2
 rw [hcP] at h2
 refine wpIn_block (wpIn_mono (wpIn_region_lit (listIn_of_wp (.inr ⟨L, rfl⟩) (by rintro ⟨a, w, E, S, T, _, _, k⟩; cases k.1) lb _ _ hlb h2)) ?_)
 rintro e a3 w3 ⟨E3, S4, T3, hr3, hs3, he, S5, S', T', r, hsw3, hpl, hsub, hR⟩
 subst he
 have hl3 := obj_ok.1 (hsw3.ok hs3)
 refine ⟨_, _, run_endRound none hl3, _, S', T', rfl, hR, ?_⟩
 have hs5 : St c (w3.putObj L (.loop (recL f tm p ida la bid idb lb D .ready))) S5 T3 := hs3.swapP hsw3 (turn_obj _ (hsw3.ok hs3))
 rw [hc] at hs5
 exact ⟨hs5.go, (hs5.sat.sub hpl).subT hsub.mem, fun x hx => hs5.own x ((hpl.mem x).2 (.inl hx)), fun x hx => hs5.seen x (hsub.mem x hx)⟩⟩
def GX (c : Ctx) (code : Code) (QQ : Exit → Act → World → Prop) (E : Env) (S T : List Res) : Prop := ∀ w a, Rd a c E → St c w S T → code.wp c.P QQ a w
theorem GX_seq {c : Ctx} {x y : Code} {Qf : Post} {QQ : Exit → Act → World → Prop} {E : Env} {S T : List Res} (hq : ∀ e a w, e ≠ .normal → post c Qf e a w → QQ e a w) (h : GC c x (Sq (fun E S T => GX c y QQ E S T) Qf) E S T) : GX c (.seq x y) QQ E S T := fun w a hr hs => by
 refine wp_seq (wp_mono (h w a hr hs) ?_)
 rintro e a' w' ⟨E', S', T', hr', hs', hk⟩
 cases e <;> first | exact hk w' a' hr' hs' | exact hq _ a' w' (by simp) ⟨E', S', T', hr', hs', hk⟩
theorem GX_of {c : Ctx} {x : Code} {Qf : Post} {QQ : Exit → Act → World → Prop} {E : Env} {S T : List Res} (hq : ∀ e a w, post c Qf e a w → QQ e a w) (h : GC c x Qf E S T) : GX c x QQ E S T := fun w a hr hs => wp_mono (h w a hr hs) hq
abbrev markD (D : Nat) : Deferred := { target := .collected D, args := #[] }
theorem GX_rangeB {c : Ctx} (hds : c.ds = []) {id ida bid idb p gf : Nat} {la lb : List Oper} {g : Operand} {QQ : Exit → Act → World → Prop} {E : Env} {S T S1 T1 r : List Res} {lbv : List Value} {R : List Res → List Res → Prop}
 (hg : ev E g = .func (.func gf) [].toArray lbv.toArray) (hcb : Cb c.P gf) (hp : Pull S S1 r) (ht : Sub T1 T)
 (hseq : ∀ (L D f : Nat) (tm : Array Value), tm.size = c.n → (∀ i, tm.getD i undef = E i) → Ct c.P gf (.func (.yield L) #[] #[] :: lbv) (obj L (.loop (recL f tm p ida la bid idb lb D .ready)) :: obj D (.deferred (some [])) :: S1) T1 (fun v S' T' => ∃ S2, S' = obj L (.loop (recL f tm p ida la bid idb lb D .ready)) :: obj D (.deferred (some [])) :: S2 ∧ R S2 T'))
 (k : ∀ (L D : Nat) (o : Obj) (S2 T' : List Res), R S2 T' → ∀ w a, Rd a { c with ds := [markD D] } E → St { c with ds := [markD D] } w (obj L o :: obj D (.deferred (some [])) :: (S2 ++ r)) (T' ++ T) → QQ .normal a w) :
 GX c (.block id (.rangeFunc g #[p] (.region ida la.toArray false) (.block bid (.region idb lb.toArray false)))) QQ E S T := fun w a hr hs => by
 obtain ⟨Q0, hQ0⟩ : ∃ Q0 : Exit → Act → World → Prop, Q0 = fun e a' w' => e = .normal ∧ QQ .normal a' w' := ⟨_, rfl⟩
 refine (wp_block (wp_mono (Q := Q0) (wpIn_wide.1 (wpIn_rangeFunc (n := 9) ?_)) ?_))
 · intro fn _
   obtain ⟨rec, hrec⟩ : ∃ rec : Loop, rec = recL fn a.tmps p ida la bid idb lb w.heap.size .ready := ⟨_, rfl⟩
   obtain ⟨W1, hW1⟩ : ∃ W1, (w.alloc (.deferred (some []))).alloc (.loop rec) = W1 := ⟨_, rfl⟩
   have hs0 : St c (w.alloc (.deferred (some []))) (obj w.heap.size (.deferred (some [])) :: S) T := hs.newObj _
   have hs1 : St c W1 (obj (w.heap.size + 1) (.loop rec) :: obj w.heap.size (.deferred (some [])) :: S) T := by
    rw [← hW1]
    have := hs0.newObj (.loop rec)
    rwa [World.size_alloc] at this
   refine ⟨w.heap.size + 1, [markD w.heap.size], W1, { target := .fn (.func gf) lbv.toArray, args := #[.func (.yield (w.heap.size + 1)) #[] #[]] }, W1, gf, (.func (.yield (w.heap.size + 1)) #[] #[] :: lbv).toArray, W1, ?_, ?_, fun _ _ => trivial, ?_, (fun h => by cases h), ?_⟩
   · rw [← hW1, hrec]; exact run_enterLoop_outer _ _ _ _ _
   · simp only [resolve, hr.eval, hg, Deferred.ofValue, Sem.run_bind, Sem.run_pure, Result.andThen_ok]
     simp [ev]
   · simp only [invoke]
     have := run_callFunc hcb (.func (.yield (w.heap.size + 1)) #[] #[] :: lbv).toArray W1
     simpa using this
   · refine callsIn_wide.2 ?_
     have hpl : Pull (obj (w.heap.size + 1) (.loop rec) :: obj w.heap.size (.deferred (some [])) :: S) (obj (w.heap.size + 1) (.loop rec) :: obj w.heap.size (.deferred (some [])) :: S1) r := .cons .here (.cons .here hp)
     have hct := hseq (w.heap.size + 1) w.heap.size fn a.tmps hr.size hr.at_
     rw [← hrec] at hct
     refine (hct.out W1 ((hs1.sat.sub hpl).subT ht.mem)).mono ?_
     rintro e w2 ⟨v, S', T', rfl, ⟨S2, rfl, hR⟩, hn⟩
     have hs2 := hs1.turn hpl ht.mem hn
     have hl := obj_ok.1 (hs2.sat.okS _ (List.mem_cons_self ..))
     have hend := run_endLoop (P := c.P) hl (by rw [hrec]; simp [recL])
     have hpend : rec.pending = none := by rw [hrec]; rfl
     rw [hpend] at hend
     refine ⟨none, _, hend, ?_⟩
     simp only
     rw [hQ0]
     refine ⟨rfl, ?_⟩
     have hs4 := hs2.swapP (S' := obj (w.heap.size + 1) (.loop { rec with state := .exhausted, pending := none }) :: obj w.heap.size (.deferred (some [])) :: (S2 ++ r)) ⟨_, .here, .here⟩ (turn_obj (.loop { rec with state := .exhausted, pending := none }) (hs2.sat.okS _ (List.mem_cons_self ..)))
     refine k _ _ _ S2 T' hR _ _ ⟨?_, hr.size, hr.at_⟩ ⟨hs4.go, hs4.sat, hs4.own, hs4.seen⟩
     show [markD w.heap.size] ++ a.defers = [markD w.heap.size]
     rw [hr.dfr, hds]; rfl
 · rw [hQ0]
   rintro e a' w' ⟨rfl, h⟩
   exact h
theorem GX_seqL {c : Ctx} {x y z : Code} {Qf : Post} {QQ : Exit → Act → World → Prop} {E : Env} {S T : List Res} (hq : ∀ e a w, e ≠ .normal → post c Qf e a w → QQ e a w) (h : GC c x (Sq (fun E S T => GX c y (Exit.then (fun a w => z.wp c.P QQ a w) QQ) E S T) Qf) E S T) : GX c (.seq (.seq x y) z) QQ E S T := fun w a hr hs => by
 refine wp_seq (wp_seq (wp_mono (h w a hr hs) ?_))
 rintro e a' w' ⟨E', S', T', hr', hs', hk⟩
 cases e <;> first | exact hk w' a' hr' hs' | exact hq _ a' w' (by simp) ⟨E', S', T', hr', hs', hk⟩
def FinD (fn : Func) (P : Program) (c : Ctx) (D : Nat) (R : Value → List Res → List Res → Prop) : Post := fun e E S T => ∃ S0, SwapP (obj D (.deferred (some []))) (obj D (.deferred none)) S S0 ∧ Fin fn P c R e E S0 T
instance noPFinD {fn : Func} {P : Program} {c : Ctx} {D : Nat} {R : Value → List Res → List Res → Prop} : NoPanic (FinD fn P c D R) := ⟨fun ch E S T ⟨S0, _, k⟩ => by rcases k.1 with h | h <;> cases h⟩
theorem Ct_ofM {P : Program} {f : FuncId} {fn : Func} {code : Code} {args : List Value} {S T : List Res} {R : Value → List Res → List Res → Prop} (hf : P.funcs[f]? = some fn) (hb : fn.body = some code) (n : Nat) (hn : fn.ntmps = n) (ha : args.length ≤ n)
 (h : ∀ (w0 : World) (M N : Nat → Prop) (QQ : Exit → Act → World → Prop), (∀ e a w, post ⟨P, n, w0, M, N, []⟩ (Fin fn P ⟨P, n, w0, M, N, []⟩ R) e a w → QQ e a w) → (∀ D e a w, post ⟨P, n, w0, M, N, [markD D]⟩ (FinD fn P ⟨P, n, w0, M, N, [markD D]⟩ D R) e a w → QQ e a w) →
  GX ⟨P, n, w0, M, N, []⟩ code QQ (env args) S T) : Ct P f args S T R := by
 refine ⟨fun w hs => ?_⟩
 subst hn
 refine callsIn_wide.1 (callsIn_of_wp_marks (F := Fence.wide) (n := 9) hf hb trivial (wpIn_wide.2 (h w (fpl S) (fpl T) _ ?_ ?_ w _ ⟨rfl, ?_, ?_⟩ ⟨Go1.refl _ w, hs, fun x hx b hb => .inl ⟨x, hx, hb⟩, fun x hx b hb => .inr (.inr ⟨x, hx, hb⟩)⟩)))
 · rintro e a w' ⟨E, S1, T1, hr, hs1, he, hq⟩
   obtain ⟨v, S', T', r, h1, h2, h3, h4⟩ := hq w' a hr hs1
   have hd : a.defers = [] := hr.dfr
   have hl : LeavesInM Fence.wide 9 P fn a.tmps (fun e w' => ∃ v S' T', e = .returned v ∧ R v S' T' ∧ Turn w w' S S' T' T) a.defers .returning w' := by
    rw [hd]
    exact ⟨v, h1, v, S', T', rfl, h4, ⟨hs1.go, (hs1.sat.sub h2).subT h3, fun x hx => hs1.own x ((h2.mem x).2 (.inl hx)), fun x hx => hs1.seen x (h3 x hx)⟩⟩
   rcases he with rfl | rfl <;> exact hl
 · rintro D e a w' ⟨E, S1, T1, hr, hs1, S0, hsw, he, hq⟩
   have hD := hsw.ok hs1
   have hs2 : St ⟨P, fn.ntmps, w, fpl S, fpl T, [markD D]⟩ (w'.putObj D (.deferred none)) S0 T1 := hs1.swapP hsw (turn_obj _ hD)
   obtain ⟨v, S', T', r, h1, h2, h3, h4⟩ := hq _ a hr hs2
   have hd : a.defers = [markD D] := hr.dfr
   have hl : LeavesInM Fence.wide 9 P fn a.tmps (fun e w' => ∃ v S' T', e = .returned v ∧ R v S' T' ∧ Turn w w' S S' T' T) a.defers .returning w' := by
    rw [hd]
    refine ⟨by simp, .inl ⟨D, _, rfl, run_takeDeferred (obj_ok.1 hD), ?_⟩⟩
    exact ⟨v, h1, v, S', T', rfl, h4, ⟨hs2.go, (hs2.sat.sub h2).subT h3, fun x hx => hs2.own x ((h2.mem x).2 (.inl hx)), fun x hx => hs2.seen x (h3 x hx)⟩⟩
   rcases he with rfl | rfl <;> exact hl
 · simp; omega
 · intro i
   rw [env_eq]
   simp only [List.append_toArray, Array.getD_eq_getD_getElem?, List.getD_eq_getElem?_getD]
   by_cases hi : i < args.length
   · simp [Array.getElem?_append, hi]
   · simp only [List.size_toArray, Array.getElem?_append, hi, if_false]
     rw [List.getElem?_eq_none (by omega : args.length ≤ i)]
     simp only [Array.getElem?_replicate]
     split <;> rfl
end Go.Bus
