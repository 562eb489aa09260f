/- Part of the proof: Eng. No condition. -/
import Derived.WalkKit
import Derived.Orders
import Derived.Deep.LoopGhost
import Derived.Maps.AppendAt
set_option linter.unusedVariables false
set_option linter.unusedSimpArgs false
namespace Go.Bus
open Go
abbrev Env := Nat → Value
def ev (E : Env) : Operand → Value
 | .tmp t => E t
 | .const v => v
 | .global g => .pointer (some ⟨g, 0, none⟩)
 | .func f => .func (.func f) #[] #[]
def evs (E : Env) : List Operand → List Value
 | [] => []
 | x :: l => ev E x :: evs E l
def upd (E : Env) (d : Nat) (v : Value) : Env := fun i => bif Nat.beq i d then v else E i
def env : List Value → Nat → Value
 | [], _ => undef
 | v :: _, 0 => v
 | _ :: l, i + 1 => env l i
def put : List Value → Nat → Value → List Value
 | [], _, _ => []
 | _ :: l, 0, v => v :: l
 | u :: l, i + 1, v => u :: put l i v
theorem env_eq (l : List Value) (i : Nat) : env l i = l.getD i undef := by
 induction l generalizing i with
 | nil => rfl
 | cons u l ih => cases i with
  | zero => rfl
  | succ i => simp [env, ih]
theorem evs_eq (E : Env) (l : List Operand) : evs E l = l.map (ev E) := by
 induction l with
 | nil => rfl
 | cons x l ih => simp [evs, ih]
structure Ctx where
 P : Program
 n : Nat
 w0 : World
 M : Nat → Prop
 N : Nat → Prop
 ds : List Deferred := []
structure Rd (a : Act) (c : Ctx) (E : Env) : Prop where
 dfr : a.defers = c.ds
 size : a.tmps.size = c.n
 at_ : ∀ i, a.tmps.getD i undef = E i
theorem Rd.eval {a : Act} {n : Ctx} {E : Env} (h : Rd a n E) : a.eval = ev E := by
 funext x
 cases x with
 | tmp t => exact h.at_ t
 | _ => rfl
theorem Rd.put {a : Act} {n : Ctx} {E : Env} (h : Rd a n E) {d : Nat} (hd : Nat.blt d n.n = true) (v : Value) : Rd (a.put (some d) v) n (upd E d v) := by
 have hlt : d < a.tmps.size := by rw [h.size]; simpa using hd
 refine ⟨h.dfr, by simp [Act.put, h.size], fun i => ?_⟩
 by_cases hi : i = d
 · subst hi
   simp [Act.put, upd, hlt]
 · have hb : Nat.beq i d = false := by
    cases e : Nat.beq i d with
    | false => rfl
    | true => exact absurd (Nat.eq_of_beq_eq_true e) hi
   simp only [upd, hb, cond_false]
   rw [← h.at_ i]
   simp [Act.put, Ne.symm hi]
theorem Rd.none {a : Act} {n : Ctx} {E : Env} (h : Rd a n E) (v : Value) : Rd (a.put none v) n E := h
structure Res where
 fp : Nat → Prop
 ok : World → Prop
 loc : ∀ w w' : World, (∀ b, fp b → w'.heap[b]? = w.heap[b]?) → ok w → ok w'
 dom : ∀ w : World, ok w → ∀ b, fp b → b < w.heap.size
def Apart (R R' : Res) : Prop := ∀ b, R.fp b → R'.fp b → False
def fpl (l : List Res) (b : Nat) : Prop := ∃ R ∈ l, R.fp b
structure Sat (w : World) (S T : List Res) : Prop where
 okS : ∀ R ∈ S, R.ok w
 okT : ∀ R ∈ T, R.ok w
 sep : S.Pairwise Apart
 sepT : ∀ R ∈ S, ∀ R' ∈ T, Apart R R'
structure Go1 (M : Nat → Prop) (w w' : World) : Prop where
 os : w'.os = w.os
 tape : w'.tape = w.tape
 output : w'.output = w.output
 size : w.heap.size ≤ w'.heap.size
 keep : ∀ b, b < w.heap.size → ¬ M b → w'.heap[b]? = w.heap[b]?
theorem Go1.refl (M : Nat → Prop) (w : World) : Go1 M w w := ⟨rfl, rfl, rfl, Nat.le_refl _, fun _ _ _ => rfl⟩
structure St (c : Ctx) (w : World) (S T : List Res) : Prop where
 go : Go1 c.M c.w0 w
 sat : Sat w S T
 own : ∀ R ∈ S, ∀ b, R.fp b → c.M b ∨ c.w0.heap.size ≤ b
 seen : ∀ R ∈ T, ∀ b, R.fp b → c.M b ∨ c.w0.heap.size ≤ b ∨ c.N b
theorem St.same {c : Ctx} {w w' : World} {S T : List Res} (h : St c w S T) (hh : w'.heap = w.heap) (ho : w'.os = w.os) (ht : w'.tape = w.tape) (hp : w'.output = w.output) : St c w' S T := by
 refine ⟨⟨ho.trans h.go.os, ht.trans h.go.tape, hp.trans h.go.output, by rw [hh]; exact h.go.size, fun b hb hM => by rw [hh]; exact h.go.keep b hb hM⟩, ⟨fun R hR => R.loc w w' (fun b _ => by rw [hh]) (h.sat.okS R hR), fun R hR => R.loc w w' (fun b _ => by rw [hh]) (h.sat.okT R hR), h.sat.sep, h.sat.sepT⟩, h.own, h.seen⟩
structure Turn (w w' : World) (S S' T' T : List Res) : Prop where
 go : Go1 (fpl S) w w'
 sat : Sat w' S' T'
 own : ∀ R ∈ S', ∀ b, R.fp b → fpl S b ∨ w.heap.size ≤ b
 seen : ∀ R ∈ T', ∀ b, R.fp b → fpl S b ∨ w.heap.size ≤ b ∨ fpl T b
inductive Ins (R : Res) : List Res → List Res → Prop
 | here {l : List Res} : Ins R l (R :: l)
 | there {x : Res} {l l' : List Res} : Ins R l l' → Ins R (x :: l) (x :: l')
inductive Pull : List Res → List Res → List Res → Prop
 | nil {l : List Res} : Pull l [] l
 | cons {R : Res} {l l' s r : List Res} : Ins R l' l → Pull l' s r → Pull l (R :: s) r
inductive Sub : List Res → List Res → Prop
 | nil {l : List Res} : Sub [] l
 | cons {R : Res} {s l : List Res} : R ∈ l → Sub s l → Sub (R :: s) l
theorem Ins.mem {R : Res} {l l' : List Res} (h : Ins R l l') : ∀ x, x ∈ l' ↔ x = R ∨ x ∈ l := by
 induction h with
 | here => intro x; simp
 | there _ ih => intro x; simp only [List.mem_cons, ih]; constructor <;> (intro h; rcases h with h | h | h <;> simp [h])
theorem Ins.pair {R : Res} {l l' : List Res} (h : Ins R l l') (hs : l'.Pairwise Apart) : (R :: l).Pairwise Apart := by
 induction h with
 | here => exact hs
 | @there x l l' hi ih =>
  simp only [List.pairwise_cons] at hs ih ⊢
  have ih' := ih hs.2
  refine ⟨fun y hy => ?_, fun y hy => hs.1 y ((hi.mem y).2 (.inr hy)), ih'.2⟩
  rcases List.mem_cons.1 hy with rfl | hy
  · have := hs.1 R ((hi.mem R).2 (.inl rfl))
    exact fun b h1 h2 => this b h2 h1
  · exact ih'.1 y hy
theorem Pull.mem {l s r : List Res} (h : Pull l s r) : ∀ x, x ∈ l ↔ x ∈ s ∨ x ∈ r := by
 induction h with
 | nil => intro x; simp
 | cons hi _ ih => intro x; rw [hi.mem x, ih x]; simp [or_assoc]
theorem Pull.pair {l s r : List Res} (h : Pull l s r) (hs : l.Pairwise Apart) : s.Pairwise Apart ∧ r.Pairwise Apart ∧ ∀ x ∈ s, ∀ y ∈ r, Apart x y := by
 induction h with
 | nil => exact ⟨List.Pairwise.nil, hs, fun x hx => by cases hx⟩
 | @cons R l l' s r hi hp ih =>
  have h1 := hi.pair hs
  rw [List.pairwise_cons] at h1
  obtain ⟨a, b, c⟩ := ih h1.2
  refine ⟨List.pairwise_cons.2 ⟨fun y hy => h1.1 y ((hp.mem y).2 (.inl hy)), a⟩, b, fun x hx y hy => ?_⟩
  rcases List.mem_cons.1 hx with rfl | hx
  · exact h1.1 y ((hp.mem y).2 (.inr hy))
  · exact c x hx y hy
theorem Sub.mem {s l : List Res} (h : Sub s l) : ∀ x ∈ s, x ∈ l := by
 induction h with
 | nil => intro x hx; cases hx
 | cons h _ ih =>
  intro x hx
  rcases List.mem_cons.1 hx with rfl | hx
  · exact h
  · exact ih x hx
theorem St.turn {c : Ctx} {w w' : World} {S T S1 T1 r S' T' : List Res} (h : St c w S T) (hp : Pull S S1 r) (ht : ∀ x ∈ T1, x ∈ T) (hn : Turn w w' S1 S' T' T1) : St c w' (S' ++ r) (T' ++ T) := by
 obtain ⟨p1, p2, p3⟩ := hp.pair h.sat.sep
 have inr : ∀ x ∈ r, x ∈ S := fun x hx => (hp.mem x).2 (.inr hx)
 have ins : ∀ x ∈ S1, x ∈ S := fun x hx => (hp.mem x).2 (.inl hx)
 have apr : ∀ x ∈ r, ∀ b, x.fp b → ¬ fpl S1 b := fun x hx b hb ⟨y, hy, hyb⟩ => p3 y hy x hx b hyb hb
 have apT : ∀ x ∈ T, ∀ b, x.fp b → ¬ fpl S1 b := fun x hx b hb ⟨y, hy, hyb⟩ => h.sat.sepT y (ins y hy) x hx b hyb hb
 have ltr : ∀ x ∈ r, ∀ b, x.fp b → b < w.heap.size := fun x hx => x.dom w (h.sat.okS x (inr x hx))
 have ltT : ∀ x ∈ T, ∀ b, x.fp b → b < w.heap.size := fun x hx => x.dom w (h.sat.okT x hx)
 have okr : ∀ x ∈ r, x.ok w' := fun x hx => x.loc w w' (fun b hb => hn.go.keep b (ltr x hx b hb) (apr x hx b hb)) (h.sat.okS x (inr x hx))
 have okT : ∀ x ∈ T, x.ok w' := fun x hx => x.loc w w' (fun b hb => hn.go.keep b (ltT x hx b hb) (apT x hx b hb)) (h.sat.okT x hx)
 refine ⟨⟨hn.go.os.trans h.go.os, hn.go.tape.trans h.go.tape, hn.go.output.trans h.go.output, Nat.le_trans h.go.size hn.go.size, fun b hb hM => ?_⟩, ⟨?_, ?_, ?_, ?_⟩, ?_, ?_⟩
 · rw [hn.go.keep b (Nat.lt_of_lt_of_le hb h.go.size) ?_]
   · exact h.go.keep b hb hM
   · rintro ⟨y, hy, hyb⟩
     rcases h.own y (ins y hy) b hyb with h1 | h1
     · exact hM h1
     · omega
 · intro x hx
   rcases List.mem_append.1 hx with hx | hx
   · exact hn.sat.okS x hx
   · exact okr x hx
 · intro x hx
   rcases List.mem_append.1 hx with hx | hx
   · exact hn.sat.okT x hx
   · exact okT x hx
 · refine List.pairwise_append.2 ⟨hn.sat.sep, p2, fun x hx y hy b hxb hyb => ?_⟩
   rcases hn.own x hx b hxb with h1 | h1
   · exact apr y hy b hyb h1
   · have := ltr y hy b hyb; omega
 · intro x hx y hy b hxb hyb
   rcases List.mem_append.1 hx with hx | hx <;> rcases List.mem_append.1 hy with hy | hy
   · exact hn.sat.sepT x hx y hy b hxb hyb
   · rcases hn.own x hx b hxb with h1 | h1
     · exact apT y hy b hyb h1
     · have := ltT y hy b hyb; omega
   · rcases hn.seen y hy b hyb with h1 | h1 | ⟨z, hz, hzb⟩
     · exact apr x hx b hxb h1
     · have := ltr x hx b hxb; omega
     · exact h.sat.sepT x (inr x hx) z (ht z hz) b hxb hzb
   · exact h.sat.sepT x (inr x hx) y hy b hxb hyb
 · intro x hx b hb
   rcases List.mem_append.1 hx with hx | hx
   · rcases hn.own x hx b hb with ⟨y, hy, hyb⟩ | h1
     · exact h.own y (ins y hy) b hyb
     · exact .inr (Nat.le_trans h.go.size h1)
   · exact h.own x (inr x hx) b hb
 · intro x hx b hb
   rcases List.mem_append.1 hx with hx | hx
   · rcases hn.seen x hx b hb with ⟨y, hy, hyb⟩ | h1 | ⟨y, hy, hyb⟩
     · rcases h.own y (ins y hy) b hyb with h2 | h2
       · exact .inl h2
       · exact .inr (.inl h2)
     · exact .inr (.inl (Nat.le_trans h.go.size h1))
     · exact h.seen y (ht y hy) b hyb
   · exact h.seen x hx b hb
theorem Turn.refl (w : World) (T : List Res) : Turn w w [] [] [] T :=
 { go := Go1.refl _ w, sat := { okS := fun _ h => absurd h (by simp), okT := fun _ h => absurd h (by simp), sep := List.Pairwise.nil, sepT := fun _ h => absurd h (by simp) }, own := fun _ h => absurd h (by simp), seen := fun _ h => absurd h (by simp) }
abbrev Post := Exit → Env → List Res → List Res → Prop
def post (c : Ctx) (Q : Post) : Exit → Act → World → Prop := fun e a w => ∃ E S T, Rd a c E ∧ St c w S T ∧ Q e E S T
def GC (c : Ctx) (code : Code) (Q : Post) (E : Env) (S T : List Res) : Prop := ∀ w a, Rd a c E → St c w S T → code.wp c.P (post c Q) a w
def GL (c : Ctx) (ops : Array Oper) (l : List Oper) (Q : Post) (E : Env) (S T : List Res) : Prop := ∀ w a, Rd a c E → St c w S T → wpList c.P ops (post c Q) l a w
@[reducible] def Sq (K : Env → List Res → List Res → Prop) (Q : Post) : Post
 | .normal, E, S, T => K E S T
 | e, E, S, T => Q e E S T
@[reducible] def Bl (id : Nat) (Q : Post) : Post
 | .exit j, E, S, T => bif Nat.beq j id then Q .normal E S T else Q (.exit j) E S T
 | e, E, S, T => Q e E S T
section rules
variable {c : Ctx} {Q : Post} {E : Env} {S T : List Res}
theorem GC_seq {x y : Code} (h : GC c x (Sq (GC c y Q) Q) E S T) : GC c (.seq x y) Q E S T := fun w a hr hs => by
 refine wp_seq (wp_mono (h w a hr hs) ?_)
 rintro e a' w' ⟨E', S', T', hr', hs', hq⟩
 cases e <;> first | exact hq w' a' hr' hs' | exact ⟨E', S', T', hr', hs', hq⟩
theorem GC_skip (h : Q .normal E S T) : GC c .skip Q E S T := fun w a hr hs => wp_skip ⟨E, S, T, hr, hs, h⟩
theorem GC_ret (h : Q .ret E S T) : GC c .ret Q E S T := fun w a hr hs => wp_ret ⟨E, S, T, hr, hs, h⟩
theorem GC_exit {id : Nat} (h : Q (.exit id) E S T) : GC c (.exit id) Q E S T := fun w a hr hs => wp_exit ⟨E, S, T, hr, hs, h⟩
theorem GC_block {id : Nat} {x : Code} (h : GC c x (Bl id Q) E S T) : GC c (.block id x) Q E S T := fun w a hr hs => by
 refine wp_block (wp_mono (h w a hr hs) ?_)
 rintro e a' w' ⟨E', S', T', hr', hs', hq⟩
 cases e with
 | exit j =>
  simp only [Exit.inBlock]
  by_cases hj : j = id
  · subst hj
    rw [if_pos rfl]
    refine ⟨E', S', T', hr', hs', ?_⟩
    have : Nat.beq j j = true := Nat.beq_refl j
    simpa [Bl, this] using hq
  · rw [if_neg hj]
    refine ⟨E', S', T', hr', hs', ?_⟩
    have : Nat.beq j id = false := by
     cases e : Nat.beq j id with
     | false => rfl
     | true => exact absurd (Nat.eq_of_beq_eq_true e) hj
    simpa [Bl, this] using hq
 | _ => exact ⟨E', S', T', hr', hs', hq⟩
theorem GC_cond {x : Operand} {A B : Code} {t : Bool} (hx : ev E x = .bool t) (h1 : t = true → GC c A Q E S T) (h2 : t = false → GC c B Q E S T) : GC c (.cond x A B) Q E S T := fun w a hr hs =>
 wp_cond_split (by rw [hr.eval]; exact hx) (fun e => h1 e w a hr hs) (fun e => h2 e w a hr hs)
theorem GC_yes {x : Operand} {A B : Code} (hx : ev E x = .bool true) (h1 : GC c A Q E S T) : GC c (.cond x A B) Q E S T := GC_cond hx (fun _ => h1) (fun e => by cases e)
theorem GC_no {x : Operand} {A B : Code} (hx : ev E x = .bool false) (h1 : GC c B Q E S T) : GC c (.cond x A B) Q E S T := GC_cond hx (fun e => by cases e) (fun _ => h1)
theorem GC_mono {x : Code} {Q' : Post} (h : GC c x Q' E S T) (hq : ∀ e E S T, Q' e E S T → Q e E S T) : GC c x Q E S T := fun w a hr hs =>
 wp_mono (h w a hr hs) fun e _ _ ⟨E', S', T', hr', hs', h'⟩ => ⟨E', S', T', hr', hs', hq e E' S' T' h'⟩
theorem GC_loop {α : Type} (I : α → Env → List Res → List Res → Prop) (m : α → Nat) {x : Code} (x0 : α) (h0 : I x0 E S T)
 (h : ∀ x0 E S T, I x0 E S T → GC c x (Sq (fun E S T => ∃ x1, I x1 E S T ∧ m x1 < m x0) Q) E S T) : GC c (.loop x) Q E S T := fun w a hr hs => by
 refine wp_loop_ghost (fun n a w => ∃ x1 E S T, Rd a c E ∧ St c w S T ∧ I x1 E S T ∧ m x1 = n) (m x0) ⟨x0, E, S, T, hr, hs, h0, rfl⟩ ?_
 rintro n a w ⟨x1, E1, S1, T1, hr1, hs1, h1, rfl⟩
 refine wp_mono (h x1 E1 S1 T1 h1 w a hr1 hs1) ?_
 rintro e a' w' ⟨E', S', T', hr', hs', hq⟩
 cases e with
 | normal =>
  obtain ⟨x3, hI, hlt⟩ := hq
  exact ⟨m x3, hlt, x3, E', S', T', hr', hs', hI, rfl⟩
 | _ => exact ⟨E', S', T', hr', hs', hq⟩
theorem GC_region {id : Nat} {l : List Oper} (h : GL c l.toArray l Q E S T) : GC c (.region id l.toArray false) Q E S T := fun w a hr hs => wp_region_lit (h w a hr hs)
theorem GL_nil {ops : Array Oper} (h : Q .normal E S T) : GL c ops [] Q E S T := fun w a hr hs => wpList_nil ⟨E, S, T, hr, hs, h⟩
end rules
def RV (P : Program) (I : World → Prop) (E : Env) (g : Bool) (op : Op) (v : Value) : Prop :=
 g = true → ∀ w, I w → ∀ d ty pos af gd, (execOp (ev E) ⟨d, op, ty, pos, af, gd⟩).run P w = .ok (.value v) w
def Vw (g : Bool) (u v : Value) : Prop := g = true → u = v
@[irreducible] def gd (g : Bool) (v : Value) : Value := bif g then v else undef
theorem gd_true (v : Value) : gd true v = v := by unfold gd; rfl
theorem gd_false (v : Value) : gd false v = undef := by unfold gd; rfl
def InS (c : Ctx) (S T : List Res) (w : World) : Prop := St c w S T
class Imp (g g1 : Bool) : Prop where
 out : g = true → g1 = true
instance (priority := 1000) impSelf {g : Bool} : Imp g g := ⟨id⟩
instance (priority := 900) impR {a b : Bool} : Imp (a && b) b := ⟨fun h => by simp at h; exact h.2⟩
instance (priority := 800) impL {a b g : Bool} [h : Imp a g] : Imp (a && b) g := ⟨fun k => by simp at k; exact h.out k.1⟩
theorem vw {g : Bool} {v : Value} : Vw g v v := fun _ => rfl
theorem vwg {g g1 : Bool} {v : Value} [h : Imp g g1] : Vw g (gd g1 v) v := fun k => by rw [h.out k, gd_true]
def Gv (u : Value) (want : Bool) (g : Bool) : Prop := (match u with | .bool b => b == want | _ => false) = g
theorem gvt {b : Bool} : Gv (.bool b) true b := by cases b <;> rfl
theorem gvf {b : Bool} : Gv (.bool b) false (!b) := by cases b <;> rfl
theorem gvgt {g b : Bool} : Gv (gd g (.bool b)) true (g && b) := by
 cases g
 · rw [gd_false]; rfl
 · rw [gd_true]; cases b <;> rfl
theorem gvgf {g b : Bool} : Gv (gd g (.bool b)) false (g && !b) := by
 cases g
 · rw [gd_false]; rfl
 · rw [gd_true]; cases b <;> rfl
section rules
variable {c : Ctx} {Q : Post} {E : Env} {S T : List Res} {ops : Array Oper} {rest : List Oper} {op : Op} {d : Nat} {ty : TypeId} {pos : String} {af : Array Edge}
theorem GL_v {v : Value} (hd : Nat.blt d c.n = true) (h : RV c.P (InS c S T) E true op v) (k : GL c ops rest Q (upd E d v) S T) :
 GL c ops (⟨some d, op, ty, pos, af, none⟩ :: rest) Q E S T := fun w a hr hs => by
 refine wpList_plain rfl (fun K hK => ?_)
 unfold Oper.wp
 rw [hr.eval, h rfl w hs]
 exact hK _ _ (k w _ (hr.put hd v) hs)
theorem wanted_of {a : Act} {n : Ctx} (hr : Rd a n E) {o : Oper} {j s : Nat} {want g : Bool} (ho : o.guard = some (j, want)) (hj : (ops[j]?).bind (·.dst) = some s) (hg : Gv (E s) want g) :
 Region.wanted o (yielded ops a.tmps) = g := by
 unfold Region.wanted
 rw [ho]
 show (yielded ops a.tmps j == some want) = g
 unfold yielded
 rw [hj]
 show ((match a.tmps[s]? with | some (.bool b) => some b | _ => none) == some want) = g
 have hs := hr.at_ s
 rw [Array.getD_eq_getD_getElem?] at hs
 rw [← hg, ← hs]
 cases h : a.tmps[s]? with
 | none => rfl
 | some v => cases v <;> first | rfl | (rename_i b; cases b <;> cases want <;> rfl)
theorem GL_g {v : Value} {j s : Nat} {want g : Bool} (hd : Nat.blt d c.n = true) (hj : (ops[j]?).bind (·.dst) = some s) (hg : Gv (E s) want g) (h : RV c.P (InS c S T) E g op v)
 (k : GL c ops rest Q (upd E d (gd g v)) S T) : GL c ops (⟨some d, op, ty, pos, af, some (j, want)⟩ :: rest) Q E S T := fun w a hr hs => by
 refine wpList_step (fun K hK => ?_)
 rw [wanted_of (o := ⟨some d, op, ty, pos, af, some (j, want)⟩) hr rfl hj hg]
 cases g with
 | true =>
  rw [if_pos rfl]
  unfold Oper.wp
  rw [hr.eval, h rfl w hs]
  rw [gd_true] at k
  exact hK _ _ (k w _ (hr.put hd v) hs)
 | false =>
  rw [if_neg (by simp)]
  rw [gd_false] at k
  exact hK _ _ (k w _ (hr.put hd undef) hs)
end rules
section values
variable {P : Program} {I : World → Prop} {E : Env} {g : Bool}
theorem rv_mv {x : Operand} {v : Value} (h : Vw g (ev E x) v) : RV P I E g (.move x) v := fun k w _ d ty pos af gd => by simp [execOp, h k]
theorem rv_as {x : Operand} {v : Value} (h : Vw g (ev E x) v) : RV P I E g (.assign x) v := fun k w _ d ty pos af gd => by simp [execOp, h k]
theorem rv_pick {x y z : Operand} {b : Bool} {u v : Value} (hx : Vw g (ev E x) (.bool b)) (hy : Vw (g && b) (ev E y) u) (hz : Vw (g && !b) (ev E z) v) : RV P I E g (.pick x y z) (bif b then u else v) := fun k w _ d ty pos af gd => by
 subst k
 cases b
 · simp [execOp, hx rfl, asBool, hz rfl]
 · simp [execOp, hx rfl, asBool, hy rfl]
theorem rv_and {x y : Operand} {b b2 : Bool} (hx : Vw g (ev E x) (.bool b)) (hy : Vw (g && b) (ev E y) (.bool b2)) : RV P I E g (.pick x y (.const (.bool false))) (.bool (b && b2)) := fun k w i d ty pos af gd => by
 have := rv_pick (P := P) (I := I) hx hy (z := .const (.bool false)) (v := .bool false) vw k w i d ty pos af gd
 rw [this]; cases b <;> rfl
theorem rv_or {x z : Operand} {b b2 : Bool} (hx : Vw g (ev E x) (.bool b)) (hz : Vw (g && !b) (ev E z) (.bool b2)) : RV P I E g (.pick x (.const (.bool true)) z) (.bool (b || b2)) := fun k w i d ty pos af gd => by
 have := rv_pick (P := P) (I := I) hx (y := .const (.bool true)) (u := .bool true) vw hz k w i d ty pos af gd
 rw [this]; cases b <;> rfl
theorem rv_not {x : Operand} {t : TypeId} {b : Bool} (hx : Vw g (ev E x) (.bool b)) : RV P I E g (.unOp .not t x) (.bool (!b)) := fun k w _ d ty pos af gd => by simp [execOp, hx k, Op.unary]
theorem rv_ext {x : Operand} {i : Nat} {vs : List Value} {v : Value} (hx : Vw g (ev E x) (.tuple vs.toArray)) (hv : vs[i]? = some v) : RV P I E g (.extract x i) v := fun k w _ d ty pos af gd => by simp [execOp, hx k, Instr.extract, hv]
theorem rv_mf {f : Fn} {a b : List Operand} : RV P I E g (.makeFunc f a.toArray b.toArray) (.func f (evs E a).toArray (evs E b).toArray) := fun k w _ d ty pos af gd => by
 simp [execOp, Instr.makeFunc, evs_eq]
theorem rv_nil {x : Operand} {a : Addr} (hx : Vw g (ev E x) (.pointer (some a))) : RV P I E g (.nilCheck x) (.pointer (some a)) := fun k w _ d ty pos af gd => by simp [execOp, hx k]
variable {x y : Operand} {t t' : TypeId} {k : IntKind} {a b : Int}
theorem rv_lss (hx : Vw g (ev E x) (.int k a)) (hy : Vw g (ev E y) (.int k b)) : RV P I E g (.binOp .lss t x y t') (.bool (decide (a < b))) := fun h w _ d ty pos af gd => by simp [execOp, hx h, hy h, eqGuard, binOp, Op.intCmp]
theorem rv_leq (hx : Vw g (ev E x) (.int k a)) (hy : Vw g (ev E y) (.int k b)) : RV P I E g (.binOp .leq t x y t') (.bool (decide (a ≤ b))) := fun h w _ d ty pos af gd => by simp [execOp, hx h, hy h, eqGuard, binOp, Op.intCmp]
theorem rv_gtr (hx : Vw g (ev E x) (.int k a)) (hy : Vw g (ev E y) (.int k b)) : RV P I E g (.binOp .gtr t x y t') (.bool (decide (b < a))) := fun h w _ d ty pos af gd => by simp [execOp, hx h, hy h, eqGuard, binOp, Op.intCmp]
theorem rv_geq (hx : Vw g (ev E x) (.int k a)) (hy : Vw g (ev E y) (.int k b)) : RV P I E g (.binOp .geq t x y t') (.bool (decide (b ≤ a))) := fun h w _ d ty pos af gd => by simp [execOp, hx h, hy h, eqGuard, binOp, Op.intCmp]
theorem rv_eql (hx : Vw g (ev E x) (.int k a)) (hy : Vw g (ev E y) (.int k b)) : RV P I E g (.binOp .eql t x y t') (.bool (decide (a = b))) := fun h w _ d ty pos af gd => by
 have e : (a == b) = decide (a = b) := rfl
 simp [execOp, hx h, hy h, eqGuard, binOp, Op.intCmp, e]
theorem rv_neq (hx : Vw g (ev E x) (.int k a)) (hy : Vw g (ev E y) (.int k b)) : RV P I E g (.binOp .neq t x y t') (.bool (!decide (a = b))) := fun h w _ d ty pos af gd => by
 have e : (a != b) = !decide (a = b) := rfl
 simp [execOp, hx h, hy h, eqGuard, binOp, Op.intCmp, e]
theorem rv_add (hx : Vw g (ev E x) (.int k a)) (hy : Vw g (ev E y) (.int k b)) {r : Int} (hr : g = true → k.wrap (a + b) = r) : RV P I E g (.binOp .add t x y t') (.int k r) := fun h w _ d ty pos af gd => by simp [execOp, hx h, hy h, eqGuard, binOp, Op.intArith, hr h]
theorem rv_sub (hx : Vw g (ev E x) (.int k a)) (hy : Vw g (ev E y) (.int k b)) {r : Int} (hr : g = true → k.wrap (a - b) = r) : RV P I E g (.binOp .sub t x y t') (.int k r) := fun h w _ d ty pos af gd => by simp [execOp, hx h, hy h, eqGuard, binOp, Op.intArith, hr h]
theorem rv_mul (hx : Vw g (ev E x) (.int k a)) (hy : Vw g (ev E y) (.int k b)) {r : Int} (hr : g = true → k.wrap (a * b) = r) : RV P I E g (.binOp .mul t x y t') (.int k r) := fun h w _ d ty pos af gd => by simp [execOp, hx h, hy h, eqGuard, binOp, Op.intArith, hr h]
theorem rv_quo (hx : Vw g (ev E x) (.int k a)) (hy : Vw g (ev E y) (.int k b)) (hb : g = true → b ≠ 0) {r : Int} (hr : g = true → k.wrap (a.tdiv b) = r) : RV P I E g (.binOp .quo t x y t') (.int k r) := fun h w _ d ty pos af gd => by simp [execOp, hx h, hy h, eqGuard, binOp, Op.intDiv, hb h, hr h]
theorem rv_rem (hx : Vw g (ev E x) (.int k a)) (hy : Vw g (ev E y) (.int k b)) (hb : g = true → b ≠ 0) {r : Int} (hr : g = true → a.tmod b = r) : RV P I E g (.binOp .rem t x y t') (.int k r) := fun h w _ d ty pos af gd => by simp [execOp, hx h, hy h, eqGuard, binOp, Op.intDiv, hb h, hr h]
theorem rv_bit {o : BinOp} (ho : o = .and ∨ o = .or ∨ o = .xor ∨ o = .andNot) (hx : Vw g (ev E x) (.int k a)) (hy : Vw g (ev E y) (.int k b)) {r : Value} (hr : g = true → ∀ w, (Op.intBits o k a b).run P w = .ok r w) : RV P I E g (.binOp o t x y t') r := fun h w _ d ty pos af gd => by
 rcases ho with rfl | rfl | rfl | rfl <;> simp [execOp, hx h, hy h, eqGuard, binOp, hr h]
theorem rv_shl {k' : IntKind} (hx : Vw g (ev E x) (.int k a)) (hy : Vw g (ev E y) (.int k' b)) (hb : g = true → 0 ≤ b) {r : Int} (hr : g = true → k.wrap (a * 2 ^ (min b.toNat k.bits)) = r) : RV P I E g (.binOp .shl t x y t') (.int k r) := fun h w _ d ty pos af gd => by
 have := hb h
 have h2 : ¬ b < 0 := by omega
 simp [execOp, hx h, hy h, eqGuard, binOp, Op.shift, h2, hr h]
theorem rv_shr {k' : IntKind} (hx : Vw g (ev E x) (.int k a)) (hy : Vw g (ev E y) (.int k' b)) (hb : g = true → 0 ≤ b) {r : Int} (hr : g = true → a.fdiv (2 ^ (min b.toNat k.bits)) = r) : RV P I E g (.binOp .shr t x y t') (.int k r) := fun h w _ d ty pos af gd => by
 have := hb h
 have h2 : ¬ b < 0 := by omega
 simp [execOp, hx h, hy h, eqGuard, binOp, Op.shift, h2, hr h]
theorem rv_cnv {s d0 : TypeId} {k2 : IntKind} {dd : TypeDesc} (hs : P.underlying s = some dd) (hd : P.underlying d0 = some (.int k2)) (hx : Vw g (ev E x) (.int k a)) {r : Int} (hr : g = true → k2.wrap a = r) : RV P I E g (.convert s d0 x) (.int k2 r) := fun h w _ d ty pos af gd => by
 simp [execOp, hx h, convert, underlying, hs, hd, Conv.intToInt, hr h]
end values
@[irreducible] def blk (B : Nat) (l : List Value) (t : TypeId) : Res where
 fp b := b = B
 ok w := w.heap[B]? = some (.cells l.toArray t (0, 0))
 loc w w' h k := by rw [h B rfl]; exact k
 dom w k b hb := by subst hb; exact (Array.getElem?_eq_some_iff.1 k).1
@[irreducible] def obj (B : Nat) (o : Obj) : Res where
 fp b := b = B
 ok w := w.heap[B]? = some o
 loc w w' h k := by rw [h B rfl]; exact k
 dom w k b hb := by subst hb; exact (Array.getElem?_eq_some_iff.1 k).1
theorem blk_fp {B : Nat} {l : List Value} {t : TypeId} {b : Nat} : (blk B l t).fp b ↔ b = B := by unfold blk; rfl
theorem blk_ok {B : Nat} {l : List Value} {t : TypeId} {w : World} : (blk B l t).ok w ↔ w.heap[B]? = some (.cells l.toArray t (0, 0)) := by unfold blk; rfl
theorem obj_fp {B : Nat} {o : Obj} {b : Nat} : (obj B o).fp b ↔ b = B := by unfold obj; rfl
theorem obj_ok {B : Nat} {o : Obj} {w : World} : (obj B o).ok w ↔ w.heap[B]? = some o := by unfold obj; rfl
@[irreducible] def elt (A : Option Addr) (i : Nat) : Addr := (A.getD ⟨0, 0, none⟩).add i
theorem add_add (a : Addr) (i j : Nat) : (a.add i).add j = a.add (i + j) := by
 unfold Addr.add
 by_cases hi : i = 0
 · subst hi; simp
 · by_cases hj : j = 0
   · subst hj; simp [hi]
   · simp [hi, hj, Nat.add_assoc]
theorem add_block (a : Addr) (i : Nat) : (a.add i).block = a.block := by unfold Addr.add; split <;> rfl
theorem elt_some (ad : Addr) (i : Nat) : elt (some ad) i = ad.add i := by unfold elt; rfl
theorem elt_add (A : Option Addr) (i j : Nat) : (elt A i).add j = elt A (i + j) := by unfold elt; exact add_add _ _ _
@[irreducible] def row (sz : Nat) (A : Option Addr) (n c : Nat) (cells : List Value) : Res where
 fp b := cells ≠ [] ∧ ∃ ad, A = some ad ∧ b = ad.block
 ok w := cells.length = n * sz ∧ n ≤ c ∧ c ≤ maxLen ∧ (A = none → c = 0) ∧ (cells ≠ [] → A ≠ none) ∧ ∀ i v, cells[i]? = some v → w.cell? (elt A i) = some v
 loc w w' h k := by
  refine ⟨k.1, k.2.1, k.2.2.1, k.2.2.2.1, k.2.2.2.2.1, fun i v hi => ?_⟩
  have hne : cells ≠ [] := fun e => by rw [e] at hi; simp at hi
  cases A with
  | none => exact absurd rfl (k.2.2.2.2.1 hne)
  | some ad =>
   rw [World.cell?_of_block (w := w) (a := elt (some ad) i)]
   · exact k.2.2.2.2.2 i v hi
   · rw [elt_some, add_block]; exact h _ ⟨hne, ad, rfl, rfl⟩
 dom w k b hb := by
  obtain ⟨hne, ad, rfl, rfl⟩ := hb
  cases cells with
  | nil => exact absurd rfl hne
  | cons v l =>
   have := World.block_lt_of_cell? w _ (k.2.2.2.2.2 0 v rfl)
   rwa [elt_some, add_block] at this
theorem row_fp {sz : Nat} {A : Option Addr} {n c : Nat} {cells : List Value} {b : Nat} : (row sz A n c cells).fp b ↔ (cells ≠ [] ∧ ∃ ad, A = some ad ∧ b = ad.block) := by unfold row; rfl
theorem row_ok {sz : Nat} {A : Option Addr} {n c : Nat} {cells : List Value} {w : World} : (row sz A n c cells).ok w ↔ (cells.length = n * sz ∧ n ≤ c ∧ c ≤ maxLen ∧ (A = none → c = 0) ∧ (cells ≠ [] → A ≠ none) ∧ ∀ i v, cells[i]? = some v → w.cell? (elt A i) = some v) := by unfold row; rfl
@[irreducible] def own (t : TypeId) (sz : Nat) (A : Option Addr) (n c : Nat) (xs : List Value) : Res where
 fp b := ∃ ad, A = some ad ∧ b = ad.block
 ok w := w.ownsRow 0 t sz (.slice A n c) n xs
 loc w w' h k := by
  refine ⟨k.1, ?_⟩
  rcases k.2 with hn | ⟨g, cap, cur, e, hb, hg, rest⟩
  · exact .inl hn
  · have e' := e
    injection e' with e1 _ _
    exact .inr ⟨g, cap, cur, e, hb, by rw [h g ⟨_, e1, rfl⟩]; exact hg, rest⟩
 dom w k b hb := by
  obtain ⟨ad, rfl, rfl⟩ := hb
  exact (k.lt ad.block rfl).2
theorem own_fp {t : TypeId} {sz : Nat} {A : Option Addr} {n c : Nat} {xs : List Value} {b : Nat} : (own t sz A n c xs).fp b ↔ ∃ ad, A = some ad ∧ b = ad.block := by unfold own; rfl
theorem own_ok {t : TypeId} {sz : Nat} {A : Option Addr} {n c : Nat} {xs : List Value} {w : World} : (own t sz A n c xs).ok w ↔ w.ownsRow 0 t sz (.slice A n c) n xs := by unfold own; rfl
theorem own_row {t : TypeId} {sz : Nat} {A : Option Addr} {n c : Nat} {xs : List Value} {w : World} (h : (own t sz A n c xs).ok w) : (row sz A n c xs).ok w := by
 rw [own_ok] at h
 rw [row_ok]
 obtain ⟨hl, h⟩ := h
 rcases h with ⟨e, hn⟩ | ⟨g, cap, cur, e, hb, hg, h1, h2, h3, h4⟩
 · injection e with e1 e2 e3
   subst e1; subst e2; subst e3
   have : xs = [] := List.eq_nil_of_length_eq_zero (by simpa using hl)
   subst this
   exact ⟨by simp, Nat.le_refl _, by simp [maxLen], fun _ => rfl, fun h => absurd rfl h, fun i v hv => by simp at hv⟩
 · injection e with e1 e2 e3
   subst e1; subst e3
   refine ⟨hl, h1, h2, fun h => (by cases h), fun _ h => (by cases h), fun i v hv => ?_⟩
   rw [elt_some]
   have ha : (⟨g, 0, none⟩ : Addr).add i = ⟨g, i, none⟩ := by
    unfold Addr.add; split
    · rename_i e; subst e; rfl
    · simp
   rw [ha, cell_of_row w g i cur t _ hg]
   rw [← h4, List.getElem?_take] at hv
   split at hv
   · simpa using hv
   · cases hv
class HasB (B : Nat) (l : outParam (List Value)) (t : outParam TypeId) (L : List Res) : Prop where
 mem : blk B l t ∈ L
instance (priority := 1000) hasB0 {B : Nat} {l : List Value} {t : TypeId} {L : List Res} : HasB B l t (blk B l t :: L) := ⟨List.mem_cons_self ..⟩
instance (priority := 900) hasB1 {B : Nat} {l : List Value} {t : TypeId} {R : Res} {L : List Res} [h : HasB B l t L] : HasB B l t (R :: L) := ⟨List.mem_cons_of_mem _ h.mem⟩
class HasO (B : Nat) (o : outParam Obj) (L : List Res) : Prop where
 mem : obj B o ∈ L
instance (priority := 1000) hasO0 {B : Nat} {o : Obj} {L : List Res} : HasO B o (obj B o :: L) := ⟨List.mem_cons_self ..⟩
instance (priority := 900) hasO1 {B : Nat} {o : Obj} {R : Res} {L : List Res} [h : HasO B o L] : HasO B o (R :: L) := ⟨List.mem_cons_of_mem _ h.mem⟩
class HasR (A : Option Addr) (sz n c : outParam Nat) (cells : outParam (List Value)) (L : List Res) : Prop where
 mem : row sz A n c cells ∈ L
instance (priority := 1000) hasR0 {A : Option Addr} {sz n c : Nat} {cells : List Value} {L : List Res} : HasR A sz n c cells (row sz A n c cells :: L) := ⟨List.mem_cons_self ..⟩
instance (priority := 900) hasR1 {A : Option Addr} {sz n c : Nat} {cells : List Value} {R : Res} {L : List Res} [h : HasR A sz n c cells L] : HasR A sz n c cells (R :: L) := ⟨List.mem_cons_of_mem _ h.mem⟩
class HasW (A : Option Addr) (t : outParam TypeId) (sz n c : outParam Nat) (cells : outParam (List Value)) (L : List Res) : Prop where
 mem : own t sz A n c cells ∈ L
instance (priority := 1000) hasW0 {A : Option Addr} {t : TypeId} {sz n c : Nat} {cells : List Value} {L : List Res} : HasW A t sz n c cells (own t sz A n c cells :: L) := ⟨List.mem_cons_self ..⟩
instance (priority := 900) hasW1 {A : Option Addr} {t : TypeId} {sz n c : Nat} {cells : List Value} {R : Res} {L : List Res} [h : HasW A t sz n c cells L] : HasW A t sz n c cells (R :: L) := ⟨List.mem_cons_of_mem _ h.mem⟩
def Held (H : List Res) (w : World) : Prop := ∀ R ∈ H, R.ok w
class In (I : World → Prop) (R : Res) : Prop where
 out : ∀ w, I w → R.ok w
class Lk (I : World → Prop) (B : Nat) (l : outParam (List Value)) (t : outParam TypeId) : Prop where
 out : ∀ w, I w → (blk B l t).ok w
instance (priority := 1000) lkS {c : Ctx} {S T : List Res} {B : Nat} {l : List Value} {t : TypeId} [h : HasB B l t S] : Lk (InS c S T) B l t := ⟨fun w k => St.sat k |>.okS _ h.mem⟩
instance (priority := 900) lkT {c : Ctx} {S T : List Res} {B : Nat} {l : List Value} {t : TypeId} [h : HasB B l t T] : Lk (InS c S T) B l t := ⟨fun w k => St.sat k |>.okT _ h.mem⟩
instance (priority := 1000) lkH {H : List Res} {B : Nat} {l : List Value} {t : TypeId} [h : HasB B l t H] : Lk (Held H) B l t := ⟨fun w k => k _ h.mem⟩
class LkO (I : World → Prop) (B : Nat) (o : outParam Obj) : Prop where
 out : ∀ w, I w → (obj B o).ok w
instance (priority := 1000) lkOS {c : Ctx} {S T : List Res} {B : Nat} {o : Obj} [h : HasO B o S] : LkO (InS c S T) B o := ⟨fun w k => St.sat k |>.okS _ h.mem⟩
instance (priority := 900) lkOT {c : Ctx} {S T : List Res} {B : Nat} {o : Obj} [h : HasO B o T] : LkO (InS c S T) B o := ⟨fun w k => St.sat k |>.okT _ h.mem⟩
instance (priority := 1000) lkOH {H : List Res} {B : Nat} {o : Obj} [h : HasO B o H] : LkO (Held H) B o := ⟨fun w k => k _ h.mem⟩
class LkR (I : World → Prop) (A : Option Addr) (sz n c : outParam Nat) (cells : outParam (List Value)) : Prop where
 out : ∀ w, I w → (row sz A n c cells).ok w
instance (priority := 900) lkRS {c : Ctx} {S T : List Res} {A : Option Addr} {sz n k : Nat} {cells : List Value} [h : HasR A sz n k cells S] : LkR (InS c S T) A sz n k cells := ⟨fun w k => St.sat k |>.okS _ h.mem⟩
instance (priority := 1000) lkRT {c : Ctx} {S T : List Res} {A : Option Addr} {sz n k : Nat} {cells : List Value} [h : HasR A sz n k cells T] : LkR (InS c S T) A sz n k cells := ⟨fun w k => St.sat k |>.okT _ h.mem⟩
instance (priority := 1000) lkRH {H : List Res} {A : Option Addr} {sz n k : Nat} {cells : List Value} [h : HasR A sz n k cells H] : LkR (Held H) A sz n k cells := ⟨fun w k => k _ h.mem⟩
instance (priority := 800) lkWS {c : Ctx} {S T : List Res} {A : Option Addr} {t : TypeId} {sz n k : Nat} {cells : List Value} [h : HasW A t sz n k cells S] : LkR (InS c S T) A sz n k cells := ⟨fun w k => own_row (St.sat k |>.okS _ h.mem)⟩
instance (priority := 800) lkWH {H : List Res} {A : Option Addr} {t : TypeId} {sz n k : Nat} {cells : List Value} [h : HasW A t sz n k cells H] : LkR (Held H) A sz n k cells := ⟨fun w k => own_row (k _ h.mem)⟩
class Nth (l : List Value) (i : Nat) (v : outParam Value) : Prop where
 out : l[i]? = some v
instance nth0 {v : Value} {l : List Value} : Nth (v :: l) 0 v := ⟨rfl⟩
instance nthS {u v : Value} {l : List Value} {i : Nat} [h : Nth l i v] : Nth (u :: l) (i + 1) v := ⟨by simpa using h.out⟩
class Put1 (l : List Value) (i : Nat) (v : Value) (l' : outParam (List Value)) : Prop where
 out : l' = l.set i v ∧ i < l.length
instance put0 {u v : Value} {l : List Value} : Put1 (u :: l) 0 v (v :: l) := ⟨rfl, by simp⟩
instance putS {u v : Value} {l l' : List Value} {i : Nat} [h : Put1 l i v l'] : Put1 (u :: l) (i + 1) v (u :: l') := ⟨by rw [h.out.1]; rfl, by simpa using h.out.2⟩
theorem cell_blk {w : World} {B : Nat} {l : List Value} {t : TypeId} {i : Nat} {v : Value} (h : (blk B l t).ok w) (hi : l[i]? = some v) : w.cell? ⟨B, i, none⟩ = some v := by
 rw [blk_ok] at h
 rw [cell_of_row w B i _ t _ h]
 simpa using hi
def plainD : TypeDesc → Bool
 | .struct _ | .array _ _ => false
 | _ => true
theorem run_isAgg {P : Program} {t : TypeId} {dd : TypeDesc} (ht : P.underlying t = some dd) (w : World) : (isAgg t).run P w = .ok (!plainD dd) w := by
 simp [isAgg, underlying, ht]
 cases dd <;> rfl
theorem run_loadVar_plain {P : Program} {t : TypeId} {dd : TypeDesc} (ht : P.underlying t = some dd) (hd : plainD dd = true) {w : World} {a : Addr} {v : Value} (h : w.cell? a = some v) : (loadVar t a).run P w = .ok v w := by
 unfold loadVar
 simp only [Sem.run_bind, run_isAgg ht, hd, Result.andThen_ok]
 simp [h]
section
variable {P : Program} {I : World → Prop} {E : Env} {g : Bool} {x : Operand} {t : TypeId}
theorem rv_ld {dd : TypeDesc} {B off : Nat} {l : List Value} {tb : TypeId} {v : Value} (ht : P.underlying t = some dd) (hd : plainD dd = true) (hx : Vw g (ev E x) (.pointer (some ⟨B, off, none⟩))) [hl : Lk I B l tb] [hv : Nth l off v] : RV P I E g (.load t x) v := fun h w i d ty pos af gd => by
 have := run_loadVar_plain ht hd (cell_blk (hl.out w i) hv.out)
 simp [execOp, hx h, Instr.loadAt, Instr.sureAddr, this]
theorem rv_ldE {dd : TypeDesc} {A : Option Addr} {j sz n c : Nat} {cells : List Value} {v : Value} (ht : P.underlying t = some dd) (hd : plainD dd = true) (hx : Vw g (ev E x) (.pointer (some (elt A j)))) [hl : LkR I A sz n c cells] (hv : g = true → cells[j]? = some v) : RV P I E g (.load t x) v := fun h w i d ty pos af gd => by
 have := run_loadVar_plain ht hd ((row_ok.1 (hl.out w i)).2.2.2.2.2 j v (hv h))
 simp [execOp, hx h, Instr.loadAt, Instr.sureAddr, this]
end
def cellsL : Value → List Value
 | .agg cs => cs.toList
 | v => [v]
theorem cellsL_eq (v : Value) : v.cells = (cellsL v).toArray := by cases v <;> simp [Value.cells, cellsL]
def ZeroOf (P : Program) (t : TypeId) (z : List Value) : Prop := ∃ v, (∀ w, (zeroValue t).run P w = .ok v w) ∧ cellsL v = z
theorem Turn.new (w : World) (o : Obj) (R : Res) (hok : R.ok (w.alloc o)) (hfp : ∀ b, R.fp b → b = w.heap.size) : Turn w (w.alloc o) [] [R] [] [] where
 go := ⟨rfl, rfl, rfl, by simp, fun b hb _ => heap_alloc_old w o hb⟩
 sat := { okS := fun x hx => by rw [List.mem_singleton.1 hx]; exact hok, okT := fun _ h => absurd h (by simp), sep := List.pairwise_singleton _ _, sepT := fun _ _ _ h => absurd h (by simp) }
 own := fun x hx b hb => by rw [List.mem_singleton.1 hx] at hb; exact .inr (by rw [hfp b hb]; exact Nat.le_refl _)
 seen := fun _ h => absurd h (by simp)
theorem St.new {c : Ctx} {w : World} {S T : List Res} (h : St c w S T) (o : Obj) (R : Res) (hok : R.ok (w.alloc o)) (hfp : ∀ b, R.fp b → b = w.heap.size) : St c (w.alloc o) (R :: S) T := by
 have := h.turn (Pull.nil) (T1 := []) (fun _ h => absurd h (by simp)) (Turn.new w o R hok hfp)
 simpa using this
theorem blk_new (w : World) (l : List Value) (t : TypeId) : (blk w.heap.size l t).ok (w.alloc (.cells l.toArray t)) := by rw [blk_ok]; exact heap_alloc_new w _
theorem St.newBlk {c : Ctx} {w : World} {S T : List Res} (h : St c w S T) (l : List Value) (t : TypeId) : St c (w.alloc (.cells l.toArray t)) (blk w.heap.size l t :: S) T :=
 h.new _ _ (blk_new w l t) (fun b hb => blk_fp.1 hb)
theorem St.newObj {c : Ctx} {w : World} {S T : List Res} (h : St c w S T) (o : Obj) : St c (w.alloc o) (obj w.heap.size o :: S) T :=
 h.new _ _ (by rw [obj_ok]; exact heap_alloc_new w _) (fun b hb => obj_fp.1 hb)
theorem Turn.one (w w' : World) (R R' : Res) (hgo : Go1 R.fp w w') (hok : R'.ok w') (hfp : ∀ b, R'.fp b → R.fp b ∨ w.heap.size ≤ b) : Turn w w' [R] [R'] [] [] where
 go := ⟨hgo.os, hgo.tape, hgo.output, hgo.size, fun b hb hM => hgo.keep b hb (fun h => hM ⟨R, List.mem_singleton.2 rfl, h⟩)⟩
 sat := { okS := fun x hx => by rw [List.mem_singleton.1 hx]; exact hok, okT := fun _ h => absurd h (by simp), sep := List.pairwise_singleton _ _, sepT := fun _ _ _ h => absurd h (by simp) }
 own := fun x hx b hb => by
  rw [List.mem_singleton.1 hx] at hb
  rcases hfp b hb with h | h
  · exact .inl ⟨R, List.mem_singleton.2 rfl, h⟩
  · exact .inr h
 seen := fun _ h => absurd h (by simp)
class Swap (R R' : Res) (l : List Res) (l' : outParam (List Res)) : Prop where
 out : ∃ r, Ins R r l ∧ Ins R' r l'
instance (priority := 1000) swap0 {R R' : Res} {l : List Res} : Swap R R' (R :: l) (R' :: l) := ⟨l, .here, .here⟩
instance (priority := 900) swap1 {R R' x : Res} {l l' : List Res} [h : Swap R R' l l'] : Swap R R' (x :: l) (x :: l') := ⟨by obtain ⟨r, h1, h2⟩ := h.out; exact ⟨x :: r, h1.there, h2.there⟩⟩
theorem Sat.perm {w : World} {S' T : List Res} {R : Res} {r : List Res} (h : Sat w (R :: r) T) (hi : Ins R r S') : Sat w S' T := by
 refine ⟨fun x hx => ?_, h.okT, ?_, fun x hx => ?_⟩
 · rcases (hi.mem x).1 hx with rfl | hx
   · exact h.okS _ (List.mem_cons_self ..)
   · exact h.okS _ (List.mem_cons_of_mem _ hx)
 · have hp := h.sep
   clear h
   induction hi with
   | here => exact hp
   | @there y l l' hi ih =>
    rw [List.pairwise_cons] at hp
    have h2 := (List.pairwise_cons.1 hp.2)
    rw [List.pairwise_cons]
    refine ⟨fun z hz => ?_, ih (List.pairwise_cons.2 ⟨fun z hz => hp.1 z (List.mem_cons_of_mem _ hz), h2.2⟩)⟩
    rcases (hi.mem z).1 hz with rfl | hz
    · exact fun b h1 h3 => hp.1 y (List.mem_cons_self ..) b h3 h1
    · exact h2.1 z hz
 · rcases (hi.mem x).1 hx with rfl | hx
   · exact h.sepT _ (List.mem_cons_self ..)
   · exact h.sepT _ (List.mem_cons_of_mem _ hx)
theorem St.perm {c : Ctx} {w : World} {S' T : List Res} {R : Res} {r : List Res} (h : St c w (R :: r) T) (hi : Ins R r S') : St c w S' T :=
 ⟨h.go, h.sat.perm hi, fun x hx => by
  rcases (hi.mem x).1 hx with rfl | hx
  · exact h.own _ (List.mem_cons_self ..)
  · exact h.own _ (List.mem_cons_of_mem _ hx), h.seen⟩
theorem St.perm' {c : Ctx} {w : World} {S T : List Res} {R : Res} {r : List Res} (h : St c w S T) (hp : Pull S [R] r) : St c w (R :: r) T := by
 have := h.turn (S' := [R]) (T' := []) hp (T1 := []) (fun _ h => absurd h (by simp)) (Turn.one w w R R (Go1.refl _ w) (h.sat.okS R ((hp.mem R).2 (.inl (List.mem_cons_self ..)))) (fun b hb => .inl hb))
 simpa using this
theorem St.swap {c : Ctx} {w w' : World} {S S' T : List Res} {R R' : Res} (h : St c w S T) (hs : Swap R R' S S') (hn : Turn w w' [R] [R'] [] []) : St c w' S' T := by
 obtain ⟨r, h1, h2⟩ := hs.out
 have := h.turn (.cons h1 .nil) (T1 := []) (fun _ h => absurd h (by simp)) hn
 exact St.perm (by simpa using this) h2
theorem heap_setCell_at (w : World) (B i : Nat) (l : List Value) (t : TypeId) (v : Value) (h : w.heap[B]? = some (.cells l.toArray t (0, 0))) :
 (w.setCell ⟨B, i, none⟩ v).heap[B]? = some (.cells (l.set i v).toArray t (0, 0)) := by
 rw [heap_setCell_same w B i l.toArray t v h]
 congr 2
 simp [Array.setIfInBounds]
 intro hh
 rw [List.set_eq_of_length_le hh]
def putAll : List Value → Nat → List Value → List Value
 | l, _, [] => l
 | l, i, v :: vs => putAll (l.set i v) (i + 1) vs
theorem putAll_whole (vs : List Value) : ∀ (p l : List Value), l.length = vs.length → putAll (p ++ l) p.length vs = p ++ vs := by
 induction vs with
 | nil => intro p l hl; simp at hl; simp [putAll, hl]
 | cons v vs ih =>
  intro p l hl
  cases l with
  | nil => simp at hl
  | cons u l =>
   have := ih (p ++ [v]) l (by simpa using hl)
   simp only [putAll]
   rw [List.set_append_right _ _ (Nat.le_refl _)]
   simp at this ⊢
   exact this
theorem run_storeCells {P : Program} {B : Nat} {t : TypeId} (off : Nat) : ∀ (vs : List Value) (i : Nat) (w : World) (l : List Value), (∀ v ∈ vs, v.oneCell' = true) → off + i + vs.length ≤ l.length → (blk B l t).ok w →
 ∃ w', (storeCells ⟨B, off, none⟩ vs i).run P w = .ok () w' ∧ (blk B (putAll l (off + i) vs) t).ok w' ∧ Go1 (· = B) w w' := by
 intro vs
 induction vs with
 | nil => intro i w l _ _ h; exact ⟨w, rfl, h, Go1.refl _ w⟩
 | cons v vs ih =>
  intro i w l h1 h2 h
  have ha : (⟨B, off, none⟩ : Addr).add i = ⟨B, off + i, none⟩ := by
   unfold Addr.add; split
   · rename_i e; subst e; rfl
   · rfl
  have hlt : off + i < l.length := by simp at h2; omega
  have hc : w.cell? ⟨B, off + i, none⟩ = some l[off + i] := cell_blk h (by simp [hlt])
  have hf : w.frozen? ⟨B, off + i, none⟩ = false := frozen_of_row w B (off + i) _ t (blk_ok.1 h)
  have hw : (blk B (l.set (off + i) v) t).ok (w.setCell ⟨B, off + i, none⟩ v) := by
   rw [blk_ok]; exact heap_setCell_at w B (off + i) l t v (blk_ok.1 h)
  obtain ⟨w', r1, r2, r3⟩ := ih (i + 1) _ _ (fun u hu => h1 u (List.mem_cons_of_mem _ hu)) (by simp at h2 ⊢; omega) hw
  refine ⟨w', ?_, by simpa [putAll, Nat.add_assoc] using r2, ⟨r3.os, r3.tape, r3.output, ?_, ?_⟩⟩
  · simp only [storeCells, Sem.run_bind, ha, run_store P w _ v _ (h1 v (List.mem_cons_self ..)), hc, hf]
    simpa using r1
  · have := r3.size; simpa using this
  · intro b hb hne
    rw [r3.keep b (by simpa using hb) hne]
    exact heap_setCell_other w _ b v hne
def Cells (P : Program) (t : TypeId) (n : Nat) : Prop := ∀ w, (sizeOf t).run P w = .ok n w
theorem run_storeVar {P : Program} {B off n : Nat} {ty t : TypeId} {v : Value} {l : List Value} {w : World} (hn : Cells P ty n) (hv : (cellsL v).length = n) (h1 : ∀ u ∈ cellsL v, u.oneCell' = true) (ho : off + n ≤ l.length) (h : (blk B l t).ok w) :
 ∃ w', (storeVar ty ⟨B, off, none⟩ v).run P w = .ok () w' ∧ (blk B (putAll l off (cellsL v)) t).ok w' ∧ Go1 (· = B) w w' := by
 obtain ⟨w', r1, r2, r3⟩ := run_storeCells (P := P) off (cellsL v) 0 w l h1 (by omega) h
 refine ⟨w', ?_, by simpa using r2, r3⟩
 have hs : v.cells.size = n := by rw [cellsL_eq]; simpa using hv
 have ht : v.cells.toList = cellsL v := by rw [cellsL_eq]
 unfold storeVar
 simp [hn w, hs, ht, r1]
section rules
variable {c : Ctx} {Q : Post} {E : Env} {S T : List Res} {ops : Array Oper} {rest : List Oper} {d : Nat} {ty : TypeId} {pos : String} {af : Array Edge}
theorem GL_alloc {t : TypeId} {z : List Value} (hd : Nat.blt d c.n = true) (hz : ZeroOf c.P t z) (k : ∀ B, GL c ops rest Q (upd E d (.pointer (some ⟨B, 0, none⟩))) (blk B z t :: S) T) :
 GL c ops (⟨some d, .alloc t, ty, pos, af, none⟩ :: rest) Q E S T := fun w a hr hs => by
 obtain ⟨v, hv, rfl⟩ := hz
 refine wpList_plain rfl (fun K hK => ?_)
 unfold Oper.wp
 simp only [execOp, Instr.alloc, Sem.run_bind, hv, Result.andThen_ok, newVar, newRow, run_newObj, Sem.run_pure, World.alloc_eq, Oper.upon]
 rw [cellsL_eq]
 exact hK _ _ (k w.heap.size _ _ (hr.put hd _) (hs.newBlk (cellsL v) t))
theorem GL_box {t : TypeId} {x : Operand} {l : List Value} (hd : Nat.blt d c.n = true) (hx : cellsL (ev E x) = l) (k : ∀ B, GL c ops rest Q (upd E d (.pointer (some ⟨B, 0, none⟩))) (blk B l t :: S) T) :
 GL c ops (⟨some d, .box t x, ty, pos, af, none⟩ :: rest) Q E S T := fun w a hr hs => by
 subst hx
 refine wpList_plain rfl (fun K hK => ?_)
 unfold Oper.wp
 simp only [execOp, Instr.box, Sem.run_bind, Result.andThen_ok, newVar, newRow, run_newObj, Sem.run_pure, World.alloc_eq, Oper.upon, hr.eval]
 rw [cellsL_eq]
 exact hK _ _ (k w.heap.size _ _ (hr.put hd _) (hs.newBlk (cellsL (ev E x)) t))
theorem cellsL_one {u : Value} (h1 : u.oneCell' = true) : cellsL u = [u] := by cases u <;> first | rfl | (simp [Value.oneCell'] at h1)
theorem GL_box1 {t : TypeId} {x : Operand} {u : Value} (hd : Nat.blt d c.n = true) (hx : ev E x = u) (h1 : u.oneCell' = true) (k : ∀ B, GL c ops rest Q (upd E d (.pointer (some ⟨B, 0, none⟩))) (blk B [u] t :: S) T) :
 GL c ops (⟨some d, .box t x, ty, pos, af, none⟩ :: rest) Q E S T := GL_box hd (by rw [hx, cellsL_one h1]) k
theorem GL_boxA {t : TypeId} {x : Operand} {l : List Value} (hd : Nat.blt d c.n = true) (hx : ev E x = .agg l.toArray) (k : ∀ B, GL c ops rest Q (upd E d (.pointer (some ⟨B, 0, none⟩))) (blk B l t :: S) T) :
 GL c ops (⟨some d, .box t x, ty, pos, af, none⟩ :: rest) Q E S T := GL_box hd (by rw [hx]; rfl) k
theorem GL_st {t tb : TypeId} {x y : Operand} {B off : Nat} {l l' : List Value} {u : Value} {S' : List Res} (hx : ev E x = .pointer (some ⟨B, off, none⟩)) (hy : ev E y = u) (hc : Cells c.P t 1) (h1 : u.oneCell' = true)
 [hb : HasB B l tb S] [hp : Put1 l off u l'] [hs' : Swap (blk B l tb) (blk B l' tb) S S'] (k : GL c ops rest Q E S' T) :
 GL c ops (⟨none, .store t x y, ty, pos, af, none⟩ :: rest) Q E S T := fun w a hr hs => by
 refine wpList_plain rfl (fun K hK => ?_)
 have hcl : cellsL u = [u] := by cases u <;> first | rfl | (simp [Value.oneCell'] at h1)
 obtain ⟨w', r1, r2, r3⟩ := run_storeVar (P := c.P) (v := u) (off := off) hc (by rw [hcl]; rfl) (by rw [hcl]; simpa using h1) (by have := hp.out.2; omega) (hs.sat.okS _ hb.mem)
 rw [hcl] at r2
 simp only [putAll, ← hp.out.1] at r2
 unfold Oper.wp
 simp only [execOp, Instr.storeAt, Instr.sureAddr, Sem.run_bind, hr.eval, hx, hy, Sem.run_pure, Result.andThen_ok, r1, Oper.upon]
 refine hK _ _ (k w' _ (hr.none _) (hs.swap hs' (Turn.one w w' _ _ ⟨r3.os, r3.tape, r3.output, r3.size, fun b hb hM => r3.keep b hb (fun e => hM (blk_fp.2 e))⟩ r2 (fun b hb => .inl (blk_fp.2 (blk_fp.1 hb))))))
theorem GL_stA {t tb : TypeId} {x y : Operand} {B : Nat} {l l' : List Value} {S' : List Res} (hx : ev E x = .pointer (some ⟨B, 0, none⟩)) (hy0 : ev E y = .agg l'.toArray) (hc : Cells c.P t l'.length) (h1 : ∀ u ∈ l', u.oneCell' = true)
 [hb : HasB B l tb S] (hl : l.length = l'.length) [hs' : Swap (blk B l tb) (blk B l' tb) S S'] (k : GL c ops rest Q E S' T) :
 GL c ops (⟨none, .store t x y, ty, pos, af, none⟩ :: rest) Q E S T := fun w a hr hs => by
 have hy : cellsL (ev E y) = l' := by rw [hy0]; rfl
 refine wpList_plain rfl (fun K hK => ?_)
 obtain ⟨w', r1, r2, r3⟩ := run_storeVar (P := c.P) (v := ev E y) (off := 0) hc (by rw [hy]) (by rw [hy]; exact h1) (by omega) (hs.sat.okS _ hb.mem)
 rw [hy] at r2
 have := putAll_whole l' [] l hl
 simp only [List.nil_append, List.length_nil] at this
 rw [this] at r2
 unfold Oper.wp
 simp only [execOp, Instr.storeAt, Instr.sureAddr, Sem.run_bind, hr.eval, hx, Sem.run_pure, Result.andThen_ok, r1, Oper.upon]
 refine hK _ _ (k w' _ (hr.none _) (hs.swap hs' (Turn.one w w' _ _ ⟨r3.os, r3.tape, r3.output, r3.size, fun b hb hM => r3.keep b hb (fun e => hM (blk_fp.2 e))⟩ r2 (fun b hb => .inl (blk_fp.2 (blk_fp.1 hb))))))
end rules
def FA (P : Program) (t f k : Nat) : Prop := ∀ a w, (Instr.fieldAt t (.pointer (some a)) f).run P w = .ok (.pointer (some (a.add k))) w
structure El (P : Program) (t e sz bs : Nat) : Prop where
 out : ∃ i z, P.underlying t = some (.slice e) ∧ P.info? e = some i ∧ i.zero = some z ∧ i.size = sz ∧ i.bytes = bs ∧ z.cells.size = sz ∧ 0 < sz
def Agg (P : Program) (t n : Nat) : Prop := ∀ w, (isAgg t).run P w = .ok true w ∧ (sizeOf t).run P w = .ok n w
theorem el_of {P : Program} {t e : TypeId} {sz bs : Nat} {z : Value} (h1 : P.underlying t = some (.slice e)) (h2 : (P.info? e).map (fun i => (i.zero, i.size, i.bytes)) = some (some z, sz, bs)) (h3 : z.cells.size = sz) (h4 : 0 < sz) : El P t e sz bs := by
 obtain ⟨i, hi, hz⟩ := Option.map_eq_some_iff.1 h2
 simp only [Prod.mk.injEq] at hz
 exact ⟨i, z, h1, hi, hz.1, hz.2.1, hz.2.2, h3, h4⟩
section
variable {P : Program} {I : World → Prop} {E : Env} {g : Bool} {x y : Operand} {t : TypeId}
theorem add_lit (B k : Nat) : (⟨B, 0, none⟩ : Addr).add k = ⟨B, k, none⟩ := by
 unfold Addr.add; split
 · rename_i e; subst e; rfl
 · simp
theorem rv_fa {B f k : Nat} (hf : FA P t f k) (hx : Vw g (ev E x) (.pointer (some ⟨B, 0, none⟩))) : RV P I E g (.fieldAddr t x f) (.pointer (some ⟨B, k, none⟩)) := fun h w i d ty pos af gd => by
 simp only [execOp, hx h, Sem.run_bind, hf _ w, add_lit, Result.andThen_ok, Sem.run_pure]
theorem rv_faN {B off f k off' : Nat} (hf : FA P t f k) (hx : Vw g (ev E x) (.pointer (some ⟨B, off, none⟩))) (ho : off + k = off') : RV P I E g (.fieldAddr t x f) (.pointer (some ⟨B, off', none⟩)) := fun h w i d ty pos af gd => by
 have : (⟨B, off, none⟩ : Addr).add k = ⟨B, off', none⟩ := by
  unfold Addr.add; split
  · rename_i e; subst e; simp at ho; rw [ho]
  · rw [← ho]
 simp only [execOp, hx h, Sem.run_bind, hf _ w, this, Result.andThen_ok, Sem.run_pure]
theorem rv_faE {A : Option Addr} {i f k : Nat} (hf : FA P t f k) (hx : Vw g (ev E x) (.pointer (some (elt A i)))) : RV P I E g (.fieldAddr t x f) (.pointer (some (elt A (i + k)))) := fun h w i' d ty pos af gd => by
 simp only [execOp, hx h, Sem.run_bind, hf _ w, elt_add, Result.andThen_ok, Sem.run_pure]
theorem run_loadVar_agg {n : Nat} (ht : Agg P t n) {w : World} {a : Addr} {cs : List Value} (hn : cs.length = n) (h : ∀ j v, cs[j]? = some v → w.cell? (a.add j) = some v) : (loadVar t a).run P w = .ok (.agg cs.toArray) w := by
 unfold loadVar
 have := run_loadCells_list (P := P) w a cs h
 simp only [Sem.run_bind, (ht w).1, Result.andThen_ok]
 rw [← hn] at ht
 simp [(ht w).2, this]
theorem rv_ldA {B n : Nat} {l : List Value} {tb : TypeId} (ht : Agg P t n) (hx : Vw g (ev E x) (.pointer (some ⟨B, 0, none⟩))) [hl : Lk I B l tb] (hn : l.length = n) : RV P I E g (.load t x) (.agg l.toArray) := fun h w i d ty pos af gd => by
 have := run_loadVar_agg (P := P) ht (w := w) (a := ⟨B, 0, none⟩) hn (fun j v hj => by rw [add_lit]; exact cell_blk (hl.out w i) hj)
 simp [execOp, hx h, Instr.loadAt, Instr.sureAddr, this]
theorem rv_ldP {B off n : Nat} {l cs : List Value} {tb : TypeId} (ht : Agg P t n) (hx : Vw g (ev E x) (.pointer (some ⟨B, off, none⟩))) [hl : Lk I B l tb] (hc : (l.drop off).take n = cs) (hn : cs.length = n) : RV P I E g (.load t x) (.agg cs.toArray) := fun h w i d ty pos af gd => by
 have := run_loadVar_agg (P := P) ht (w := w) (a := ⟨B, off, none⟩) hn (fun j v hj => by
  have ha : (⟨B, off, none⟩ : Addr).add j = ⟨B, off + j, none⟩ := by
   unfold Addr.add; split
   · rename_i e; subst e; rfl
   · rfl
  rw [ha]
  refine cell_blk (hl.out w i) ?_
  rw [← hc, List.getElem?_take] at hj
  split at hj
  · simpa [List.getElem?_drop] using hj
  · cases hj)
 simp [execOp, hx h, Instr.loadAt, Instr.sureAddr, this]
theorem rv_ldEA {A : Option Addr} {j n sz m c : Nat} {cells cs : List Value} (ht : Agg P t n) (hx : Vw g (ev E x) (.pointer (some (elt A j)))) [hl : LkR I A sz m c cells] (hc : g = true → (cells.drop j).take n = cs) (hn : g = true → cs.length = n) : RV P I E g (.load t x) (.agg cs.toArray) := fun h w i d ty pos af gd => by
 have := run_loadVar_agg (P := P) ht (w := w) (a := elt A j) (hn h) (fun k v hk => by
  rw [elt_add]
  refine (row_ok.1 (hl.out w i)).2.2.2.2.2 _ v ?_
  rw [← hc h, List.getElem?_take] at hk
  split at hk
  · simpa [List.getElem?_drop] using hk
  · cases hk)
 simp [execOp, hx h, Instr.loadAt, Instr.sureAddr, this]
theorem rv_len {A : Option Addr} {n c : Nat} {e sz bs : Nat} (ht : El P t e sz bs) (hx : Vw g (ev E x) (.slice A n c)) : RV P I E g (.call { callee := .builtin .len, args := [x].toArray, argTypes := [t].toArray }) (.int .i64 n) := fun h w i d ty pos af gd => by
 obtain ⟨_, _, h1, _⟩ := ht.out
 simp [execOp, hx h, resolve, invoke, builtin, Builtin.len_, underlying, h1, goInt]
@[irreducible] def cut (A : Option Addr) (c sz l : Nat) : Option Addr := if c = l then A else A.map (·.add (l * sz))
theorem sizeOf_run {e sz bs : Nat} (ht : El P t e sz bs) (w : World) : (sizeOf e).run P w = .ok sz w := by
 obtain ⟨i, z, h1, h2, h3, h4, _⟩ := ht.out
 simp [sizeOf, typeInfo, h2, h4]
theorem rv_slH {A : Option Addr} {n c e sz bs h : Nat} {k : IntKind} {j : Int} (ht : El P t e sz bs) (hx : Vw g (ev E x) (.slice A n c)) (hy : Vw g (ev E y) (.int k j)) (hj : g = true → j = (h : Int)) (hh : g = true → h ≤ c) : RV P I E g (.slice t x none (some y) none) (.slice A h c) := fun q w i d ty pos af gd => by
 obtain ⟨_, _, h1, _⟩ := ht.out
 have e1 := hj q; have e2 := hh q; subst e1
 have e3 : (h : Int) ≤ (c : Int) := by omega
 have e4 := sizeOf_run ht w
 by_cases hc : c = 0
 · subst hc
   have : h = 0 := by omega
   subst this
   simp [execOp, hx q, hy q, Instr.sliceAt, Instr.slice, Instr.sliceBounds, Instr.sliceBound, asIntOf, underlying, h1, e4]
 · simp [execOp, hx q, hy q, Instr.sliceAt, Instr.slice, Instr.sliceBounds, Instr.sliceBound, asIntOf, underlying, h1, e2, e4, hc, Addr.add]
theorem rv_slL {A : Option Addr} {n c e sz bs l : Nat} {k : IntKind} {j : Int} (ht : El P t e sz bs) (hx : Vw g (ev E x) (.slice A n c)) (hy : Vw g (ev E y) (.int k j)) (hj : g = true → j = (l : Int)) (hh : g = true → l ≤ n) : RV P I E g (.slice t x (some y) none none) (.slice (cut A c sz l) (n - l) (c - l)) := fun q w i d ty pos af gd => by
 obtain ⟨_, _, h1, _⟩ := ht.out
 have e1 := hj q; have e2 := hh q; subst e1
 have e3 : (l : Int) ≤ (n : Int) := by omega
 have e4 := sizeOf_run ht w
 unfold cut
 simp [execOp, hx q, hy q, Instr.sliceAt, Instr.slice, Instr.sliceBounds, Instr.sliceBound, asIntOf, underlying, h1, e2, e4]
theorem rv_slB {A : Option Addr} {n c e sz bs l h : Nat} {k k' : IntKind} {j j' : Int} {z : Operand} (ht : El P t e sz bs) (hx : Vw g (ev E x) (.slice A n c)) (hy : Vw g (ev E y) (.int k j)) (hz : Vw g (ev E z) (.int k' j')) (hj : g = true → j = (l : Int)) (hj' : g = true → j' = (h : Int)) (hh : g = true → l ≤ h ∧ h ≤ c) : RV P I E g (.slice t x (some y) (some z) none) (.slice (cut A c sz l) (h - l) (c - l)) := fun q w i d ty pos af gd => by
 obtain ⟨_, _, h1, _⟩ := ht.out
 have e1 := hj q; have e5 := hj' q; have e2 := hh q; subst e1; subst e5
 have e3 : (l : Int) ≤ (h : Int) := by omega
 have e6 : (h : Int) ≤ (c : Int) := by omega
 have e4 := sizeOf_run ht w
 unfold cut
 simp [execOp, hx q, hy q, hz q, Instr.sliceAt, Instr.slice, Instr.sliceBounds, Instr.sliceBound, asIntOf, underlying, h1, e2.1, e2.2, e4]
theorem rv_ix {A : Option Addr} {n c e sz bs i : Nat} {k : IntKind} {j : Int} (ht : El P t e sz bs) (hx : Vw g (ev E x) (.slice A n c)) (hy : Vw g (ev E y) (.int k j)) (hj : g = true → j = (i : Int)) (hh : g = true → i < n) (hA : g = true → A ≠ none) : RV P I E g (.indexAddr t x y) (.pointer (some (elt A (i * sz)))) := fun q w iw d ty pos af gd => by
 obtain ⟨_, _, h1, _⟩ := ht.out
 have e1 := hj q; have e2 := hh q; subst e1
 have e3 : (i : Int) < (n : Int) := by omega
 have e4 := sizeOf_run ht w
 cases A with
 | none => exact absurd rfl (hA q)
 | some ad => simp [execOp, hx q, hy q, Instr.indexAt, asIntOf, underlying, h1, e2, e4, elt_some]
end
def Lay (P : Program) (t : TypeId) (fs : List (Nat × Nat)) : Prop := ∀ w, (∃ fields, P.underlying t = some (.struct fields) ∧ (fields.mapM fun f => do pure (f.offset, ← sizeOf f.type) : Sem _).run P w = .ok fs.toArray w)
def fillL (fs : List (Nat × Nat)) : List Value → List (Nat × Value) → Option (List Value)
 | z, [] => some z
 | z, (i, v) :: r => match fs[i]? with
  | none => none
  | some (off, size) => bif (cellsL v).length == size && Nat.ble (off + size) z.length then fillL fs (putAll z off (cellsL v)) r else none
theorem foldl_put (vs : List Value) : ∀ (l : List Value) (off k : Nat), off + k + vs.length ≤ l.length → (vs.zipIdx k).foldl (fun (cs : Array Value) (x : Value × Nat) => cs.setIfInBounds (off + x.2) x.1) l.toArray = (putAll l (off + k) vs).toArray := by
 induction vs with
 | nil => intro l off k _; rfl
 | cons v vs ih =>
  intro l off k h
  simp only [List.zipIdx_cons, List.foldl_cons, putAll]
  have : l.toArray.setIfInBounds (off + k) v = (l.set (off + k) v).toArray := by simp
  rw [this, ih (l.set (off + k) v) off (k + 1) (by simp at h ⊢; omega)]
  rfl
theorem fill_fillL (fs : List (Nat × Nat)) : ∀ (r : List (Nat × Value)) (z z' : List Value), fillL fs z r = some z' → Instr.fill (fs.toArray[·]?) z.toArray r = some z'.toArray := by
 intro r
 induction r with
 | nil => intro z z' h; simp only [fillL, Option.some.injEq] at h; subst h; rfl
 | cons p r ih =>
  obtain ⟨i, v⟩ := p
  intro z z' h
  simp only [fillL] at h
  simp only [Instr.fill, List.getElem?_toArray]
  cases hf : fs[i]? with
  | none => rw [hf] at h; cases h
  | some q =>
   obtain ⟨off, size⟩ := q
   rw [hf] at h
   simp only [] at h ⊢
   cases hb : ((cellsL v).length == size && Nat.ble (off + size) z.length) with
   | false => rw [hb] at h; cases h
   | true =>
    rw [hb] at h
    simp only [Bool.and_eq_true, beq_iff_eq, Nat.ble_eq] at hb
    have hs : v.cells.size = size := by rw [cellsL_eq]; simpa using hb.1
    have hne : ¬ ((decide (v.cells.size ≠ size) || decide (off + v.cells.size > z.toArray.size)) = true) := by simp [hs]; omega
    rw [if_neg hne]
    have e : (Array.foldl (fun (cs : Array Value) (x : Value × Nat) => cs.setIfInBounds (off + x.2) x.1) z.toArray v.cells.zipIdx) = (putAll z off (cellsL v)).toArray := by
     rw [cellsL_eq, ← Array.foldl_toList]
     have := foldl_put (cellsL v) z off 0 (by omega)
     simpa using this
    have := ih _ _ h
    rw [← e] at this
    simpa using this
def prs (E : Env) : List (Nat × Operand) → List (Nat × Value)
 | [] => []
 | (i, x) :: l => (i, ev E x) :: prs E l
theorem prs_eq (E : Env) (l : List (Nat × Operand)) : prs E l = l.map fun (i, x) => (i, ev E x) := by
 induction l with
 | nil => rfl
 | cons p l ih => simp [prs, ih]
section
variable {P : Program} {I : World → Prop} {E : Env} {g : Bool} {t : TypeId}
theorem rv_bld {ps : List (Nat × Operand)} {fs : List (Nat × Nat)} {z z' : List Value} (hz : ZeroOf P t z) (hl : Lay P t fs) (hv : g = true → fillL fs z (prs E ps) = some z') : RV P I E g (.build t ps.toArray) (.agg z'.toArray) := fun q w iw d ty pos af gd => by
 obtain ⟨v, hv0, rfl⟩ := hz
 obtain ⟨fields, h1, h2⟩ := hl w
 have h3 := fill_fillL fs _ _ _ (hv q)
 rw [← cellsL_eq] at h3
 have h4 : (ps.toArray.map fun (i, x) => (i, ev E x)).toList = prs E ps := by rw [prs_eq]; simp
 simp only [execOp, Instr.build, Sem.run_bind, hv0 w, Result.andThen_ok, underlying, run_program, h1, Sem.run_pure, h4]
 have h5 : (fields.mapM fun f => do pure (f.offset, ← sizeOf f.type) : Sem _).run P w = .ok fs.toArray w := h2
 rw [h5]
 simp only [Result.andThen_ok, h3, Sem.run_pure]
end
structure Ct (P : Program) (f : FuncId) (args : List Value) (S T : List Res) (R : Value → List Res → List Res → Prop) : Prop where
 out : ∀ w, Sat w S T → Calls P f args.toArray w fun e w' => ∃ v S' T', e = .returned v ∧ R v S' T' ∧ Turn w w' S S' T' T
def CtD (P : Program) (f : FuncId) (args : List Value) (S T : List Res) (v : Value) (S' T' : List Res) : Prop := Ct P f args S T fun u S1 T1 => u = v ∧ S1 = S' ∧ T1 = T'
def Cb (P : Program) (f : FuncId) : Prop := ∃ fn, P.funcs[f]? = some fn ∧ (fn.name == "runtime.NumGoroutine") = false ∧ fn.body.isNone = false
theorem run_callFunc {P : Program} {f : FuncId} (h : Cb P f) (args : Array Value) (w : World) : (callFunc f args).run P w = .ok (.enter f args) w := by
 obtain ⟨fn, h1, h2, h3⟩ := h
 have h4 : ¬ fn.name = "runtime.NumGoroutine" := by simpa using h2
 have h5 : ¬ fn.body = none := fun e => by rw [e] at h3; cases h3
 simp [callFunc, h1, h4, h5]
class App (l l' : List Res) (r : outParam (List Res)) : Prop where
 out : r = l ++ l'
instance app0 {l : List Res} : App [] l l := ⟨rfl⟩
instance app1 {R : Res} {l l' r : List Res} [h : App l l' r] : App (R :: l) l' (R :: r) := ⟨by rw [h.out]; rfl⟩
theorem Sat.sub {w : World} {S S' T : List Res} (h : Sat w S T) {r : List Res} (hp : Pull S S' r) : Sat w S' T :=
 ⟨fun x hx => h.okS x ((hp.mem x).2 (.inl hx)), h.okT, (hp.pair h.sep).1, fun x hx => h.sepT x ((hp.mem x).2 (.inl hx))⟩
theorem Sat.subT {w : World} {S T T' : List Res} (h : Sat w S T) (ht : ∀ x ∈ T', x ∈ T) : Sat w S T' :=
 ⟨h.okS, fun x hx => h.okT x (ht x hx), h.sep, fun x hx y hy => h.sepT x hx y (ht y hy)⟩
section rules
variable {c : Ctx} {Q : Post} {E : Env} {S T : List Res} {ops : Array Oper} {rest : List Oper} {d : Nat} {ty : TypeId} {pos : String} {af : Array Edge}
theorem GL_callC {x : Operand} {xs : List Operand} {ats : Array TypeId} {f : FuncId} {first cap : List Value} {args : List Value} {S1 T1 r : List Res} {R : Value → List Res → List Res → Prop} (hd : Nat.blt d c.n = true)
 (hx : ev E x = .func (.func f) first.toArray cap.toArray) (hcb : Cb c.P f) (ha : first ++ evs E xs ++ cap = args) (hc : Ct c.P f args S1 T1 R) (hp : Pull S S1 r) (ht : Sub T1 T)
 (k : ∀ v S' T', R v S' T' → GL c ops rest Q (upd E d v) (S' ++ r) (T' ++ T)) :
 GL c ops (⟨some d, .call { callee := .value x, args := xs.toArray, argTypes := ats }, ty, pos, af, none⟩ :: rest) Q E S T := fun w a hr hs => by
 refine wpList_plain rfl (fun K hK => ?_)
 have hargs : first.toArray ++ (xs.toArray.map (ev E)) ++ cap.toArray = args.toArray := by rw [← ha, evs_eq]; simp
 unfold Oper.wp
 simp only [execOp, resolve, Deferred.ofValue, hr.eval, hx, Sem.run_bind, Sem.run_pure, Result.andThen_ok, invoke, hargs, run_callFunc hcb, Oper.upon]
 refine (hc.out w ((hs.sat.sub hp).subT ht.mem)).mono ?_
 rintro e w' ⟨v, S', T', rfl, hR, hn⟩
 exact hK _ _ (k v S' T' hR w' _ (hr.put hd v) (hs.turn hp ht.mem hn))
theorem GL_call {xs : List Operand} {ats : Array TypeId} {f : FuncId} {args : List Value} {S1 T1 r : List Res} {R : Value → List Res → List Res → Prop} (hd : Nat.blt d c.n = true)
 (hcb : Cb c.P f) (hc : Ct c.P f args S1 T1 R) (ha : evs E xs = args) (hp : Pull S S1 r) (ht : Sub T1 T)
 (k : ∀ v S' T', R v S' T' → GL c ops rest Q (upd E d v) (S' ++ r) (T' ++ T)) :
 GL c ops (⟨some d, .call { callee := .value (.func f), args := xs.toArray, argTypes := ats }, ty, pos, af, none⟩ :: rest) Q E S T :=
 GL_callC (first := []) (cap := []) hd rfl hcb (by simpa using ha) hc hp ht k
theorem GL_callD {xs : List Operand} {ats : Array TypeId} {f : FuncId} {args : List Value} {S1 T1 r S' T' S2 T2 : List Res} {v : Value} (hd : Nat.blt d c.n = true)
 (hcb : Cb c.P f) (hc : CtD c.P f args S1 T1 v S' T') (ha : evs E xs = args) (hp : Pull S S1 r) (ht : Sub T1 T) [h1 : App S' r S2] [h2 : App T' T T2]
 (k : GL c ops rest Q (upd E d v) S2 T2) :
 GL c ops (⟨some d, .call { callee := .value (.func f), args := xs.toArray, argTypes := ats }, ty, pos, af, none⟩ :: rest) Q E S T :=
 GL_call hd hcb hc ha hp ht (by rintro _ _ _ ⟨rfl, rfl, rfl⟩; rw [← h1.out, ← h2.out]; exact k)
theorem GL_callCD {x : Operand} {xs : List Operand} {ats : Array TypeId} {f : FuncId} {first cap : List Value} {args : List Value} {S1 T1 r S' T' S2 T2 : List Res} {v : Value} (hd : Nat.blt d c.n = true)
 (hx : ev E x = .func (.func f) first.toArray cap.toArray) (hcb : Cb c.P f) (ha : first ++ evs E xs ++ cap = args) (hc : CtD c.P f args S1 T1 v S' T') (hp : Pull S S1 r) (ht : Sub T1 T) [h1 : App S' r S2] [h2 : App T' T T2]
 (k : GL c ops rest Q (upd E d v) S2 T2) :
 GL c ops (⟨some d, .call { callee := .value x, args := xs.toArray, argTypes := ats }, ty, pos, af, none⟩ :: rest) Q E S T :=
 GL_callC hd hx hcb ha hc hp ht (by rintro _ _ _ ⟨rfl, rfl, rfl⟩; rw [← h1.out, ← h2.out]; exact k)
theorem GL_drop {l : List Oper} {S' r : List Res} (hp : Pull S S' r) (k : GL c ops l Q E S' T) : GL c ops l Q E S T := fun w a hr hs =>
 k w a hr ⟨hs.go, hs.sat.sub hp, fun x hx => hs.own x ((hp.mem x).2 (.inl hx)), hs.seen⟩
theorem GC_drop {x : Code} {S' r : List Res} (hp : Pull S S' r) (k : GC c x Q E S' T) : GC c x Q E S T := fun w a hr hs =>
 k w a hr ⟨hs.go, hs.sat.sub hp, fun x hx => hs.own x ((hp.mem x).2 (.inl hx)), hs.seen⟩
theorem St.shift {w : World} {S1 r S' T' : List Res} (hs : St c w S T) (hp : Pull S S1 r) (hn : Turn w w S1 S' T' T) : St c w (S' ++ r) (T' ++ T) := hs.turn hp (fun _ h => h) hn
def Shift (S1 T S' T' : List Res) : Prop := ∀ w, Sat w S1 T → Turn w w S1 S' T' T
theorem GL_shift {l : List Oper} {S1 r S' T' S2 T2 : List Res} (hp : Pull S S1 r) (hn : Shift S1 T S' T') [h1 : App S' r S2] [h2 : App T' T T2] (k : GL c ops l Q E S2 T2) : GL c ops l Q E S T := fun w a hr hs => by
 have := hs.shift hp (hn w (hs.sat.sub hp))
 rw [← h1.out, ← h2.out] at this
 exact k w a hr this
theorem GC_shift {x : Code} {S1 r S' T' S2 T2 : List Res} (hp : Pull S S1 r) (hn : Shift S1 T S' T') [h1 : App S' r S2] [h2 : App T' T T2] (k : GC c x Q E S2 T2) : GC c x Q E S T := fun w a hr hs => by
 have := hs.shift hp (hn w (hs.sat.sub hp))
 rw [← h1.out, ← h2.out] at this
 exact k w a hr this
end rules
def Fin (fn : Func) (P : Program) (c : Ctx) (R : Value → List Res → List Res → Prop) : Post := fun e E S T =>
 (e = .normal ∨ e = .ret) ∧ ∀ w a, Rd a c E → St c w S T → ∃ v S' T' r, (results fn a.tmps).run P w = .ok v w ∧ Pull S S' r ∧ (∀ x ∈ T', x ∈ T) ∧ R v S' T'
theorem Ct_of {P : Program} {f : FuncId} {fn : Func} {code : Code} {args : List Value} {S T : List Res} {R : Value → List Res → List Res → Prop} (hf : P.funcs[f]? = some fn) (hb : fn.body = some code) (n : Nat) (hn : fn.ntmps = n) (ha : args.length ≤ n)
 (h : ∀ (w0 : World) (M N : Nat → Prop), GC ⟨P, n, w0, M, N, []⟩ code (Fin fn P ⟨P, n, w0, M, N, []⟩ R) (env args) S T) : Ct P f args S T R := by
 refine ⟨fun w hs => ?_⟩
 subst hn
 refine calls_of_wp hf hb (wp_mono (h w (fpl S) (fpl T) w _ ⟨rfl, ?_, ?_⟩ ⟨Go1.refl _ w, hs, fun x hx b hb => .inl ⟨x, hx, hb⟩, fun x hx b hb => .inr (.inr ⟨x, hx, hb⟩)⟩) ?_)
 · simp; omega
 · intro i
   rw [env_eq]
   simp only [List.append_toArray, Array.getD_eq_getD_getElem?, List.getD_eq_getElem?_getD]
   by_cases hi : i < args.length
   · simp [Array.getElem?_append, hi]
   · simp only [List.size_toArray, Array.getElem?_append, hi, if_false]
     rw [List.getElem?_eq_none (by omega : args.length ≤ i)]
     simp only [Array.getElem?_replicate]
     split <;> rfl
 · rintro e a w' ⟨E, S1, T1, hr, hs1, he, hq⟩
   obtain ⟨v, S', T', r, h1, h2, h3, h4⟩ := hq w' a hr hs1
   have hp : bodyPost P fn (fun e w' => ∃ v S' T', e = .returned v ∧ R v S' T' ∧ Turn w w' S S' T' T) e a w' ↔ (a.defers = [] ∧ ∃ v, (results fn a.tmps).run P w' = .ok v w' ∧ ∃ v' S' T', Ending.returned v = .returned v' ∧ R v' S' T' ∧ Turn w w' S S' T' T) := by
    rcases he with rfl | rfl <;> rfl
   rw [hp]
   refine ⟨hr.dfr, v, h1, v, S', T', rfl, h4, ⟨hs1.go, (hs1.sat.sub h2).subT h3, fun x hx => hs1.own x ((h2.mem x).2 (.inl hx)), fun x hx => hs1.seen x (h3 x hx)⟩⟩
section
variable {P : Program} {c : Ctx} {fn : Func} {R : Value → List Res → List Res → Prop} {E : Env} {S T S' T' r : List Res} {e : Exit}
theorem fin1 {t : Tmp} {v : Value} (he : e = .normal ∨ e = .ret) (hf : fn.results = #[.tmp t]) (hv : E t = v) (hp : Pull S S' r) (ht : Sub T' T) (hR : R v S' T') : Fin fn P c R e E S T :=
 ⟨he, fun w a hr hs => ⟨v, S', T', r, by rw [results_tmp hf, hr.at_ t, hv], hp, ht.mem, hR⟩⟩
theorem fin2 {t u : Tmp} {v v' : Value} (he : e = .normal ∨ e = .ret) (hf : fn.results = #[.tmp t, .tmp u]) (hv : E t = v) (hv' : E u = v') (hp : Pull S S' r) (ht : Sub T' T) (hR : R (.tuple #[v, v']) S' T') : Fin fn P c R e E S T :=
 ⟨he, fun w a hr hs => ⟨_, S', T', r, by rw [results_tmp2 hf, hr.at_ t, hr.at_ u, hv, hv'], hp, ht.mem, hR⟩⟩
theorem fin0 (he : e = .normal ∨ e = .ret) (hf : fn.results = #[]) (hp : Pull S S' r) (ht : Sub T' T) (hR : R (.tuple #[]) S' T') : Fin fn P c R e E S T :=
 ⟨he, fun w a hr hs => ⟨_, S', T', r, results_none hf _ _ _, hp, ht.mem, hR⟩⟩
theorem finA {p u : Tmp} {tt : TypeId} {v' : Value} {B n : Nat} {l : List Value} {tb : TypeId} (he : e = .normal ∨ e = .ret) (hf : fn.results = #[.cell p tt, .tmp u]) (hp0 : E p = .pointer (some ⟨B, 0, none⟩)) (hv' : E u = v') (hb : HasB B l tb S) (hA : Agg P tt n) (hn : l.length = n) (hp : Pull S S' r) (ht : Sub T' T) (hR : R (.tuple #[.agg l.toArray, v']) S' T') : Fin fn P c R e E S T :=
 ⟨he, fun w a hr hs => ⟨_, S', T', r, by
  have := run_loadVar_agg (P := P) hA (w := w) (a := ⟨B, 0, none⟩) hn (fun j v hj => by rw [add_lit]; exact cell_blk (hs.sat.okS _ hb.mem) hj)
  simp only [results, hf]
  simp [hr.at_, hp0, hv', asAddr, this], hp, ht.mem, hR⟩⟩
theorem finS {p : Tmp} {tt : TypeId} {B n : Nat} {l : List Value} {tb : TypeId} (he : e = .normal ∨ e = .ret) (hf : fn.results = #[.cell p tt]) (hp0 : E p = .pointer (some ⟨B, 0, none⟩)) (hb : HasB B l tb S) (hA : Agg P tt n) (hn : l.length = n) (hp : Pull S S' r) (ht : Sub T' T) (hR : R (.agg l.toArray) S' T') : Fin fn P c R e E S T :=
 ⟨he, fun w a hr hs => ⟨_, S', T', r, by
  have := run_loadVar_agg (P := P) hA (w := w) (a := ⟨B, 0, none⟩) hn (fun j v hj => by rw [add_lit]; exact cell_blk (hs.sat.okS _ hb.mem) hj)
  simp only [results, hf]
  simp [hr.at_, hp0, asAddr, this], hp, ht.mem, hR⟩⟩
end
def anyX (P : Program) (ops : Array Oper) (Q : Exit → Act → World → Prop) (x : Nat) (I : World → Prop) : Nat → Array Bool → Act → World → Prop
 | 0, l, a, w => Region.ready .any ops l = [] ∧ Q .normal a w
 | f + 1, l, a, w => (Region.ready .any ops l = [] → Q .normal a w) ∧ ∀ i ∈ Region.ready .any ops l, wpOp P ops Q i (fun a' w' => (i < x → I w') ∧ anyX P ops Q x I f (l.setIfInBounds i true) a' w') a w
section
variable {P : Program} {ops : Array Oper} {Q : Exit → Act → World → Prop} {x : Nat} {I : World → Prop}
theorem anyX_sound : ∀ (f : Nat) (l : Array Bool) (a : Act) (w : World), anyX P ops Q x I f l a w → wpAny P .any ops Q f l a w := by
 intro f
 induction f with
 | zero => intro l a w h; exact h
 | succ f ih => intro l a w h; exact ⟨h.1, fun i hi => wpOp_mono (fun a' w' k => ih _ _ _ k.2) (h.2 i hi)⟩
theorem upon_put {Y : Act → Prop} {oj : Oper} {d : Option Tmp} {v : Value} {K : Act → World → Prop} {a : Act} (hd : ∀ t, d = some t → oj.dst ≠ some t) (hQ : ∀ c a w, Q (.panic c) (a.put d v) w → Q (.panic c) a w)
 (hY : ∀ u, Y (a.put oj.dst u)) (hYd : ∀ q u, Y (({ a with defers := q :: a.defers } : Act).put oj.dst u)) (r : Result Next) (h : oj.upon P (a.put d v) K Q r) : oj.upon P a (fun a' w' => Y a' ∧ K (a'.put d v) w') Q r := by
 have step : ∀ (b : Act) u w', K ((b.put d v).put oj.dst u) w' → K ((b.put oj.dst u).put d v) w' := fun b u w' k => by rw [← Act.put_comm b v u hd]; exact k
 match r, h with
 | .ok (.value u) w', h => exact ⟨hY u, step _ _ _ h⟩
 | .ok .skip w', h => exact ⟨hY undef, step _ _ _ h⟩
 | .ok (.defer q) w', h =>
  refine ⟨hYd q undef, step { a with defers := q :: a.defers } undef w' ?_⟩
  rw [← Act.put_defers]; exact h
 | .ok (.enter f args) w', h =>
  rw [Oper.upon_enter] at h ⊢
  refine Calls.mono h fun e w'' k => ?_
  cases e with
  | returned u => exact ⟨hY u, step _ _ _ k⟩
  | panicked ch => exact hQ _ _ _ k
  | outgrown => exact k
 | .ok (.row row args) w', h => exact Rows.mono h fun u w'' k => ⟨hY u, step _ _ _ k⟩
 | .halt (.panic u) w', h => exact hQ _ _ _ h
def YI (P : Program) (ops : Array Oper) (I : World → Prop) (o : Oper) (v : Value) (a : Act) : Prop :=
 (Region.wanted o (yielded ops a.tmps) = true ∧ ∀ w, I w → (execOp a.eval o).run P w = .ok (.value v) w) ∨ (Region.wanted o (yielded ops a.tmps) = false ∧ v = undef)
theorem YI.same {o : Oper} {v : Value} {a a' : Act} (h : YI P ops I o v a) (he : execOp a'.eval o = execOp a.eval o) (hw : Region.wanted o (yielded ops a'.tmps) = Region.wanted o (yielded ops a.tmps)) : YI P ops I o v a' := by
 unfold YI at *; rw [he, hw]; exact h
theorem YI.op {i : Nat} {o : Oper} {v : Value} {a : Act} (hi : ops[i]? = some o) (h : YI P ops I o v a) {K : Act → World → Prop} {w : World} (hI : I w) (k : K (a.put o.dst v) w) : wpOp P ops Q i K a w := by
 unfold wpOp
 rw [hi]
 rcases h with ⟨h1, h2⟩ | ⟨h1, rfl⟩
 · simp only [h1, if_true]; left; unfold Oper.wp; rw [h2 w hI]; exact k
 · simp only [h1]; exact k
theorem wpOp_putY {j : Nat} {oi oj : Oper} {v : Value} (hj : ops[j]? = some oj) (hap : oi.apart ops oj = true) (hsi : ∀ cs b, oi.op ≠ .select cs b) (hsj : ∀ cs b, oj.op ≠ .select cs b)
 (hQ : ∀ c a w, Q (.panic c) (a.put oi.dst v) w → Q (.panic c) a w) {K : Act → World → Prop} {a : Act} {w : World} (hy : YI P ops I oi v a) (h : wpOp P ops Q j K (a.put oi.dst v) w) :
 wpOp P ops Q j (fun a' w' => YI P ops I oi v a' ∧ K (a'.put oi.dst v) w') a w := by
 obtain ⟨h1, h2, h3⟩ := Oper.apart_spec hap
 have keep : ∀ b : Act, YI P ops I oi v b → ∀ u, YI P ops I oi v (b.put oj.dst u) := fun b hb u => hb.same (execOp_put oi hsi b oj.dst u h3) (wanted_put oi b oj.dst u h3)
 unfold wpOp at *
 rw [hj] at *
 simp only [wanted_put oj a oi.dst v h1] at h ⊢
 by_cases hw : Region.wanted oj (yielded ops a.tmps) = true
 · rw [if_pos hw] at h ⊢
   rcases h with h | ⟨ha, hl⟩
   · left
     unfold Oper.wp at *
     rw [execOp_put oj hsj a oi.dst v h1] at h
     exact upon_put h2 hQ (fun u => keep a hy u) (fun q u => keep { a with defers := q :: a.defers } (hy.same rfl rfl) u) _ h
   · right
     refine ⟨?_, hl⟩
     unfold Oper.asks at *
     rw [execOp_put oj hsj a oi.dst v h1] at ha
     exact ha
 · rw [if_neg hw] at h ⊢
   exact ⟨keep a hy undef, by rw [← Act.put_comm a v undef h2]; exact h⟩
theorem anyX_first {i : Nat} {oi : Oper} {v : Value} {J : World → Prop} (hi : ops[i]? = some oi) (hsel : Region.noSelect ops = true) (hQ : ∀ c a w, Q (.panic c) (a.put oi.dst v) w → Q (.panic c) a w)
 (hx : i < x → ∀ w, J w → I w) (hJ : ∀ w, (∀ j, j < x → True) → (I w → J w) ∨ (∀ w, J w)) :
 ∀ (f : Nat) (l : Array Bool) (a : Act) (w : World),
  (∀ j oj, ops[j]? = some oj → j ≠ i → l.getD j true = false → (∀ e ∈ oj.after, Region.binds .any e = true → e.on ≠ i) → oi.apart ops oj = true ∧ ((∀ w, J w) ∨ j < x)) →
  i ∈ Region.ready .any ops l → YI P ops J oi v a → J w → anyX P ops Q x I f (l.setIfInBounds i true) (a.put oi.dst v) w → anyX P ops Q x I (f + 1) l a w := by
 intro f
 induction f with
 | zero =>
  intro l a w _ hr hy hw H
  refine ⟨fun h => (by rw [h] at hr; cases hr), fun j hj => ?_⟩
  by_cases hji : j = i
  · subst hji; exact hy.op hi hw ⟨fun h => hx h w hw, H⟩
  · have := ready_mono hj hji
    rw [H.1] at this
    cases this
 | succ f ih =>
  intro l a w hfree hr hy hw H
  refine ⟨fun h => (by rw [h] at hr; cases hr), fun j hj => ?_⟩
  by_cases hji : j = i
  · subst hji; exact hy.op hi hw ⟨fun h => hx h w hw, H⟩
  · have h1 := H.2 j (ready_mono hj hji)
    obtain ⟨hjun, oj, hoj, hall⟩ := mem_ready.1 hj
    have hnot : ∀ e ∈ oj.after, Region.binds .any e = true → e.on ≠ i := fun e he hb heq => by
     have h1 := hall e he hb
     have h0 := (mem_ready.1 hr).1
     rw [heq] at h1
     rcases Nat.lt_or_ge i l.size with h' | h'
     · simp [h'] at h0 h1; rw [h0] at h1; cases h1
     · simp [Array.getElem?_eq_none h'] at h1
    obtain ⟨hap, hjx⟩ := hfree j oj hoj hji hjun hnot
    have h2 := wpOp_putY (I := J) hoj hap (fun cs b => Region.noSelect_spec hsel i oi cs b hi) (fun cs b => Region.noSelect_spec hsel j oj cs b hoj) hQ hy h1
    refine wpOp_mono (fun a' w' h3 => ⟨h3.2.1, ih (l.setIfInBounds j true) a' w' ?_ (ready_mono hr (Ne.symm hji)) h3.1 ?_ ?_⟩) h2
    · intro k ok hk hki hun hno
      refine hfree k ok hk hki ?_ hno
      by_cases hjk : j = k
      · subst hjk; exact hjun
      · rw [getD_set_ne true hjk] at hun; exact hun
    · rcases hjx with hjx | hjx
      · exact hjx w'
      · rcases hJ w' (fun _ _ => trivial) with hh | hh
        · exact hh (h3.2.1 hjx)
        · exact hh w'
    · rw [Array.setIfInBounds_comm _ _ hji]
      exact h3.2.2
def freeX (ops : Array Oper) (l : Array Bool) (x i : Nat) : Bool :=
 match ops[i]? with
 | none => false
 | some oi => (List.range ops.size).all fun j => j == i || l.getD j true || match ops[j]? with
  | some oj => oj.after.any (fun e => Region.binds .any e && e.on == i) || (oi.apart ops oj && (Nat.ble x i || Nat.blt j x))
  | none => true
theorem freeX_spec {l : Array Bool} {i : Nat} {oi : Oper} (hi : ops[i]? = some oi) (h : freeX ops l x i = true) (j : Nat) (oj : Oper) (hj : ops[j]? = some oj) (hne : j ≠ i) (hun : l.getD j true = false) (hno : ∀ e ∈ oj.after, Region.binds .any e = true → e.on ≠ i) :
 oi.apart ops oj = true ∧ (x ≤ i ∨ j < x) := by
 simp only [freeX, hi, List.all_eq_true, List.mem_range] at h
 have h1 := h j (Array.getElem?_eq_some_iff.1 hj).1
 simp only [hj, Bool.or_eq_true, beq_iff_eq, hne, false_or, hun, Bool.false_eq_true, Bool.and_eq_true, Nat.ble_eq] at h1
 rcases h1 with h1 | h1
 · obtain ⟨e, he, hb⟩ := Array.any_eq_true'.1 h1
   simp only [Bool.and_eq_true, beq_iff_eq] at hb
   exact absurd hb.2 (hno e he hb.1)
 · exact ⟨h1.1, by simpa using h1.2⟩
end
def GA (c : Ctx) (ops : Array Oper) (x : Nat) (H : List Res) (f : Nat) (l : Array Bool) (Q : Post) (E : Env) (S T : List Res) : Prop :=
 ∀ w a, Rd a c E → St c w S T → Held H w → anyX c.P ops (post c Q) x (Held H) f l a w
def NoP (Q : Post) : Prop := ∀ ch E S T, ¬ Q (.panic ch) E S T
class NoPanic (Q : Post) : Prop where
 out : NoP Q
instance noPSq {K : Env → List Res → List Res → Prop} {Q : Post} [h : NoPanic Q] : NoPanic (Sq K Q) := ⟨fun ch E S T k => h.out ch E S T k⟩
instance noPBl {id : Nat} {Q : Post} [h : NoPanic Q] : NoPanic (Bl id Q) := ⟨fun ch E S T k => h.out ch E S T k⟩
instance noPFin {fn : Func} {P : Program} {c : Ctx} {R : Value → List Res → List Res → Prop} : NoPanic (Fin fn P c R) := ⟨fun ch E S T k => by rcases k.1 with h | h <;> cases h⟩
class HSub (H S T : List Res) : Prop where
 out : ∀ R ∈ H, R ∈ S ∨ R ∈ T
class Mm (R : Res) (L : List Res) : Prop where
 out : R ∈ L
instance (priority := 1000) mm0 {R : Res} {L : List Res} : Mm R (R :: L) := ⟨List.mem_cons_self ..⟩
instance (priority := 900) mm1 {R x : Res} {L : List Res} [h : Mm R L] : Mm R (x :: L) := ⟨List.mem_cons_of_mem _ h.out⟩
instance hsub0 {S T : List Res} : HSub [] S T := ⟨fun R h => absurd h (by simp)⟩
instance (priority := 1000) hsubS {R : Res} {H S T : List Res} [h1 : Mm R S] [h2 : HSub H S T] : HSub (R :: H) S T := ⟨fun x hx => by
 rcases List.mem_cons.1 hx with rfl | hx
 · exact .inl h1.out
 · exact h2.out x hx⟩
instance (priority := 900) hsubT {R : Res} {H S T : List Res} [h1 : Mm R T] [h2 : HSub H S T] : HSub (R :: H) S T := ⟨fun x hx => by
 rcases List.mem_cons.1 hx with rfl | hx
 · exact .inr h1.out
 · exact h2.out x hx⟩
theorem HSub.held {c : Ctx} {w : World} {H S T : List Res} (h : HSub H S T) (hs : St c w S T) : Held H w := fun R hR => by
 rcases h.out R hR with k | k
 · exact hs.sat.okS R k
 · exact hs.sat.okT R k
section rules
variable {c : Ctx} {Q : Post} {E : Env} {S T H : List Res} {ops : Array Oper} {x f : Nat} {l : Array Bool}
theorem GC_draw {id : Nat} {l : List Oper} (x : Nat) (H : List Res) (hm : c.P.follows .mixedOrders = true) [h : HSub H S T] (k : GA c l.toArray x H l.length (Array.replicate l.length false) Q E S T) : GC c (.region id l.toArray true) Q E S T := fun w a hr hs => by
 refine wp_region_any hm (anyX_sound (x := x) (I := Held H) _ _ _ _ ?_)
 have hs' : St c { w with drawn := w.drawn + 1 } S T := hs.same rfl rfl rfl rfl
 have := k _ a hr hs' (h.held hs')
 simpa using this
theorem GA_nil (hr : Region.ready .any ops l = []) (k : Q .normal E S T) : GA c ops x H f l Q E S T := fun w a ha hs hh => by
 have hk : post c Q .normal a w := ⟨E, S, T, ha, hs, k⟩
 cases f with
 | zero => exact ⟨hr, hk⟩
 | succ f => exact ⟨fun _ => hk, fun i hi => by rw [hr] at hi; cases hi⟩
theorem GA_take {i d : Nat} {o : Oper} {v : Value} {J : World → Prop} [hp : NoPanic Q] (hi : ops[i]? = some o) (hdst : o.dst = some d) (hd : Nat.blt d c.n = true)
 (hc : (Region.noSelect ops && freeX ops l x i && (Region.ready .any ops l).contains i) = true) (hJ : (x ≤ i ∧ ∀ w, J w) ∨ (i < x ∧ J = Held H))
 (hy : ∀ w a, Rd a c E → St c w S T → YI c.P ops J o v a) (k : GA c ops x H f (l.setIfInBounds i true) Q (upd E d v) S T) : GA c ops x H (f + 1) l Q E S T := fun w a ha hs hh => by
 simp only [Bool.and_eq_true] at hc
 have hQ : ∀ ch (a : Act) w, post c Q (.panic ch) (a.put o.dst v) w → post c Q (.panic ch) a w := fun ch a w ⟨E', S', T', _, _, h⟩ => absurd h (hp.out ch E' S' T')
 refine anyX_first (J := J) hi hc.1.1 hQ ?_ ?_ f l a w ?_ (by simpa using hc.2) (hy w a ha hs) ?_ ?_
 · intro hlt w hw
   rcases hJ with ⟨h1, _⟩ | ⟨_, rfl⟩
   · omega
   · exact hw
 · intro w _
   rcases hJ with ⟨_, h1⟩ | ⟨_, rfl⟩
   · exact .inr h1
   · exact .inl id
 · intro j oj hj hne hun hno
   obtain ⟨h1, h2⟩ := freeX_spec hi hc.1.2 j oj hj hne hun hno
   refine ⟨h1, ?_⟩
   rcases hJ with ⟨_, h3⟩ | ⟨h3, _⟩
   · exact .inl h3
   · right; omega
 · rcases hJ with ⟨_, h3⟩ | ⟨_, rfl⟩
   · exact h3 w
   · exact hh
 · rw [hdst]; exact k w _ (ha.put hd v) hs hh
theorem GA_v {i d : Nat} {op : Op} {ty : TypeId} {pos : String} {af : Array Edge} {v : Value} [hp : NoPanic Q] (hd : Nat.blt d c.n = true)
 (hi : ops[i]? = some ⟨some d, op, ty, pos, af, none⟩) (hix : Nat.blt i x = true) (hc : (Region.noSelect ops && freeX ops l x i && (Region.ready .any ops l).contains i) = true)
 (h : RV c.P (Held H) E true op v) (k : GA c ops x H f (l.setIfInBounds i true) Q (upd E d v) S T) : GA c ops x H (f + 1) l Q E S T :=
 GA_take (J := Held H) hi rfl hd hc (.inr ⟨by simpa using hix, rfl⟩) (fun w a ha hs => .inl ⟨rfl, fun w hw => by rw [ha.eval]; exact h rfl w hw _ _ _ _ _⟩) k
theorem GA_w {i d : Nat} {op : Op} {ty : TypeId} {pos : String} {af : Array Edge} {v : Value} [hp : NoPanic Q] (hd : Nat.blt d c.n = true)
 (hi : ops[i]? = some ⟨some d, op, ty, pos, af, none⟩) (hix : Nat.ble x i = true) (hc : (Region.noSelect ops && freeX ops l x i && (Region.ready .any ops l).contains i) = true)
 (h : RV c.P (fun _ => True) E true op v) (k : GA c ops x H f (l.setIfInBounds i true) Q (upd E d v) S T) : GA c ops x H (f + 1) l Q E S T :=
 GA_take (J := fun _ => True) hi rfl hd hc (.inl ⟨by simpa using hix, fun _ => trivial⟩) (fun w a ha hs => .inl ⟨rfl, fun w hw => by rw [ha.eval]; exact h rfl w hw _ _ _ _ _⟩) k
theorem GA_g {i d j s : Nat} {want g : Bool} {op : Op} {ty : TypeId} {pos : String} {af : Array Edge} {v : Value} [hp : NoPanic Q] (hd : Nat.blt d c.n = true)
 (hi : ops[i]? = some ⟨some d, op, ty, pos, af, some (j, want)⟩) (hix : Nat.blt i x = true) (hc : (Region.noSelect ops && freeX ops l x i && (Region.ready .any ops l).contains i) = true)
 (hj : (ops[j]?).bind (·.dst) = some s) (hg : Gv (E s) want g)
 (h : RV c.P (Held H) E g op v) (k : GA c ops x H f (l.setIfInBounds i true) Q (upd E d (gd g v)) S T) : GA c ops x H (f + 1) l Q E S T :=
 GA_take (J := Held H) hi rfl hd hc (.inr ⟨by simpa using hix, rfl⟩) (fun w a ha hs => by
  have hw := wanted_of (ops := ops) (o := ⟨some d, op, ty, pos, af, some (j, want)⟩) ha rfl hj hg
  cases g with
  | true => exact .inl ⟨hw, fun w hw => by rw [ha.eval, gd_true]; exact h rfl w hw _ _ _ _ _⟩
  | false => exact .inr ⟨hw, gd_false _⟩) k
theorem wp_monoQ {P : Program} {o : Oper} {a : Act} {w : World} {K K' : Act → World → Prop} {Q Q' : Exit → Act → World → Prop} (hK : ∀ a w, K a w → K' a w) (hp : ∀ ch a w, Q (.panic ch) a w → Q' (.panic ch) a w) (ho : ∀ a w, Q .outgrown a w → Q' .outgrown a w) (h : o.wp P a w K Q) : o.wp P a w K' Q' := by
 unfold Oper.wp at *
 generalize (execOp a.eval o).run P w = r at *
 match r, h with
 | .ok (.value u) w', h => exact hK _ _ h
 | .ok .skip w', h => exact hK _ _ h
 | .ok (.defer q) w', h => exact hK _ _ h
 | .ok (.enter f args) w', h =>
  rw [Oper.upon_enter] at h ⊢
  refine Calls.mono h fun e w'' k => ?_
  cases e with
  | returned u => exact hK _ _ k
  | panicked ch => exact hp _ _ _ k
  | outgrown => exact let ⟨a, w, q⟩ := k; ⟨a, w, ho a w q⟩
 | .ok (.row row args) w', h => exact Rows.mono h fun u w'' k => hK _ _ k
 | .halt (.panic u) w', h => exact hp _ _ _ h
theorem GA_one (i : Nat) {o : Oper} (hi : ops[i]? = some o) (hix : Nat.blt i x = true) (hr : Region.ready .any ops l = [i])
 (k : GL c ops [o] (Sq (fun E S T => HSub H S T ∧ GA c ops x H f (l.setIfInBounds i true) Q E S T) Q) E S T) : GA c ops x H (f + 1) l Q E S T := fun w a ha hs hh => by
 rw [anyX]
 refine ⟨fun h0 => (by rw [hr] at h0; cases h0), fun j hj => ?_⟩
 rw [hr, List.mem_singleton] at hj
 subst hj
 have hk := k w a ha hs
 unfold wpOp
 rw [hi]
 simp only [wpList] at hk
 have conv : ∀ a' w', post c (Sq (fun E S T => HSub H S T ∧ GA c ops x H f (l.setIfInBounds j true) Q E S T) Q) .normal a' w' → (j < x → Held H w') ∧ anyX c.P ops (post c Q) x (Held H) f (l.setIfInBounds j true) a' w' := by
  rintro a' w' ⟨E', S', T', r1, r2, r3, r4⟩
  have := r3.held r2
  exact ⟨fun _ => this, r4 w' a' r1 r2 this⟩
 by_cases hw : Region.wanted o (yielded ops a.tmps) = true
 · simp only [hw, if_true] at hk ⊢
   rcases hk with hk | ⟨h1, h2⟩
   · exact .inl (wp_monoQ conv (fun _ _ _ q => q) (fun _ _ q => q) hk)
   · exact .inr ⟨h1, h2⟩
 · simp only [hw] at hk ⊢
   exact conv _ _ hk
theorem anyX_done {P : Program} {ops : Array Oper} {Q : Exit → Act → World → Prop} {x : Nat} {I : World → Prop} : ∀ (f : Nat) (l : Array Bool) (a : Act) (w : World), (∀ j, j < x → l.getD j true = true) → anyX P ops Q 0 (Held []) f l a w → anyX P ops Q x I f l a w := by
 intro f
 induction f with
 | zero => intro l a w _ h; exact h
 | succ f ih =>
  intro l a w hl h
  refine ⟨h.1, fun i hi => wpOp_mono (fun a' w' k => ⟨fun hlt => ?_, ih _ _ _ ?_ k.2⟩) (h.2 i hi)⟩
  · have h0 := (mem_ready.1 hi).1
    rw [hl i hlt] at h0; cases h0
  · intro j hj
    by_cases hij : i = j
    · subst hij
      have h0 := (mem_ready.1 hi).1
      rw [hl i hj] at h0; cases h0
    · rw [getD_set_ne true hij]; exact hl j hj
theorem GA_free (hl : ((List.range x).all fun j => l.getD j true) = true) (k : GA c ops 0 [] f l Q E S T) : GA c ops x H f l Q E S T := fun w a ha hs hh => by
 refine anyX_done f l a w ?_ (k w a ha hs (fun R h => absurd h (by simp)))
 simpa [List.all_eq_true] using hl
theorem GA_last (i : Nat) {o : Oper} (hi : ops[i]? = some o) (hr : Region.ready .any ops l = [i])
 (k : GL c ops [o] (Sq (GA c ops 0 [] f (l.setIfInBounds i true) Q) Q) E S T) : GA c ops 0 [] (f + 1) l Q E S T := fun w a ha hs hh => by
 rw [anyX]
 refine ⟨fun h0 => (by rw [hr] at h0; cases h0), fun j hj => ?_⟩
 rw [hr, List.mem_singleton] at hj
 subst hj
 have hk := k w a ha hs
 unfold wpOp
 rw [hi]
 simp only [wpList] at hk
 have conv : ∀ a' w', post c (Sq (GA c ops 0 [] f (l.setIfInBounds j true) Q) Q) .normal a' w' → (j < 0 → Held [] w') ∧ anyX c.P ops (post c Q) 0 (Held []) f (l.setIfInBounds j true) a' w' := by
  rintro a' w' ⟨E', S', T', r1, r2, r4⟩
  exact ⟨fun h => absurd h (Nat.not_lt_zero _), r4 w' a' r1 r2 (fun R h => absurd h (by simp))⟩
 by_cases hw : Region.wanted o (yielded ops a.tmps) = true
 · simp only [hw, if_true] at hk ⊢
   rcases hk with hk | ⟨h1, h2⟩
   · exact .inl (wp_monoQ conv (fun _ _ _ q => q) (fun _ _ q => q) hk)
   · exact .inr ⟨h1, h2⟩
 · simp only [hw] at hk ⊢
   exact conv _ _ hk
end rules
theorem El.run {P : Program} {t e sz bs : Nat} (h : El P t e sz bs) (w : World) : (underlying t).run P w = .ok (.slice e) w := by
 obtain ⟨i, z, h1, _⟩ := h.out
 simp [underlying, h1]
class Src (I : World → Prop) (A : Option Addr) (n c : Nat) (news : outParam (List Value)) : Prop where
 out : ∀ w, I w → (A = none → c = 0) ∧ n ≤ c ∧ (∀ ad, A = some ad → ∀ j v, news[j]? = some v → w.cell? (ad.add j) = some v)
instance (priority := 900) srcR {I : World → Prop} {A : Option Addr} {sz n c : Nat} {news : List Value} [h : LkR I A sz n c news] : Src I A n c news := ⟨fun w k => by
 have := row_ok.1 (h.out w k)
 refine ⟨this.2.2.2.1, this.2.1, fun ad ha j v hj => ?_⟩
 have := this.2.2.2.2.2 j v hj
 rwa [ha, elt_some] at this⟩
instance (priority := 1000) srcB {I : World → Prop} {B n : Nat} {news : List Value} {t : TypeId} [h : Lk I B news t] : Src I (some ⟨B, 0, none⟩) n n news := ⟨fun w k => by
 refine ⟨fun h => (by cases h), Nat.le_refl _, fun ad ha j v hj => ?_⟩
 injection ha with ha
 subst ha
 rw [add_lit]
 exact cell_blk (h.out w k) hj⟩
theorem own_form {w : World} {t : TypeId} {sz n : Nat} {v : Value} {xs : List Value} (h : w.ownsRow 0 t sz v n xs) : ∃ A c, v = .slice A n c := by
 rcases h.2 with ⟨rfl, rfl⟩ | ⟨g, cap, cur, rfl, _⟩
 · exact ⟨none, 0, rfl⟩
 · exact ⟨_, cap, rfl⟩
section rules
variable {c : Ctx} {Q : Post} {E : Env} {S T : List Res} {ops : Array Oper} {rest : List Oper} {d : Nat} {ty : TypeId} {pos : String} {af : Array Edge}
theorem GL_app {t e sz bs : Nat} {s x : Operand} {A A2 : Option Addr} {n k m k2 : Nat} {xs news : List Value} {r : List Res} (hd : Nat.blt d c.n = true) (ht : El c.P t e sz bs)
 (hs : ev E s = .slice A n k) (hx : ev E x = .slice A2 m k2) (hp : Pull S [own e sz A n k xs] r) [hsrc : Src (InS c S T) A2 m k2 news] (hl : news.length = m * sz) (h1 : ∀ u ∈ news, u.oneCell' = true) (hb : (n + m) * bs ≤ 140737488355328) (hm : n + m ≤ maxLen)
 (kk : ∀ A' k', GL c ops rest Q (upd E d (.slice A' (n + m) k')) (own e sz A' (n + m) k' (xs ++ news) :: r) T) :
 GL c ops (⟨some d, .call { callee := .builtin .append, args := [s, x].toArray, argTypes := [t, t].toArray }, ty, pos, af, none⟩ :: rest) Q E S T := fun w a hr hst => by
 refine wpList_plain rfl (fun K hK => ?_)
 have hmem : own e sz A n k xs ∈ S := (hp.mem _).2 (.inl (List.mem_cons_self ..))
 have hown := own_ok.1 (hst.sat.okS _ hmem)
 obtain ⟨i, z, q1, q2, q3, q4, q5, q6, q7⟩ := ht.out
 obtain ⟨s1, s2, s3⟩ := hsrc.out w hst
 have turn : ∀ A' k' w', w'.ownsRow 0 e sz (.slice A' (n + m) k') (n + m) (xs ++ news) → w.grownBy w' (Value.slice A n k).ownBlock → ((Value.slice A' (n + m) k').ownBlock = (Value.slice A n k).ownBlock ∨ (Value.slice A' (n + m) k').ownBlock = some w.heap.size) →
  St c w' (own e sz A' (n + m) k' (xs ++ news) :: r) T := fun A' k' w' h2 h3 h4 => by
  have hn : Turn w w' [own e sz A n k xs] [own e sz A' (n + m) k' (xs ++ news)] [] [] := by
   refine Turn.one w w' _ _ ⟨h3.os, h3.tape, h3.output, h3.size, fun b hb hM => h3.block b hb (fun e => hM ?_)⟩ (own_ok.2 h2) (fun b hb => ?_)
   · rw [own_fp]
     cases A with
     | none => cases e
     | some ad => exact ⟨ad, rfl, by simpa [Value.ownBlock] using e⟩
   · rw [own_fp] at hb
     obtain ⟨ad, rfl, rfl⟩ := hb
     rcases h4 with h4 | h4
     · left
       rw [own_fp]
       cases A with
       | none => cases h4
       | some ad' => exact ⟨ad', rfl, by simpa [Value.ownBlock] using h4⟩
     · right
       have : ad.block = w.heap.size := by simpa [Value.ownBlock] using h4
       omega
  have := hst.turn hp (T1 := []) (fun _ h => absurd h (by simp)) hn
  simpa using this
 unfold Oper.wp
 cases A2 with
 | none =>
  have e0 : k2 = 0 := s1 rfl
  have e1 : m = 0 := by omega
  subst e0; subst e1
  have e2 : news = [] := List.eq_nil_of_length_eq_zero (by simpa using hl)
  subst e2
  have hrun := run_append_owned_none (P := c.P) (w := w) 0 t ty e i sz q1 q2 _ n xs hown
  simp [execOp, hr.eval, resolve, invoke, builtin, hs, hx, hrun, Oper.upon]
  have := kk A k
  simp only [Nat.add_zero, List.append_nil] at this
  exact hK _ _ (this w _ (hr.put hd _) (hst.perm' hp))
 | some ad =>
  obtain ⟨v', w', hrun, h2, h3, h4, h5⟩ := run_append_own_at (P := c.P) (w := w) 0 t ty e i z sz bs q1 q2 q3 q4 q5 q6 q7 _ n xs hown ad m k2 news hl (s3 ad rfl) h1 hm hb (Nat.zero_le _)
  obtain ⟨A', k', rfl⟩ := own_form h2
  simp [execOp, hr.eval, resolve, invoke, builtin, hs, hx, hrun, Oper.upon]
  exact hK _ _ (kk A' k' w' _ (hr.put hd _) (turn A' k' w' h2 h3 h5))
end rules
def fillF (pl : Nat → Nat × Nat) : List Value → List (Nat × Value) → Option (List Value)
 | z, [] => some z
 | z, (i, v) :: r => bif (cellsL v).length == (pl i).2 && Nat.ble ((pl i).1 + (pl i).2) z.length then fillF pl (putAll z (pl i).1 (cellsL v)) r else none
theorem fill_fillF (pl : Nat → Nat × Nat) : ∀ (r : List (Nat × Value)) (z z' : List Value), fillF pl z r = some z' → Instr.fill (fun i => some (pl i)) z.toArray r = some z'.toArray := by
 intro r
 induction r with
 | nil => intro z z' h; simp only [fillF, Option.some.injEq] at h; subst h; rfl
 | cons p r ih =>
  obtain ⟨i, v⟩ := p
  intro z z' h
  simp only [fillF] at h
  simp only [Instr.fill]
  cases hb : ((cellsL v).length == (pl i).2 && Nat.ble ((pl i).1 + (pl i).2) z.length) with
  | false => rw [hb] at h; cases h
  | true =>
   rw [hb] at h
   simp only [Bool.and_eq_true, beq_iff_eq, Nat.ble_eq] at hb
   have hs : v.cells.size = (pl i).2 := by rw [cellsL_eq]; simpa using hb.1
   have hne : ¬ ((decide (v.cells.size ≠ (pl i).2) || decide ((pl i).1 + v.cells.size > z.toArray.size)) = true) := by simp [hs]; omega
   rw [if_neg hne]
   have e : (Array.foldl (fun (cs : Array Value) (x : Value × Nat) => cs.setIfInBounds ((pl i).1 + x.2) x.1) z.toArray v.cells.zipIdx) = (putAll z (pl i).1 (cellsL v)).toArray := by
    rw [cellsL_eq, ← Array.foldl_toList]
    have := foldl_put (cellsL v) z (pl i).1 0 (by omega)
    simpa using this
   have := ih _ _ h
   rw [← e] at this
   simpa using this
def rep : Nat → List Value → List Value
 | 0, _ => []
 | n + 1, z => z ++ rep n z
theorem rep_length (n : Nat) (z : List Value) : (rep n z).length = n * z.length := by
 induction n with
 | zero => simp [rep]
 | succ n ih => simp [rep, ih, Nat.add_mul, Nat.add_comm]
theorem rep_get (z : List Value) (hz : 0 < z.length) : ∀ (n i : Nat), i < n * z.length → (rep n z)[i]? = z[i % z.length]? := by
 intro n
 induction n with
 | zero => intro i hi; simp at hi
 | succ n ih =>
  intro i hi
  simp only [rep]
  by_cases h : i < z.length
  · rw [List.getElem?_append_left h, Nat.mod_eq_of_lt h]
  · rw [List.getElem?_append_right (by omega), ih (i - z.length) (by rw [Nat.add_mul] at hi; omega)]
    have : i % z.length = (i - z.length) % z.length := by rw [Nat.mod_eq_sub_mod (by omega)]
    rw [this]
theorem rep_range (z : List Value) (hz : 0 < z.length) (n : Nat) : (Array.range (n * z.length)).map (fun i => z.toArray[i % z.toArray.size]!) = (rep n z).toArray := by
 apply Array.ext
 · simp [rep_length]
 · intro i h1 h2
   have hi : i < n * z.length := by simpa using h1
   have h3 := rep_get z hz n i hi
   have h4 : i % z.length < z.length := Nat.mod_lt _ hz
   rw [List.getElem?_eq_getElem (by rw [rep_length]; exact hi), List.getElem?_eq_getElem h4] at h3
   simp only [Array.getElem_map, Array.getElem_range, List.getElem_toArray, List.size_toArray]
   rw [getElem!_pos z.toArray (i % z.length) (by simpa using h4)]
   simpa using (Option.some.inj h3).symm
section rules
variable {c : Ctx} {Q : Post} {E : Env} {S T : List Res} {ops : Array Oper} {rest : List Oper} {d : Nat} {ty : TypeId} {pos : String} {af : Array Edge}
theorem GL_bs {t e sz bs len : Nat} {ps : List (Nat × Operand)} {z l : List Value} (hd : Nat.blt d c.n = true) (ht : El c.P t e sz bs) (hz : ZeroOf c.P e z) (hzl : z.length = sz) (hlen : Nat.ble (len * sz) 16777216 = true)
 (hl : fillF (fun i => (i * sz, sz)) (rep len z) (prs E ps) = some l) (k : ∀ B, GL c ops rest Q (upd E d (.slice (some ⟨B, 0, none⟩) len len)) (blk B l e :: S) T) :
 GL c ops (⟨some d, .buildSlice t len ps.toArray, ty, pos, af, none⟩ :: rest) Q E S T := fun w a hr hs => by
 refine wpList_plain rfl (fun K hK => ?_)
 obtain ⟨v, hv, rfl⟩ := hz
 have hsz : 0 < sz := by obtain ⟨_, _, _, _, _, _, _, _, h⟩ := ht.out; exact h
 have h1 := ht.run w
 have h2 := sizeOf_run ht w
 have h3 : ¬ (len * sz > 2 ^ 24) := by
  have : len * sz ≤ 16777216 := by simpa using hlen
  omega
 have h6 := fill_fillF _ _ _ _ hl
 have h7 : (ps.toArray.map fun x => (x.fst, ev E x.snd)).toList = prs E ps := by rw [prs_eq]; simp
 unfold Oper.wp
 simp only [execOp, hr.eval, Instr.buildSlice, Sem.run_bind, h1, Result.andThen_ok, h2]
 rw [if_neg h3]
 by_cases h0 : len * sz = 0
 · have hl0 : len = 0 := by
    rcases Nat.mul_eq_zero.1 h0 with h | h
    · exact h
    · omega
   rw [if_pos h0]
   have h5 : (Array.range (len * sz)).map (fun i => (#[] : Array Value)[i % (#[] : Array Value).size]!) = (rep len (cellsL v)).toArray := by subst hl0; simp [rep]
   simp only [Sem.run_bind, Sem.run_pure, Result.andThen_ok, h5, h7, h6, newRow, run_newObj, World.alloc_eq, Oper.upon]
   exact hK _ _ (k w.heap.size _ _ (hr.put hd _) (hs.newBlk l e))
 · rw [if_neg h0]
   have h5 : (Array.range (len * sz)).map (fun i => v.cells[i % v.cells.size]!) = (rep len (cellsL v)).toArray := by
    rw [cellsL_eq, ← hzl]
    exact rep_range (cellsL v) (by omega) len
   simp only [Sem.run_bind, hv w, Sem.run_pure, Result.andThen_ok, h5, h7, h6, newRow, run_newObj, World.alloc_eq, Oper.upon]
   exact hK _ _ (k w.heap.size _ _ (hr.put hd _) (hs.newBlk l e))
end rules
theorem Turn.see (w : World) (S1 S' T' T : List Res) (hs : ∀ R ∈ S', R.ok w) (ht : ∀ R ∈ T', R.ok w) (h1 : S'.Pairwise Apart) (h2 : ∀ R ∈ S', ∀ R' ∈ T', Apart R R') (h3 : ∀ R ∈ S', ∀ b, R.fp b → fpl S1 b) (h4 : ∀ R ∈ T', ∀ b, R.fp b → fpl S1 b ∨ fpl T b) : Turn w w S1 S' T' T :=
 ⟨Go1.refl _ w, ⟨hs, ht, h1, h2⟩, fun R hR b hb => .inl (h3 R hR b hb), fun R hR b hb => (h4 R hR b hb).imp id .inr⟩
theorem see1 {R R' : Res} {T : List Res} (h : ∀ w, R.ok w → R'.ok w) (hf : ∀ b, R'.fp b → R.fp b) : Shift [R] T [R'] [] := fun w hs =>
 Turn.see w _ _ _ _ (fun x hx => by rw [List.mem_singleton.1 hx]; exact h w (hs.okS R (List.mem_singleton.2 rfl))) (fun _ h => absurd h (by simp)) (List.pairwise_singleton _ _) (fun _ _ _ h => absurd h (by simp)) (fun x hx b hb => by rw [List.mem_singleton.1 hx] at hb; exact ⟨R, List.mem_singleton.2 rfl, hf b hb⟩) (fun _ h => absurd h (by simp))
theorem seeT {R R' : Res} {T : List Res} (h : ∀ w, R.ok w → R'.ok w) (hf : ∀ b, R'.fp b → R.fp b) : Shift [R] T [] [R'] := fun w hs =>
 Turn.see w _ _ _ _ (fun _ h => absurd h (by simp)) (fun x hx => by rw [List.mem_singleton.1 hx]; exact h w (hs.okS R (List.mem_singleton.2 rfl))) List.Pairwise.nil (fun _ h => absurd h (by simp)) (fun _ h => absurd h (by simp)) (fun x hx b hb => by rw [List.mem_singleton.1 hx] at hb; exact .inl ⟨R, List.mem_singleton.2 rfl, hf b hb⟩)
theorem seeR {R R' : Res} {T : List Res} (hR : R ∈ T) (h : ∀ w, R.ok w → R'.ok w) (hf : ∀ b, R'.fp b → R.fp b) : Shift [] T [] [R'] := fun w hs =>
 Turn.see w _ _ _ _ (fun _ h => absurd h (by simp)) (fun x hx => by rw [List.mem_singleton.1 hx]; exact h w (hs.okT R hR)) List.Pairwise.nil (fun _ h => absurd h (by simp)) (fun _ h => absurd h (by simp)) (fun x hx b hb => by rw [List.mem_singleton.1 hx] at hb; exact .inr ⟨R, hR, hf b hb⟩)
theorem seeN {R' : Res} {T : List Res} (h : ∀ w, R'.ok w) (hf : ∀ b, ¬ R'.fp b) : Shift [] T [R'] [] := fun w hs =>
 Turn.see w _ _ _ _ (fun x hx => by rw [List.mem_singleton.1 hx]; exact h w) (fun _ h => absurd h (by simp)) (List.pairwise_singleton _ _) (fun _ _ _ h => absurd h (by simp)) (fun x hx b hb => by rw [List.mem_singleton.1 hx] at hb; exact absurd hb (hf b)) (fun _ h => absurd h (by simp))
theorem seeNT {R' : Res} {T : List Res} (h : ∀ w, R'.ok w) (hf : ∀ b, ¬ R'.fp b) : Shift [] T [] [R'] := fun w hs =>
 Turn.see w _ _ _ _ (fun _ h => absurd h (by simp)) (fun x hx => by rw [List.mem_singleton.1 hx]; exact h w) List.Pairwise.nil (fun _ h => absurd h (by simp)) (fun _ h => absurd h (by simp)) (fun x hx b hb => by rw [List.mem_singleton.1 hx] at hb; exact absurd hb (hf b))
theorem blk_own {T : List Res} {B n sz : Nat} {l : List Value} {t : TypeId} (hl : l.length = n * sz) (hn : n ≤ maxLen) : Shift [blk B l t] T [own t sz (some ⟨B, 0, none⟩) n n l] [] := by
 refine see1 (fun w h => ?_) (fun b hb => ?_)
 · rw [own_ok]
   rw [blk_ok] at h
   exact ⟨hl, .inr ⟨B, n, l.toArray, rfl, Nat.zero_le _, h, Nat.le_refl _, hn, by simpa using hl, by rw [← hl]; simp⟩⟩
 · rw [own_fp] at hb
   obtain ⟨ad, h1, rfl⟩ := hb
   injection h1 with h1
   subst h1
   rw [blk_fp]
theorem nil_own {T : List Res} {sz : Nat} {t : TypeId} : Shift [] T [own t sz none 0 0 []] [] :=
 seeN (fun w => own_ok.2 ⟨by simp, .inl ⟨rfl, rfl⟩⟩) (fun b hb => by rw [own_fp] at hb; obtain ⟨_, h, _⟩ := hb; cases h)
theorem nil_row {T : List Res} {sz : Nat} : Shift [] T [] [row sz none 0 0 []] :=
 seeNT (fun w => row_ok.2 ⟨by simp, Nat.le_refl _, by simp [maxLen], fun _ => rfl, fun h => absurd rfl h, fun i v h => by simp at h⟩) (fun b hb => by rw [row_fp] at hb; exact hb.1 rfl)
theorem own_toRow {T : List Res} {sz n c : Nat} {t : TypeId} {A : Option Addr} {l : List Value} : Shift [own t sz A n c l] T [] [row sz A n c l] :=
 seeT (fun w h => own_row h) (fun b hb => by rw [row_fp] at hb; rw [own_fp]; exact hb.2)
theorem row_cut {T : List Res} {sz n c l h : Nat} {A : Option Addr} {cells : List Value} (hR : row sz A n c cells ∈ T) (h1 : l ≤ h) (h2 : h ≤ n) (hsz : 0 < sz) : Shift [] T [] [row sz (cut A c sz l) (h - l) (c - l) ((cells.drop (l * sz)).take ((h - l) * sz))] := by
 refine seeR hR (fun w hk => ?_) (fun b hb => ?_)
 · rw [row_ok] at hk ⊢
   obtain ⟨k1, k2, k3, k4, k5, k6⟩ := hk
   have e1 : (h - l) * sz = h * sz - l * sz := Nat.sub_mul ..
   have e2 : h * sz ≤ n * sz := Nat.mul_le_mul_right _ h2
   refine ⟨by simp [k1]; omega, by omega, by omega, fun hc => ?_, fun hne hc => ?_, fun i v hi => ?_⟩
   · unfold cut at hc
     split at hc
     · omega
     · cases A with
       | none => have := k4 rfl; omega
       | some ad => cases hc
   · unfold cut at hc
     split at hc
     · rename_i e
       have : h = l := by omega
       subst this
       simp at hne
     · cases A with
       | none =>
        have := k4 rfl
        have : h = l := by omega
        subst this
        simp at hne
       | some ad => cases hc
   · rw [List.getElem?_take] at hi
     split at hi
     · rename_i hlt
       rw [List.getElem?_drop] at hi
       have := k6 _ v hi
       have hne : ¬ c = l := by
        intro e
        have : h = l := by omega
        subst this
        simp at hlt
       unfold cut
       rw [if_neg hne]
       cases A with
       | none => have := k4 rfl; omega
       | some ad => rw [elt_some] at this; simp only [Option.map_some, elt_some, add_add]; exact this
     · cases hi
 · rw [row_fp] at hb ⊢
   obtain ⟨hne, ad, h3, rfl⟩ := hb
   refine ⟨fun e => hne (by rw [e]; simp), ?_⟩
   unfold cut at h3
   split at h3
   · exact ⟨ad, h3, rfl⟩
   · cases A with
     | none => cases h3
     | some a0 => simp at h3; subst h3; exact ⟨a0, rfl, by rw [add_block]⟩
theorem row_take {T : List Res} {sz n c h : Nat} {A : Option Addr} {cells : List Value} (hR : row sz A n c cells ∈ T) (h2 : h ≤ n) (hsz : 0 < sz) : Shift [] T [] [row sz A h c (cells.take (h * sz))] := by
 refine seeR hR (fun w hk => ?_) (fun b hb => ?_)
 · rw [row_ok] at hk ⊢
   obtain ⟨k1, k2, k3, k4, k5, k6⟩ := hk
   have e2 : h * sz ≤ n * sz := Nat.mul_le_mul_right _ h2
   refine ⟨by rw [List.length_take, k1]; omega, by omega, k3, k4, fun hne => k5 (fun e => hne (by rw [e]; simp)), fun i v hi => ?_⟩
   rw [List.getElem?_take] at hi
   split at hi
   · exact k6 _ v hi
   · cases hi
 · rw [row_fp] at hb ⊢
   exact ⟨fun e => hb.1 (by rw [e]; simp), hb.2⟩
end Go.Bus
