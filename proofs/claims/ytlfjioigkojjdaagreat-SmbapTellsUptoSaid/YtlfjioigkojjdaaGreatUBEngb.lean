/- Part of the proof: Engb. No condition. -/
import Derived.Test.YtlfjioigkojjdaaGreatUBEng
import Derived.Lib.SliceRun
import Derived.Laws.BytesArg
set_option linter.unusedVariables false
set_option linter.unusedSimpArgs false
namespace Go.Bus
open Go
def At (E : Env) : List (Nat × Value) → Prop
 | [] => True
 | (d, v) :: l => E d = v ∧ At E l
def updL (E : Env) : List (Nat × Value) → Env
 | [] => E
 | (d, v) :: l => upd (updL E l) d v
theorem upd_self (E : Env) (d : Nat) : upd E d (E d) = E := by
 funext i
 unfold upd
 cases h : Nat.beq i d with
 | false => rfl
 | true => rw [Nat.eq_of_beq_eq_true h]; rfl
theorem At.eq {E : Env} : ∀ {l : List (Nat × Value)}, At E l → E = updL E l
 | [], _ => rfl
 | (d, v) :: l, ⟨h1, h2⟩ => by
  have := At.eq h2
  show E = upd (updL E l) d v
  rw [← this, ← h1, upd_self]
theorem At.ex {E : Env} {l : List (Nat × Value)} (h : At E l) : ∃ E0, E = updL E0 l := ⟨E, h.eq⟩
section
variable {P : Program} {I : World → Prop} {E : Env} {g : Bool} {x y : Operand} {t : TypeId}
theorem rv_eqNil {A : Option Addr} {n c e sz bs : Nat} {t' : TypeId} (ht : El P t e sz bs) (hx : Vw g (ev E x) (.slice A n c)) : RV P I E g (.binOp .eql t x (.const (.slice none 0 0)) t') (.bool A.isNone) := fun h w _ d ty pos af gd => by
 obtain ⟨i, z, h1, _⟩ := ht.out
 have hc : ev E (.const (.slice none 0 0)) = .slice none 0 0 := rfl
 simp [execOp, hx h, hc, eqGuard, Lib.run_eql_slice_nil w t e A n c 0 0 h1]
theorem rv_min {a b : Int} {k : IntKind} {ats : Array TypeId} (hx : Vw g (ev E x) (.int k a)) (hy : Vw g (ev E y) (.int k b)) : RV P I E g (.call { callee := .builtin .min, args := [x, y].toArray, argTypes := ats }) (.int k (if b < a then b else a)) := fun h w _ d ty pos af gd => by
 simp [execOp, hx h, hy h, resolve, invoke, builtin, run_min_int2]
theorem rv_eqS {a b : ByteArray} {t' : TypeId} (hx : Vw g (ev E x) (.string a)) (hy : Vw g (ev E y) (.string b)) : RV P I E g (.binOp .eql t x y t') (.bool (a.toList == b.toList)) := fun h w _ d ty pos af gd => by
 simp [execOp, hx h, hy h, eqGuard, binOp, Op.stringOp]
theorem rv_neS {a b : ByteArray} {t' : TypeId} (hx : Vw g (ev E x) (.string a)) (hy : Vw g (ev E y) (.string b)) : RV P I E g (.binOp .neq t x y t') (.bool (!(a.toList == b.toList))) := fun h w _ d ty pos af gd => by
 simp [execOp, hx h, hy h, eqGuard, binOp, Op.stringOp]
end
section
variable {c : Ctx} {Q : Post} {E : Env} {S T : List Res} {x : Code} {ops : Array Oper} {l : List Oper} {p : Prop}
theorem GC_know (h : ∀ w, Sat w S T → p) (k : p → GC c x Q E S T) : GC c x Q E S T := fun w a hr hs => k (h w hs.sat) w a hr hs
def RowF (sz : Nat) (A : Option Addr) (n k : Nat) (cells : List Value) : Prop := cells.length = n * sz ∧ n ≤ k ∧ k ≤ maxLen ∧ (A = none → k = 0) ∧ (n ≠ 0 → 0 < sz → A ≠ none)
theorem row_f {sz : Nat} {A : Option Addr} {n k : Nat} {cells : List Value} {w : World} (h : (row sz A n k cells).ok w) : RowF sz A n k cells := by
 rw [row_ok] at h
 refine ⟨h.1, h.2.1, h.2.2.1, h.2.2.2.1, fun hn hs => h.2.2.2.2.1 (fun e => ?_)⟩
 have h1 := h.1
 rw [e] at h1
 have := Nat.mul_pos (Nat.pos_of_ne_zero hn) hs
 simp at h1; omega
theorem GC_row (A : Option Addr) {sz n k : Nat} {cells : List Value} [h : LkR (InS c S T) A sz n k cells] (kk : RowF sz A n k cells → GC c x Q E S T) : GC c x Q E S T := fun w a hr hs => kk (row_f (h.out w hs)) w a hr hs
theorem GL_row (A : Option Addr) {sz n k : Nat} {cells : List Value} [h : LkR (InS c S T) A sz n k cells] (kk : RowF sz A n k cells → GL c ops l Q E S T) : GL c ops l Q E S T := fun w a hr hs => kk (row_f (h.out w hs)) w a hr hs
theorem GC_once (h : GC c x (Sq (fun _ _ _ => False) Q) E S T) : GC c (.loop x) Q E S T :=
 GC_loop (α := Unit) (fun _ E1 S1 T1 => E1 = E ∧ S1 = S ∧ T1 = T) (fun _ => 0) () ⟨rfl, rfl, rfl⟩ (by
  rintro _ E1 S1 T1 ⟨rfl, rfl, rfl⟩
  exact GC_mono h fun e E2 S2 T2 hq => by cases e <;> first | exact hq | exact hq.elim)
end
class InsB (B : Nat) (l : outParam (List Value)) (t : outParam TypeId) (r : outParam (List Res)) (L : List Res) : Prop where
 out : Ins (blk B l t) r L
instance (priority := 1000) insB0 {B : Nat} {l : List Value} {t : TypeId} {L : List Res} : InsB B l t L (blk B l t :: L) := ⟨.here⟩
instance (priority := 900) insB1 {B : Nat} {l : List Value} {t : TypeId} {R : Res} {r L : List Res} [h : InsB B l t r L] : InsB B l t (R :: r) (R :: L) := ⟨.there h.out⟩
class InsW (A : Option Addr) (t : outParam TypeId) (sz n k : outParam Nat) (l : outParam (List Value)) (r : outParam (List Res)) (L : List Res) : Prop where
 out : Ins (own t sz A n k l) r L
instance (priority := 1000) insW0 {A : Option Addr} {t : TypeId} {sz n k : Nat} {l : List Value} {L : List Res} : InsW A t sz n k l L (own t sz A n k l :: L) := ⟨.here⟩
instance (priority := 900) insW1 {A : Option Addr} {t : TypeId} {sz n k : Nat} {l : List Value} {R : Res} {r L : List Res} [h : InsW A t sz n k l r L] : InsW A t sz n k l (R :: r) (R :: L) := ⟨.there h.out⟩
theorem pB {B : Nat} {l : List Value} {t : TypeId} {r L : List Res} [h : InsB B l t r L] : Pull L [blk B l t] r := .cons h.out .nil
theorem pB2 {B B2 : Nat} {l l2 : List Value} {t t2 : TypeId} {r r2 L : List Res} [h : InsB B l t r L] [h2 : InsB B2 l2 t2 r2 r] : Pull L [blk B l t, blk B2 l2 t2] r2 := .cons h.out (.cons h2.out .nil)
theorem pB3 {B B2 B3 : Nat} {l l2 l3 : List Value} {t t2 t3 : TypeId} {r r2 r3 L : List Res} [h : InsB B l t r L] [h2 : InsB B2 l2 t2 r2 r] [h3 : InsB B3 l3 t3 r3 r2] : Pull L [blk B l t, blk B2 l2 t2, blk B3 l3 t3] r3 := .cons h.out (.cons h2.out (.cons h3.out .nil))
theorem pW {A : Option Addr} {t : TypeId} {sz n k : Nat} {l : List Value} {r L : List Res} [h : InsW A t sz n k l r L] : Pull L [own t sz A n k l] r := .cons h.out .nil
class SubI (s l : List Res) : Prop where
 out : Sub s l
instance subI0 {l : List Res} : SubI [] l := ⟨.nil⟩
instance subI1 {R : Res} {s l : List Res} [h1 : Mm R l] [h2 : SubI s l] : SubI (R :: s) l := ⟨.cons h1.out h2.out⟩
theorem sb {s l : List Res} [h : SubI s l] : Sub s l := h.out
theorem sR {A : Option Addr} {sz n c : Nat} {cells : List Value} {T : List Res} [h : HasR A sz n c cells T] : Sub [row sz A n c cells] T := .cons h.mem .nil
end Go.Bus
