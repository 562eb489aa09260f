/- Part of the proof: Spec. No condition. -/
import Derived.Test.YtlfjioigkojjdaaGreatUBMsg
set_option linter.unusedVariables false
namespace Go.Bus
open Go Go.Proofs
def MsgOut (p : MsgD × Int) (v : Value) (S' T' : List Res) : Prop := ∃ x : MsgX, v = .tuple #[.agg x.cells.toArray, .int .i64 p.2] ∧ x.m = p.1 ∧ S' = [] ∧ T' = [msgR x]
def BytesOut (p : List UInt8 × Int) (v : Value) (S' T' : List Res) : Prop := ∃ A n k, v = .tuple #[.slice A n k, .int .i64 p.2] ∧ S' = [] ∧ T' = [row 1 A n k (bytesV p.1)]
theorem sub128 (a : UInt8) : IntKind.u8.wrap ((a.toNat : Int) - 128) = ((a - 128 : UInt8).toNat : Int) := by
 have h := a.toNat_lt
 rw [UInt8.toNat_sub, show (UInt8.toNat 128) = 128 from rfl]
 by_cases h1 : a.toNat < 128
 · simp [IntKind.wrap, IntKind.bits, IntKind.signed]; omega
 · simp [IntKind.wrap, IntKind.bits, IntKind.signed]; omega
def P13 : List UInt8 → MsgD × Int
 | [] => ({}, 2)
 | a :: l => if a.toNat < 128 ∨ publicS (a - 128) = false then ({}, 4) else
  match l with
  | [] => ({}, 2)
  | f :: r => if failureS f = false then ({}, 6) else if r ≠ [] then ({}, 3) else ({ code := a - 128, fail := f }, 0)
def finish (p : MsgD × Cu) : MsgD × Int := if p.2.fin.e = 0 then (p.1, 0) else ({}, p.2.fin.e)
def spanC (most : Int) (c : Cu) : UInt16 × UInt16 × Cu :=
 (c.word.1, c.word.2.word.1, (c.word.2.word.2.need (decide ((1 : Int) ≤ c.word.2.word.1.toNat) && decide ((c.word.2.word.1.toNat : Int) ≤ most)) 5).need (within c.word.1 c.word.2.word.1.toNat) 7)
def toldS (m : MsgD) (c : Cu) : MsgD × Cu :=
 let c2 := c.byte.2.need (decide ((1 : Int) ≤ c.byte.1.toNat) && decide ((c.byte.1.toNat : Int) ≤ 250)) 5
 ({ m with data := (c2.bytes c.byte.1.toNat).1 }, (c2.bytes c.byte.1.toNat).2)
def setsS (m : MsgD) (c : Cu) : MsgD × Cu :=
 ({ m with addr := c.word.1, value := c.word.2.word.1 }, c.word.2.word.2.need (decide ((c.word.2.word.1.toNat : Int) = 0) || decide ((c.word.2.word.1.toNat : Int) = 65280)) 6)
def asksS (m : MsgD) (c : Cu) : MsgD × Cu := ({ m with addr := (spanC 2000 c).1, count := (spanC 2000 c).2.1 }, (spanC 2000 c).2.2)
def doneS (m : MsgD) (c : Cu) : MsgD × Cu := ({ m with addr := (spanC 1968 c).1, count := (spanC 1968 c).2.1 }, (spanC 1968 c).2.2)
def manyB (m : MsgD) (c : Cu) : MsgD × Cu :=
 let d := c.byte.2.need (decide ((c.byte.1.toNat : Int) = manyI m.count.toNat)) 5
 let q := d.bytes c.byte.1.toNat
 ({ m with bits := (unpackS q.1 m.count.toNat).1 }, q.2.need (unpackS q.1 m.count.toNat).2 6)
def manyS (m : MsgD) (c : Cu) : MsgD × Cu := manyB (doneS m c).1 (doneS m c).2
def form08 (dir : Int) (code : UInt8) : Option (MsgD → Cu → MsgD × Cu) :=
 if code.toNat = 1 ∨ code.toNat = 2 then some (if dir = 0 then asksS else toldS)
 else if code.toNat = 5 then some setsS
 else if code.toNat = 15 then some (if dir = 0 then manyS else doneS)
 else none
def parseBy (form : Option (MsgD → Cu → MsgD × Cu)) (dir : Int) (code : UInt8) (l : List UInt8) : MsgD × Int :=
 if dir ≠ 0 ∧ dir ≠ 1 then ({}, 1) else match form with
  | none => ({}, 4)
  | some f => finish (f { code := code } ⟨l, false, 0⟩)
def MsgD.few (m : MsgD) : Prop := m.words.length ≤ 300 ∧ m.bits.length ≤ 2500 ∧ m.data.length ≤ 300 ∧ m.recs.length ≤ 50 ∧ m.objects.length ≤ 100 ∧ (∀ r ∈ m.recs, r.words.length ≤ 200) ∧ ∀ o ∈ m.objects, o.value.length ≤ 300
def BytesO (l : List UInt8) (v : Value) (S' T' : List Res) : Prop := ∃ A n k, v = .slice A n k ∧ S' = [] ∧ T' = [row 1 A n k (bytesV l)]
theorem wrap8 (n : Nat) : IntKind.u8.wrap (n : Int) = ((UInt8.ofNat n).toNat : Int) := by
 rw [UInt8.toNat_ofNat']; simp [IntKind.wrap, IntKind.bits, IntKind.signed]
theorem wrap16 (n : Nat) : IntKind.u16.wrap (n : Int) = ((UInt16.ofNat n).toNat : Int) := by
 rw [UInt16.toNat_ofNat']; simp [IntKind.wrap, IntKind.bits, IntKind.signed]
def L08 (dir : Int) (m : MsgD) : List UInt8 :=
 if m.code.toNat = 5 then putW [m.addr, m.value]
 else if m.code.toNat = 15 ∧ dir = 0 then putW [m.addr, m.count] ++ UInt8.ofNat (packS m.bits).length :: packS m.bits
 else if dir = 1 ∧ m.code.toNat ≠ 15 then UInt8.ofNat m.data.length :: m.data
 else putW [m.addr, m.count]
def writeBy (lay : List UInt8) (x : MsgD × Int) (m : MsgD) : List UInt8 × Int := if x.2 = 0 ∧ x.1 = m then (lay, 0) else ([], 1)
def P08 (dir : Int) (code : UInt8) (l : List UInt8) : MsgD × Int := parseBy (form08 dir code) dir code l
def W08 (dir : Int) (m : MsgD) : List UInt8 × Int := writeBy (L08 dir m) (P08 dir m.code (L08 dir m)) m
def spanN (most : Int) (a : UInt16) (c : Cu) : UInt16 × Cu :=
 (c.word.1, (c.word.2.need (decide ((1 : Int) ≤ c.word.1.toNat) && decide ((c.word.1.toNat : Int) ≤ most)) 5).need (within a c.word.1.toNat) 7)
theorem spanC_spanN {most : Int} {c c1 c2 : Cu} {a j : UInt16} (h : c.word = (a, c1)) (h2 : spanN most a c1 = (j, c2)) : spanC most c = (a, j, c2) := by
 simp only [spanN, Prod.mk.injEq] at h2
 simp only [spanC, h, h2.1, h2.2]
 rw [← h2.2, h2.1]
def countedS (k : Int) (c : Cu) : List UInt16 × Cu := (c.byte.2.need (decide ((c.byte.1.toNat : Int) = 2 * k)) 5).words k
def asksR (most : Int) (m : MsgD) (c : Cu) : MsgD × Cu := ({ m with addr := (spanC most c).1, count := (spanC most c).2.1 }, (spanC most c).2.2)
def toldR (m : MsgD) (c : Cu) : MsgD × Cu :=
 let d := c.byte.2.need (decide ((c.byte.1.toNat : Int) % 2 = 0) && decide ((2 : Int) ≤ c.byte.1.toNat) && decide ((c.byte.1.toNat : Int) ≤ 250)) 5
 let q := d.words ((c.byte.1.toNat : Int) / 2)
 ({ m with words := q.1 }, q.2)
def oneR (m : MsgD) (c : Cu) : MsgD × Cu := ({ m with addr := c.word.1, value := c.word.2.word.1 }, c.word.2.word.2)
def manyR (m : MsgD) (c : Cu) : MsgD × Cu :=
 let p := spanC 123 c
 let q := countedS p.2.1.toNat p.2.2
 ({ m with addr := p.1, count := p.2.1, words := q.1 }, q.2)
def maskR (m : MsgD) (c : Cu) : MsgD × Cu := ({ m with addr := c.word.1, and := c.word.2.word.1, or := c.word.2.word.2.word.1 }, c.word.2.word.2.word.2)
def bothR (m : MsgD) (c : Cu) : MsgD × Cu :=
 let p := spanC 125 c
 let a := p.2.2.word
 let j := spanN 121 a.1 a.2
 let q := countedS j.1.toNat j.2
 ({ m with addr := p.1, count := p.2.1, addr2 := a.1, words := q.1 }, q.2)
def askQ (m : MsgD) (c : Cu) : MsgD × Cu := ({ m with addr := c.word.1 }, c.word.2)
def queueR (m : MsgD) (c : Cu) : MsgD × Cu :=
 let d := c.word.2.need (decide ((c.word.1.toNat : Int) % 2 = 0) && decide ((2 : Int) ≤ c.word.1.toNat) && decide ((c.word.1.toNat : Int) ≤ 64)) 5
 let k := d.word
 let q := (k.2.need (decide (2 + 2 * (k.1.toNat : Int) = c.word.1.toNat)) 5).words k.1.toNat
 ({ m with words := q.1 }, q.2)
def form09 (dir : Int) (code : UInt8) : Option (MsgD → Cu → MsgD × Cu) :=
 if dir = 0 ∧ (code.toNat = 3 ∨ code.toNat = 4) then some (asksR 125)
 else if code.toNat = 3 ∨ code.toNat = 4 ∨ code.toNat = 23 ∧ dir ≠ 0 then some toldR
 else if code.toNat = 6 then some oneR
 else if code.toNat = 16 then some (if dir = 0 then manyR else asksR 123)
 else if code.toNat = 22 then some maskR
 else if code.toNat = 23 then some bothR
 else if code.toNat = 24 ∧ dir = 0 then some askQ
 else if code.toNat = 24 then some queueR
 else none
def P09 (dir : Int) (code : UInt8) (l : List UInt8) : MsgD × Int := parseBy (form09 dir code) dir code l
def L09 (dir : Int) (m : MsgD) : List UInt8 :=
 let size := UInt8.ofNat (2 * m.words.length)
 if dir ≠ 0 ∧ (m.code.toNat = 3 ∨ m.code.toNat = 4 ∨ m.code.toNat = 23) then size :: putW m.words
 else if m.code.toNat = 6 then putW [m.addr, m.value]
 else if m.code.toNat = 22 then putW [m.addr, m.and, m.or]
 else if m.code.toNat = 16 ∧ dir = 0 then putW [m.addr, m.count] ++ size :: putW m.words
 else if m.code.toNat = 23 then putW [m.addr, m.count, m.addr2, UInt16.ofNat m.words.length] ++ size :: putW m.words
 else if m.code.toNat = 24 ∧ dir = 0 then putW [m.addr]
 else if m.code.toNat = 24 then putW [UInt16.ofNat (2 + 2 * m.words.length), UInt16.ofNat m.words.length] ++ putW m.words
 else putW [m.addr, m.count]
def W09 (dir : Int) (m : MsgD) : List UInt8 × Int := writeBy (L09 dir m) (P09 dir m.code (L09 dir m)) m
theorem L09_len (dir : Int) (m : MsgD) (hf : m.few) : (L09 dir m).length ≤ 1000000 := by
 obtain ⟨f1, f2, f3, f4, f5, f6, f7⟩ := hf
 unfold L09
 simp only
 repeat' split
 all_goals simp [putW_length]
 all_goals omega
def mayS (dir : Int) (sub v : UInt16) : Bool :=
 if (sub.toNat = 2 ∨ 11 ≤ sub.toNat ∧ sub.toNat ≤ 18) ∧ dir = 1 then true
 else if sub.toNat = 1 then decide (v.toNat = 0) || decide (v.toNat = 65280)
 else if sub.toNat = 3 then decide (v.toNat % 256 = 0)
 else decide (v.toNat = 0)
def evenB (n : Int) (most : Int) : Bool := decide (n % 2 = 0) && decide (2 ≤ n) && decide (n ≤ most)
def lineS (dir : Int) (m : MsgD) (c : Cu) : MsgD × Cu :=
 let sub := c.word.1
 let d := c.word.2.need (subS sub && (decide (dir = 0) || !decide ((sub.toNat : Int) = 4))) 8
 if sub.toNat ≠ 0 then
  let w := d.words 1
  ({ m with sub := sub, words := w.1 }, w.2.need (decide ((w.1.length : Int) = 1) && mayS dir sub (w.1.headD 0)) 6)
 else
  let q := (d.need (evenB d.r.length 250) 5).words ((d.r.length : Int) / 2)
  ({ m with sub := sub, words := q.1 }, q.2)
def busyS (c : Cu) : UInt16 × Cu := (c.word.1, c.word.2.need (decide ((c.word.1.toNat : Int) = 0) || decide ((c.word.1.toNat : Int) = 65535)) 6)
def answerS (m : MsgD) (c : Cu) : MsgD × Cu :=
 if m.code.toNat = 7 then ({ m with value := UInt16.ofNat c.byte.1.toNat }, c.byte.2)
 else if m.code.toNat = 11 then
  let b := busyS c
  ({ m with status := b.1, events := b.2.word.1 }, b.2.word.2)
 else if m.code.toNat = 12 then
  let b := busyS (c.byte.2.need (decide ((6 : Int) ≤ c.byte.1.toNat) && decide ((c.byte.1.toNat : Int) ≤ 70)) 5)
  let e := b.2.word
  let g := e.2.word
  let d := g.2.bytes ((c.byte.1.toNat : Int) - 6)
  ({ m with status := b.1, events := e.1, messages := g.1, data := d.1 }, d.2)
 else if m.code.toNat = 17 then
  let d := (c.byte.2.need (decide ((1 : Int) ≤ c.byte.1.toNat) && decide ((c.byte.1.toNat : Int) ≤ 251)) 5).bytes c.byte.1.toNat
  ({ m with data := d.1 }, d.2)
 else (m, c)
def form10 (dir : Int) (code : UInt8) : Option (MsgD → Cu → MsgD × Cu) :=
 if code.toNat = 8 then some (lineS dir)
 else if code.toNat = 7 ∨ code.toNat = 11 ∨ code.toNat = 12 ∨ code.toNat = 17 then some (if dir = 1 then answerS else Prod.mk)
 else none
def P10 (dir : Int) (code : UInt8) (l : List UInt8) : MsgD × Int := parseBy (form10 dir code) dir code l
def L10 (dir : Int) (m : MsgD) : List UInt8 :=
 if m.code.toNat = 8 then putW [m.sub] ++ putW m.words
 else if dir = 0 then []
 else if m.code.toNat = 7 then [UInt8.ofNat m.value.toNat]
 else if m.code.toNat = 11 then putW [m.status, m.events]
 else if m.code.toNat = 12 then UInt8.ofNat (6 + m.data.length) :: putW [m.status, m.events, m.messages] ++ m.data
 else UInt8.ofNat m.data.length :: m.data
def W10 (dir : Int) (m : MsgD) : List UInt8 × Int := writeBy (L10 dir m) (P10 dir m.code (L10 dir m)) m
theorem L10_len (dir : Int) (m : MsgD) (hf : m.few) : (L10 dir m).length ≤ 1000000 := by
 obtain ⟨f1, f2, f3, f4, f5, f6, f7⟩ := hf
 unfold L10
 repeat' split
 all_goals simp [putW_length]
 all_goals omega
def levelS (c : UInt8) : Bool := decide ((c.toNat : Int) ∈ ([1, 2, 3, 129, 130, 131] : List Int))
def objsS (c : Cu) : Nat → List ObjD × Cu
 | 0 => ([], c)
 | k + 1 =>
  let p := objsS c k
  let a := p.2.byte
  let j := a.2.byte
  let v := j.2.bytes j.1.toNat
  (p.1 ++ [⟨a.1, v.1⟩], v.2)
def answer12 (m : MsgD) (c : Cu) : MsgD × Cu :=
 let lv := c.byte
 let mo := (lv.2.need (levelS lv.1) 6).byte
 let nx := (mo.2.need (decide ((mo.1.toNat : Int) = 0) || decide ((mo.1.toNat : Int) = 255)) 6).byte
 let k := (nx.2.need ((!decide ((mo.1.toNat : Int) = 0)) || decide ((nx.1.toNat : Int) = 0)) 6).byte
 let q := objsS (k.2.need ((!decide ((m.kind.toNat : Int) = 4)) || decide ((k.1.toNat : Int) = 1)) 5) k.1.toNat
 ({ m with level := lv.1, more := mo.1, next := nx.1, objects := q.1 }, q.2)
def meiS (dir : Int) (m : MsgD) (c : Cu) : MsgD × Cu :=
 let a := c.byte
 let d := a.2.need (decide ((a.1.toNat : Int) = 13) || decide ((a.1.toNat : Int) = 14)) 8
 if a.1.toNat = 13 then
  let d2 := d.need (decide ((d.r.length : Int) ≤ 251)) 5
  let q := d2.bytes d2.r.length
  ({ m with mei := a.1, data := q.1 }, q.2)
 else
  let k := d.byte
  let d2 := k.2.need (decide ((1 : Int) ≤ k.1.toNat) && decide ((k.1.toNat : Int) ≤ 4)) 6
  if dir = 1 then answer12 { m with mei := a.1, kind := k.1 } d2
  else ({ m with mei := a.1, kind := k.1, next := d2.byte.1 }, d2.byte.2)
def form12 (dir : Int) (code : UInt8) : Option (MsgD → Cu → MsgD × Cu) := if code.toNat = 43 then some (meiS dir) else none
def P12 (dir : Int) (code : UInt8) (l : List UInt8) : MsgD × Int := parseBy (form12 dir code) dir code l
def objsB : List ObjD → List UInt8
 | [] => []
 | o :: l => o.id :: UInt8.ofNat o.value.length :: (o.value ++ objsB l)
theorem objsB_snoc (l : List ObjD) (o : ObjD) : objsB (l ++ [o]) = objsB l ++ ([o.id, UInt8.ofNat o.value.length] ++ o.value) := by
 induction l with
 | nil => simp [objsB]
 | cons x l ih => simp [objsB, ih]
theorem objsB_len : ∀ (l : List ObjD), (∀ o ∈ l, o.value.length ≤ 300) → (objsB l).length ≤ 302 * l.length
 | [], _ => by simp [objsB]
 | x :: l, h => by
  have h1 := h x (List.mem_cons_self ..)
  have h2 := objsB_len l (fun o ho => h o (List.mem_cons_of_mem _ ho))
  simp [objsB]; omega
def L12 (dir : Int) (m : MsgD) : List UInt8 :=
 if m.mei.toNat = 13 then m.mei :: m.data
 else if dir = 0 then [m.mei, m.kind, m.next]
 else [m.mei, m.kind, m.level, m.more, m.next, UInt8.ofNat m.objects.length] ++ objsB m.objects
def W12 (dir : Int) (m : MsgD) : List UInt8 × Int := writeBy (L12 dir m) (P12 dir m.code (L12 dir m)) m
theorem L12_len (dir : Int) (m : MsgD) (hf : m.few) : (L12 dir m).length ≤ 1000000 := by
 obtain ⟨f1, f2, f3, f4, f5, f6, f7⟩ := hf
 have := objsB_len m.objects f7
 unfold L12
 repeat' split
 all_goals simp
 all_goals omega
def headS (c : Cu) : RecD × Cu :=
 let f := (c.byte.2.need (decide ((c.byte.1.toNat : Int) = 6)) 9).word
 let r := (f.2.need (!decide ((f.1.toNat : Int) = 0)) 6).word
 let n := (r.2.need (decide ((r.1.toNat : Int) ≤ 9999)) 7).word
 (⟨f.1, r.1, n.1, []⟩, n.2.need (!decide ((n.1.toNat : Int) = 0)) 5)
def askedF (sum : Int) (c : Cu) : RecD × Cu × Int :=
 let h := headS c
 let t := sum + (2 + 2 * (h.1.count.toNat : Int))
 (h.1, h.2.need (decide (t ≤ 245)) 5, t)
def toldF (sum : Int) (c : Cu) : RecD × Cu × Int :=
 let k := c.byte
 let d := k.2.need (decide ((k.1.toNat : Int) % 2 = 1) && decide ((3 : Int) ≤ k.1.toNat) && decide ((k.1.toNat : Int) ≤ k.2.r.length)) 5
 let w := (d.byte.2.need (decide ((d.byte.1.toNat : Int) = 6)) 9).words (((k.1.toNat : Int) - 1).tdiv 2)
 ({ words := w.1 }, w.2, sum)
def writtenF (sum : Int) (c : Cu) : RecD × Cu × Int :=
 let h := headS c
 let w := (h.2.need (decide (2 * (h.1.count.toNat : Int) ≤ h.2.r.length)) 5).words h.1.count.toNat
 ({ h.1 with words := w.1 }, w.2, sum)
def partsF (one : Int → Cu → RecD × Cu × Int) : Nat → Int → Cu → List RecD → List RecD × Cu
 | 0, _, c, l => (l, c)
 | f + 1, s, c, l =>
  if 0 < c.r.length ∧ c.e = 0 then
   let q := one s c
   if q.2.1.e ≠ 0 then (l, q.2.1) else partsF one f q.2.2 q.2.1 (l ++ [q.1])
  else (l, c)
def withinS (e : Int) : Int := if e = 2 then 5 else e
def rulesS (dir : Int) (code : UInt8) : Option ((Int → Bool) × (Int → Cu → RecD × Cu × Int)) :=
 if code.toNat = 20 ∧ dir = 0 then some (fun n => decide (7 ≤ n) && decide (n ≤ 245) && decide (n % 7 = 0), askedF)
 else if code.toNat = 20 then some (fun n => decide (4 ≤ n) && decide (n ≤ 245), toldF)
 else if code.toNat = 21 then some (fun n => decide (9 ≤ n) && decide (n ≤ 251), writtenF)
 else none
def P11 (dir : Int) (code : UInt8) (l : List UInt8) : MsgD × Int :=
 if dir ≠ 0 ∧ dir ≠ 1 then ({}, 1) else match rulesS dir code with
  | none => ({}, 4)
  | some (may, one) =>
   let n := (⟨l, false, 0⟩ : Cu).byte
   let b := (n.2.need (may n.1.toNat) 5).bytes n.1.toNat
   let q := partsF one (b.1.length + 1) 0 ⟨b.1, false, 0⟩ []
   finish ({ code := code, recs := q.1 }, b.2.need (decide (q.2.e = 0)) (withinS q.2.e))
def recB (dir : Int) (code : UInt8) (r : RecD) : List UInt8 :=
 (if code.toNat = 20 ∧ dir = 1 then [UInt8.ofNat (1 + 2 * r.words.length), 6] else [6] ++ putW [r.file, r.record, r.count]) ++ putW r.words
def recsB (dir : Int) (code : UInt8) : List RecD → List UInt8
 | [] => []
 | r :: l => recB dir code r ++ recsB dir code l
theorem recsB_snoc (dir : Int) (code : UInt8) (l : List RecD) (r : RecD) : recsB dir code (l ++ [r]) = recsB dir code l ++ recB dir code r := by
 induction l with
 | nil => simp [recsB]
 | cons x l ih => simp [recsB, ih]
theorem recB_len (dir : Int) (code : UInt8) (r : RecD) (h : r.words.length ≤ 200) : (recB dir code r).length ≤ 420 := by
 unfold recB; split <;> simp [putW_length, putW] <;> omega
theorem recsB_len (dir : Int) (code : UInt8) : ∀ (l : List RecD), (∀ r ∈ l, r.words.length ≤ 200) → (recsB dir code l).length ≤ 420 * l.length
 | [], _ => by simp [recsB]
 | x :: l, h => by
  have h1 := recB_len dir code x (h x (List.mem_cons_self ..))
  have h2 := recsB_len dir code l (fun o ho => h o (List.mem_cons_of_mem _ ho))
  simp [recsB]; omega
def L11 (dir : Int) (m : MsgD) : List UInt8 := UInt8.ofNat (recsB dir m.code m.recs).length :: recsB dir m.code m.recs
def W11 (dir : Int) (m : MsgD) : List UInt8 × Int := writeBy (L11 dir m) (P11 dir m.code (L11 dir m)) m
theorem L11_len (dir : Int) (m : MsgD) (hf : m.few) : (L11 dir m).length ≤ 1000000 := by
 obtain ⟨f1, f2, f3, f4, f5, f6, f7⟩ := hf
 have := recsB_len dir m.code m.recs f6
 unfold L11; simp; omega
def codecS (c : UInt8) : Option ((Int → UInt8 → List UInt8 → MsgD × Int) × (Int → MsgD → List UInt8 × Int)) :=
 if c.toNat = 1 ∨ c.toNat = 2 ∨ c.toNat = 5 ∨ c.toNat = 15 then some (P08, W08)
 else if c.toNat = 3 ∨ c.toNat = 4 ∨ c.toNat = 6 ∨ c.toNat = 16 ∨ c.toNat = 22 ∨ c.toNat = 23 ∨ c.toNat = 24 then some (P09, W09)
 else if c.toNat = 7 ∨ c.toNat = 8 ∨ c.toNat = 11 ∨ c.toNat = 12 ∨ c.toNat = 17 then some (P10, W10)
 else if c.toNat = 20 ∨ c.toNat = 21 then some (P11, W11)
 else if c.toNat = 43 then some (P12, W12)
 else none
def P14 (dir : Int) (l : List UInt8) : MsgD × Int :=
 if dir ≠ 0 ∧ dir ≠ 1 then ({}, 1) else match l with
  | [] => ({}, 2)
  | a :: r => if 253 < (a :: r).length then ({}, 3) else if 128 ≤ a.toNat ∧ dir = 1 then P13 (a :: r) else match codecS a with
   | none => ({}, 4)
   | some (p, _) => p dir a r
end Go.Bus
