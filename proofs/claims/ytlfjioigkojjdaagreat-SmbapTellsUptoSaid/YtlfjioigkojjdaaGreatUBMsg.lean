/- Part of the proof: Msg. No condition. -/
import Derived.Test.YtlfjioigkojjdaaGreatUBPureb
import Derived.Test.YtlfjioigkojjdaaGreatUBTabs
set_option linter.unusedVariables false
namespace Go.Bus
open Go Go.Proofs
structure RecD where
 file : UInt16 := 0
 record : UInt16 := 0
 count : UInt16 := 0
 words : List UInt16 := []
deriving DecidableEq
structure ObjD where
 id : UInt8 := 0
 value : List UInt8 := []
deriving DecidableEq
structure MsgD where
 code : UInt8 := 0
 fail : UInt8 := 0
 addr : UInt16 := 0
 count : UInt16 := 0
 value : UInt16 := 0
 and : UInt16 := 0
 or : UInt16 := 0
 addr2 : UInt16 := 0
 sub : UInt16 := 0
 status : UInt16 := 0
 events : UInt16 := 0
 messages : UInt16 := 0
 words : List UInt16 := []
 bits : List Bool := []
 data : List UInt8 := []
 recs : List RecD := []
 mei : UInt8 := 0
 kind : UInt8 := 0
 level : UInt8 := 0
 more : UInt8 := 0
 next : UInt8 := 0
 objects : List ObjD := []
deriving DecidableEq
structure Hd where
 A : Option Addr := none
 n : Nat := 0
 k : Nat := 0
def Hd.v (h : Hd) : Value := .slice h.A h.n h.k
structure MsgX where
 m : MsgD
 w : Hd := {}
 b : Hd := {}
 d : Hd := {}
 r : Hd := {}
 o : Hd := {}
 rw : List Hd := []
 ow : List Hd := []
def MsgX.cells (x : MsgX) : List Value :=
 [b8 x.m.code, b8 x.m.fail, w16 x.m.addr, w16 x.m.count, w16 x.m.value, w16 x.m.and, w16 x.m.or, w16 x.m.addr2, w16 x.m.sub, w16 x.m.status, w16 x.m.events, w16 x.m.messages, .slice x.w.A x.w.n x.w.k, .slice x.b.A x.b.n x.b.k, .slice x.d.A x.d.n x.d.k, .slice x.r.A x.r.n x.r.k, b8 x.m.mei, b8 x.m.kind, b8 x.m.level, b8 x.m.more, b8 x.m.next, .slice x.o.A x.o.n x.o.k]
theorem MsgX.cells_one (x : MsgX) : ∀ u ∈ x.cells, u.oneCell' = true := by
 intro u hu
 simp only [MsgX.cells, List.mem_cons, List.not_mem_nil, or_false] at hu
 rcases hu with rfl | rfl | rfl | rfl | rfl | rfl | rfl | rfl | rfl | rfl | rfl | rfl | rfl | rfl | rfl | rfl | rfl | rfl | rfl | rfl | rfl | rfl <;> rfl
theorem MsgX.cells_eq (x : MsgX) : x.cells = [b8 x.m.code, b8 x.m.fail, w16 x.m.addr, w16 x.m.count, w16 x.m.value, w16 x.m.and, w16 x.m.or, w16 x.m.addr2, w16 x.m.sub, w16 x.m.status, w16 x.m.events, w16 x.m.messages, .slice x.w.A x.w.n x.w.k, .slice x.b.A x.b.n x.b.k, .slice x.d.A x.d.n x.d.k, .slice x.r.A x.r.n x.r.k, b8 x.m.mei, b8 x.m.kind, b8 x.m.level, b8 x.m.more, b8 x.m.next, .slice x.o.A x.o.n x.o.k] := rfl
def recCells (r : RecD) (h : Hd) : List Value := [w16 r.file, w16 r.record, w16 r.count, .slice h.A h.n h.k]
def objCells (r : ObjD) (h : Hd) : List Value := [b8 r.id, .slice h.A h.n h.k]
def recsV : List RecD → List Hd → List Value
 | r :: rs, h :: hs => recCells r h ++ recsV rs hs
 | _, _ => []
def objsV : List ObjD → List Hd → List Value
 | r :: rs, h :: hs => objCells r h ++ objsV rs hs
 | _, _ => []
def recRows : List RecD → List Hd → List Res
 | r :: rs, h :: hs => row 1 h.A h.n h.k (wordsV r.words) :: recRows rs hs
 | _, _ => []
def objRows : List ObjD → List Hd → List Res
 | r :: rs, h :: hs => row 1 h.A h.n h.k (bytesV r.value) :: objRows rs hs
 | _, _ => []
theorem recsV_len : ∀ (rs : List RecD) (hs : List Hd), hs.length = rs.length → (recsV rs hs).length = rs.length * 4
 | [], [], _ => rfl
 | r :: rs, h :: hs, e => by simp [recsV, recCells, recsV_len rs hs (by simpa using e)]; omega
theorem objsV_len : ∀ (rs : List ObjD) (hs : List Hd), hs.length = rs.length → (objsV rs hs).length = rs.length * 2
 | [], [], _ => rfl
 | r :: rs, h :: hs, e => by simp [objsV, objCells, objsV_len rs hs (by simpa using e)]; omega
theorem recsV_at : ∀ (rs : List RecD) (hs : List Hd) (i : Nat) (h1 : i < rs.length) (h2 : i < hs.length), ((recsV rs hs).drop (i * 4)).take 4 = recCells (rs[i]'h1) (hs[i]'h2)
 | r :: rs, h :: hs, 0, _, _ => by simp [recsV, recCells]
 | r :: rs, h :: hs, i + 1, h1, h2 => by
  have := recsV_at rs hs i (by simpa using h1) (by simpa using h2)
  have e : (i + 1) * 4 = 4 + i * 4 := by omega
  simp only [recsV, List.getElem_cons_succ]
  rw [e, ← List.drop_drop, show (recCells r h ++ recsV rs hs).drop 4 = recsV rs hs by simp [recCells]]
  exact this
theorem objsV_at : ∀ (rs : List ObjD) (hs : List Hd) (i : Nat) (h1 : i < rs.length) (h2 : i < hs.length), ((objsV rs hs).drop (i * 2)).take 2 = objCells (rs[i]'h1) (hs[i]'h2)
 | r :: rs, h :: hs, 0, _, _ => by simp [objsV, objCells]
 | r :: rs, h :: hs, i + 1, h1, h2 => by
  have := objsV_at rs hs i (by simpa using h1) (by simpa using h2)
  have e : (i + 1) * 2 = 2 + i * 2 := by omega
  simp only [objsV, List.getElem_cons_succ]
  rw [e, ← List.drop_drop, show (objCells r h ++ objsV rs hs).drop 2 = objsV rs hs by simp [objCells]]
  exact this
theorem recRows_mem : ∀ (rs : List RecD) (hs : List Hd) (i : Nat) (h1 : i < rs.length) (h2 : i < hs.length), row 1 (hs[i]'h2).A (hs[i]'h2).n (hs[i]'h2).k (wordsV (rs[i]'h1).words) ∈ recRows rs hs
 | r :: rs, h :: hs, 0, _, _ => List.mem_cons_self ..
 | r :: rs, h :: hs, i + 1, h1, h2 => List.mem_cons_of_mem _ (recRows_mem rs hs i (by simpa using h1) (by simpa using h2))
theorem objRows_mem : ∀ (rs : List ObjD) (hs : List Hd) (i : Nat) (h1 : i < rs.length) (h2 : i < hs.length), row 1 (hs[i]'h2).A (hs[i]'h2).n (hs[i]'h2).k (bytesV (rs[i]'h1).value) ∈ objRows rs hs
 | r :: rs, h :: hs, 0, _, _ => List.mem_cons_self ..
 | r :: rs, h :: hs, i + 1, h1, h2 => List.mem_cons_of_mem _ (objRows_mem rs hs i (by simpa using h1) (by simpa using h2))
theorem recsV_snoc : ∀ (rs : List RecD) (hs : List Hd) (r : RecD) (h : Hd), hs.length = rs.length → recsV (rs ++ [r]) (hs ++ [h]) = recsV rs hs ++ recCells r h
 | [], [], r, h, _ => by simp [recsV]
 | r0 :: rs, h0 :: hs, r, h, e => by simp [recsV, recsV_snoc rs hs r h (by simpa using e)]
theorem objsV_snoc : ∀ (rs : List ObjD) (hs : List Hd) (r : ObjD) (h : Hd), hs.length = rs.length → objsV (rs ++ [r]) (hs ++ [h]) = objsV rs hs ++ objCells r h
 | [], [], r, h, _ => by simp [objsV]
 | r0 :: rs, h0 :: hs, r, h, e => by simp [objsV, objsV_snoc rs hs r h (by simpa using e)]
theorem recRows_snoc : ∀ (rs : List RecD) (hs : List Hd) (r : RecD) (h : Hd), hs.length = rs.length → recRows (rs ++ [r]) (hs ++ [h]) = recRows rs hs ++ [row 1 h.A h.n h.k (wordsV r.words)]
 | [], [], r, h, _ => by simp [recRows]
 | r0 :: rs, h0 :: hs, r, h, e => by simp [recRows, recRows_snoc rs hs r h (by simpa using e)]
theorem objRows_snoc : ∀ (rs : List ObjD) (hs : List Hd) (r : ObjD) (h : Hd), hs.length = rs.length → objRows (rs ++ [r]) (hs ++ [h]) = objRows rs hs ++ [row 1 h.A h.n h.k (bytesV r.value)]
 | [], [], r, h, _ => by simp [objRows]
 | r0 :: rs, h0 :: hs, r, h, e => by simp [objRows, objRows_snoc rs hs r h (by simpa using e)]
@[irreducible] def bun (p : Prop) (L : List Res) : Res where
 fp b := fpl L b
 ok w := p ∧ ∀ R ∈ L, R.ok w
 loc w w' h k := ⟨k.1, fun R hR => R.loc w w' (fun b hb => h b ⟨R, hR, hb⟩) (k.2 R hR)⟩
 dom w k b hb := by obtain ⟨R, hR, h⟩ := hb; exact R.dom w (k.2 R hR) b h
theorem bun_fp {p : Prop} {L : List Res} {b : Nat} : (bun p L).fp b ↔ fpl L b := by unfold bun; rfl
theorem bun_ok {p : Prop} {L : List Res} {w : World} : (bun p L).ok w ↔ (p ∧ ∀ R ∈ L, R.ok w) := by unfold bun; rfl
theorem bun_out {p : Prop} {L T : List Res} {R : Res} (h : bun p L ∈ T) (hR : R ∈ L) : Shift [] T [] [R] :=
 seeR h (fun w k => (bun_ok.1 k).2 R hR) (fun b hb => bun_fp.2 ⟨R, hR, hb⟩)
def InT (R : Res) (T : List Res) : Prop := R ∈ T ∨ (∃ sz, R = row sz none 0 0 []) ∨ ∃ p L, bun p L ∈ T ∧ R ∈ L
theorem inT_nil {sz : Nat} {T : List Res} : InT (row sz none 0 0 []) T := .inr (.inl ⟨sz, rfl⟩)
theorem inT_bun {p : Prop} {L T : List Res} {R : Res} (h : bun p L ∈ T) (hR : R ∈ L) : InT R T := .inr (.inr ⟨p, L, h, hR⟩)
theorem nil_row_ok (sz : Nat) (w : World) : (row sz none 0 0 []).ok w := row_ok.2 ⟨by simp, Nat.le_refl _, by simp [maxLen], fun _ => rfl, fun h => absurd rfl h, fun i v h => by simp at h⟩
theorem bun_in {p : Prop} {L T : List Res} (hp : p) (h : ∀ R ∈ L, InT R T) : Shift [] T [] [bun p L] := fun w hs =>
 Turn.see w _ _ _ _ (fun _ h => absurd h (by simp)) (fun x hx => by
  rw [List.mem_singleton.1 hx, bun_ok]
  refine ⟨hp, fun R hR => ?_⟩
  rcases h R hR with h | ⟨sz, rfl⟩ | ⟨p, L2, h, hR2⟩
  · exact hs.okT R h
  · exact nil_row_ok sz w
  · exact (bun_ok.1 (hs.okT _ h)).2 R hR2) List.Pairwise.nil (fun _ h => absurd h (by simp)) (fun _ h => absurd h (by simp)) (fun x hx b hb => by
  rw [List.mem_singleton.1 hx, bun_fp] at hb
  obtain ⟨R, hR, hb⟩ := hb
  rcases h R hR with h | ⟨sz, rfl⟩ | ⟨p, L2, h, hR2⟩
  · exact .inr ⟨R, h, hb⟩
  · rw [row_fp] at hb; exact absurd rfl hb.1
  · exact .inr ⟨_, h, bun_fp.2 ⟨R, hR2, hb⟩⟩)
theorem bun_snoc {p p2 : Prop} {L L2 T : List Res} {R : Res} (h : bun p L ∈ T) (hR : R ∈ T) (hp : p2) (e : L2 = L ++ [R]) : Shift [] T [] [bun p2 L2] := by
 subst e
 refine bun_in hp fun x hx => ?_
 rcases List.mem_append.1 hx with hx | hx
 · exact inT_bun h hx
 · rw [List.mem_singleton.1 hx]; exact .inl hR
theorem bun_nil {p : Prop} {T : List Res} (hp : p) : Shift [] T [] [bun p []] := bun_in hp (fun _ h => absurd h (by simp))
def MsgX.rows5 (x : MsgX) : List Res := [row 1 x.w.A x.w.n x.w.k (wordsV x.m.words), row 1 x.b.A x.b.n x.b.k (boolsV x.m.bits), row 1 x.d.A x.d.n x.d.k (bytesV x.m.data), row 4 x.r.A x.r.n x.r.k (recsV x.m.recs x.rw), row 2 x.o.A x.o.n x.o.k (objsV x.m.objects x.ow)]
def MsgX.rows (x : MsgX) : List Res := x.rows5 ++ recRows x.m.recs x.rw ++ objRows x.m.objects x.ow
def MsgX.same (x : MsgX) : Prop := x.rw.length = x.m.recs.length ∧ x.ow.length = x.m.objects.length
def msgR (x : MsgX) : Res := bun x.same x.rows
theorem msg_words {x : MsgX} {T : List Res} [h : Mm (msgR x) T] : Shift [] T [] [row 1 x.w.A x.w.n x.w.k (wordsV x.m.words)] := bun_out h.out (by simp [MsgX.rows, MsgX.rows5])
theorem msg_bits {x : MsgX} {T : List Res} [h : Mm (msgR x) T] : Shift [] T [] [row 1 x.b.A x.b.n x.b.k (boolsV x.m.bits)] := bun_out h.out (by simp [MsgX.rows, MsgX.rows5])
theorem msg_data {x : MsgX} {T : List Res} [h : Mm (msgR x) T] : Shift [] T [] [row 1 x.d.A x.d.n x.d.k (bytesV x.m.data)] := bun_out h.out (by simp [MsgX.rows, MsgX.rows5])
theorem msg_recs {x : MsgX} {T : List Res} [h : Mm (msgR x) T] : Shift [] T [] [row 4 x.r.A x.r.n x.r.k (recsV x.m.recs x.rw)] := bun_out h.out (by simp [MsgX.rows, MsgX.rows5])
theorem msg_objs {x : MsgX} {T : List Res} [h : Mm (msgR x) T] : Shift [] T [] [row 2 x.o.A x.o.n x.o.k (objsV x.m.objects x.ow)] := bun_out h.out (by simp [MsgX.rows, MsgX.rows5])
theorem msg_rec {x : MsgX} {T : List Res} [h : Mm (msgR x) T] (i : Nat) (h1 : i < x.m.recs.length) (h2 : i < x.rw.length) : Shift [] T [] [row 1 (x.rw[i]'h2).A (x.rw[i]'h2).n (x.rw[i]'h2).k (wordsV (x.m.recs[i]'h1).words)] :=
 bun_out h.out (by simp only [MsgX.rows, List.mem_append]; exact .inl (.inr (recRows_mem _ _ i h1 h2)))
theorem msg_obj {x : MsgX} {T : List Res} [h : Mm (msgR x) T] (i : Nat) (h1 : i < x.m.objects.length) (h2 : i < x.ow.length) : Shift [] T [] [row 1 (x.ow[i]'h2).A (x.ow[i]'h2).n (x.ow[i]'h2).k (bytesV (x.m.objects[i]'h1).value)] :=
 bun_out h.out (by simp only [MsgX.rows, List.mem_append]; exact .inr (objRows_mem _ _ i h1 h2))
theorem msg_in (x : MsgX) {T : List Res} (hs : x.same) (hw : InT (row 1 x.w.A x.w.n x.w.k (wordsV x.m.words)) T) (hb : InT (row 1 x.b.A x.b.n x.b.k (boolsV x.m.bits)) T) (hd : InT (row 1 x.d.A x.d.n x.d.k (bytesV x.m.data)) T) (hr : InT (row 4 x.r.A x.r.n x.r.k (recsV x.m.recs x.rw)) T) (ho : InT (row 2 x.o.A x.o.n x.o.k (objsV x.m.objects x.ow)) T)
 (hrr : ∀ R ∈ recRows x.m.recs x.rw, InT R T) (hoo : ∀ R ∈ objRows x.m.objects x.ow, InT R T) : Shift [] T [] [msgR x] := bun_in hs fun R hR => by
 simp only [MsgX.rows, MsgX.rows5, List.mem_append, List.mem_cons, List.not_mem_nil, or_false] at hR
 rcases hR with ((rfl | rfl | rfl | rfl | rfl) | hR) | hR
 · exact hw
 · exact hb
 · exact hd
 · exact hr
 · exact ho
 · exact hrr R hR
 · exact hoo R hR
theorem msg0 (m : MsgD) {T : List Res} (h1 : m.words = [] := by rfl) (h2 : m.bits = [] := by rfl) (h3 : m.data = [] := by rfl) (h4 : m.recs = [] := by rfl) (h5 : m.objects = [] := by rfl) : Shift [] T [] [msgR { m := m }] := by
 refine msg_in _ ⟨by simp [h4], by simp [h5]⟩ ?_ ?_ ?_ ?_ ?_ (by simp [h4, recRows]) (by simp [h5, objRows])
 · simp only [h1]; exact inT_nil
 · simp only [h2]; exact inT_nil
 · simp only [h3]; exact inT_nil
 · simp only [h4]; exact inT_nil
 · simp only [h5]; exact inT_nil
theorem msgWords (m : MsgD) (h : Hd) {T : List Res} [hm : Mm (row 1 h.A h.n h.k (wordsV m.words)) T] (h2 : m.bits = [] := by rfl) (h3 : m.data = [] := by rfl) (h4 : m.recs = [] := by rfl) (h5 : m.objects = [] := by rfl) : Shift [] T [] [msgR { m := m, w := h }] := by
 refine msg_in _ ⟨by simp [h4], by simp [h5]⟩ (.inl hm.out) ?_ ?_ ?_ ?_ (by simp [h4, recRows]) (by simp [h5, objRows])
 · simp only [h2]; exact inT_nil
 · simp only [h3]; exact inT_nil
 · simp only [h4]; exact inT_nil
 · simp only [h5]; exact inT_nil
theorem msgBits (m : MsgD) (h : Hd) {T : List Res} [hm : Mm (row 1 h.A h.n h.k (boolsV m.bits)) T] (h1 : m.words = [] := by rfl) (h3 : m.data = [] := by rfl) (h4 : m.recs = [] := by rfl) (h5 : m.objects = [] := by rfl) : Shift [] T [] [msgR { m := m, b := h }] := by
 refine msg_in _ ⟨by simp [h4], by simp [h5]⟩ ?_ (.inl hm.out) ?_ ?_ ?_ (by simp [h4, recRows]) (by simp [h5, objRows])
 · simp only [h1]; exact inT_nil
 · simp only [h3]; exact inT_nil
 · simp only [h4]; exact inT_nil
 · simp only [h5]; exact inT_nil
theorem msgData (m : MsgD) (h : Hd) {T : List Res} [hm : Mm (row 1 h.A h.n h.k (bytesV m.data)) T] (h1 : m.words = [] := by rfl) (h2 : m.bits = [] := by rfl) (h4 : m.recs = [] := by rfl) (h5 : m.objects = [] := by rfl) : Shift [] T [] [msgR { m := m, d := h }] := by
 refine msg_in _ ⟨by simp [h4], by simp [h5]⟩ ?_ ?_ (.inl hm.out) ?_ ?_ (by simp [h4, recRows]) (by simp [h5, objRows])
 · simp only [h1]; exact inT_nil
 · simp only [h2]; exact inT_nil
 · simp only [h4]; exact inT_nil
 · simp only [h5]; exact inT_nil
theorem msgRecs (m : MsgD) (h : Hd) (hs : List Hd) {T : List Res} (hl : hs.length = m.recs.length) (hm : row 4 h.A h.n h.k (recsV m.recs hs) ∈ T) (hr : ∀ R ∈ recRows m.recs hs, InT R T) (h1 : m.words = [] := by rfl) (h2 : m.bits = [] := by rfl) (h3 : m.data = [] := by rfl) (h5 : m.objects = [] := by rfl) : Shift [] T [] [msgR { m := m, r := h, rw := hs }] := by
 refine msg_in _ ⟨hl, by simp [h5]⟩ ?_ ?_ ?_ (.inl hm) ?_ hr (by simp [h5, objRows])
 · simp only [h1]; exact inT_nil
 · simp only [h2]; exact inT_nil
 · simp only [h3]; exact inT_nil
 · simp only [h5]; exact inT_nil
theorem msgObjs (m : MsgD) (h : Hd) (hs : List Hd) {T : List Res} (hl : hs.length = m.objects.length) (hm : row 2 h.A h.n h.k (objsV m.objects hs) ∈ T) (hr : ∀ R ∈ objRows m.objects hs, InT R T) (h1 : m.words = [] := by rfl) (h2 : m.bits = [] := by rfl) (h3 : m.data = [] := by rfl) (h4 : m.recs = [] := by rfl) : Shift [] T [] [msgR { m := m, o := h, ow := hs }] := by
 refine msg_in _ ⟨by simp [h4], hl⟩ ?_ ?_ ?_ ?_ (.inl hm) (by simp [h4, recRows]) hr
 · simp only [h1]; exact inT_nil
 · simp only [h2]; exact inT_nil
 · simp only [h3]; exact inT_nil
 · simp only [h4]; exact inT_nil
def MsgX.Fact (x : MsgX) : Prop := x.same ∧ RowF 1 x.w.A x.w.n x.w.k (wordsV x.m.words) ∧ RowF 1 x.b.A x.b.n x.b.k (boolsV x.m.bits) ∧ RowF 1 x.d.A x.d.n x.d.k (bytesV x.m.data) ∧ RowF 4 x.r.A x.r.n x.r.k (recsV x.m.recs x.rw) ∧ RowF 2 x.o.A x.o.n x.o.k (objsV x.m.objects x.ow)
theorem msg_fact {x : MsgX} {w : World} (h : (msgR x).ok w) : x.Fact := by
 obtain ⟨h1, h2⟩ := bun_ok.1 h
 exact ⟨h1, row_f (h2 _ (by simp [MsgX.rows, MsgX.rows5])), row_f (h2 _ (by simp [MsgX.rows, MsgX.rows5])), row_f (h2 _ (by simp [MsgX.rows, MsgX.rows5])), row_f (h2 _ (by simp [MsgX.rows, MsgX.rows5])), row_f (h2 _ (by simp [MsgX.rows, MsgX.rows5]))⟩
section
variable {c : Ctx} {Q : Post} {E : Env} {S T : List Res} {y : Code} {ops : Array Oper} {l : List Oper}
theorem GC_msg (x : MsgX) [h : Mm (msgR x) T] (k : x.Fact → GC c y Q E S T) : GC c y Q E S T := GC_know (fun w hs => msg_fact (hs.okT _ h.out)) k
end
theorem MsgX.Fact.words {x : MsgX} (h : x.Fact) : x.m.words.length = x.w.n := by have := h.2.1.1; simpa [wordsV] using this
theorem MsgX.Fact.bits {x : MsgX} (h : x.Fact) : x.m.bits.length = x.b.n := by have := h.2.2.1.1; simpa [boolsV] using this
theorem MsgX.Fact.data {x : MsgX} (h : x.Fact) : x.m.data.length = x.d.n := by have := h.2.2.2.1.1; simpa [bytesV] using this
theorem MsgX.Fact.recs {x : MsgX} (h : x.Fact) : x.m.recs.length = x.r.n := by have := h.2.2.2.2.1.1; rw [recsV_len _ _ h.1.1] at this; omega
theorem MsgX.Fact.objs {x : MsgX} (h : x.Fact) : x.m.objects.length = x.o.n := by have := h.2.2.2.2.2.1; rw [objsV_len _ _ h.1.2] at this; omega
def plainL (m : MsgD) : List Int := [m.code.toNat, m.fail.toNat, m.addr.toNat, m.count.toNat, m.value.toNat, m.and.toNat, m.or.toNat, m.addr2.toNat, m.sub.toNat, m.status.toNat, m.events.toNat, m.messages.toNat, ((256 * m.mei.toNat + m.kind.toNat : Nat) : Int), ((256 * m.level.toNat + m.more.toNat : Nat) : Int), m.next.toNat]
def sameB (a b : MsgD) : Bool := decide (plainL a = plainL b) && decide (a.words = b.words) && decide (a.bits = b.bits) && decide (a.data = b.data) && decide (a.recs = b.recs) && decide (a.objects = b.objects)
theorem u8_ext {a b : UInt8} (h : a.toNat = b.toNat) : a = b := UInt8.toNat_inj.1 h
theorem u16_ext {a b : UInt16} (h : a.toNat = b.toNat) : a = b := UInt16.toNat_inj.1 h
theorem sameB_eq (a b : MsgD) : sameB a b = decide (a = b) := by
 rw [Bool.eq_iff_iff]
 simp only [sameB, Bool.and_eq_true, decide_eq_true_eq]
 constructor
 · rintro ⟨⟨⟨⟨⟨h, h1⟩, h2⟩, h3⟩, h4⟩, h5⟩
   simp only [plainL, List.cons.injEq, and_true] at h
   obtain ⟨p0, p1, p2, p3, p4, p5, p6, p7, p8, p9, p10, p11, p12, p13, p14⟩ := h
   have q1 := a.mei.toNat_lt; have q2 := a.kind.toNat_lt; have q3 := b.mei.toNat_lt; have q4 := b.kind.toNat_lt
   have q5 := a.level.toNat_lt; have q6 := a.more.toNat_lt; have q7 := b.level.toNat_lt; have q8 := b.more.toNat_lt
   have r0 : a.code = b.code := u8_ext (by omega)
   have r1 : a.fail = b.fail := u8_ext (by omega)
   have r2 : a.addr = b.addr := u16_ext (by omega)
   have r3 : a.count = b.count := u16_ext (by omega)
   have r4 : a.value = b.value := u16_ext (by omega)
   have r5 : a.and = b.and := u16_ext (by omega)
   have r6 : a.or = b.or := u16_ext (by omega)
   have r7 : a.addr2 = b.addr2 := u16_ext (by omega)
   have r8 : a.sub = b.sub := u16_ext (by omega)
   have r9 : a.status = b.status := u16_ext (by omega)
   have r10 : a.events = b.events := u16_ext (by omega)
   have r11 : a.messages = b.messages := u16_ext (by omega)
   have r12 : a.mei = b.mei := u8_ext (by omega)
   have r13 : a.kind = b.kind := u8_ext (by omega)
   have r14 : a.level = b.level := u8_ext (by omega)
   have r15 : a.more = b.more := u8_ext (by omega)
   have r16 : a.next = b.next := u8_ext (by omega)
   cases a; cases b; simp only [MsgD.mk.injEq]
   exact ⟨r0, r1, r2, r3, r4, r5, r6, r7, r8, r9, r10, r11, h1, h2, h3, h4, r12, r13, r14, r15, r16, h5⟩
 · rintro rfl; simp
theorem recCells_one (r : RecD) (h : Hd) : ∀ u ∈ recCells r h, u.oneCell' = true := by
 intro u hu
 simp only [recCells, List.mem_cons, List.not_mem_nil, or_false] at hu
 rcases hu with rfl | rfl | rfl | rfl <;> rfl
theorem objCells_one (r : ObjD) (h : Hd) : ∀ u ∈ objCells r h, u.oneCell' = true := by
 intro u hu
 simp only [objCells, List.mem_cons, List.not_mem_nil, or_false] at hu
 rcases hu with rfl | rfl <;> rfl
theorem take_eq_step {α : Type} {l1 l2 : List α} {m : Nat} (h : l1.take m = l2.take m) (h1 : m < l1.length) (h2 : m < l2.length) (e : l1[m]'h1 = l2[m]'h2) : l1.take (m + 1) = l2.take (m + 1) := by
 rw [take_snoc l1 m h1, take_snoc l2 m h2, h, e]
theorem take_eq_all {α : Type} {l1 l2 : List α} {m : Nat} (h : l1.take m = l2.take m) (h1 : l1.length ≤ m) (h2 : l2.length ≤ m) : l1 = l2 := by
 rwa [List.take_of_length_le h1, List.take_of_length_le h2] at h
theorem get_ne {α : Type} {l1 l2 : List α} {m : Nat} (h1 : m < l1.length) (h2 : m < l2.length) (e : ¬ l1[m]'h1 = l2[m]'h2) : ¬ l1 = l2 := by
 rintro rfl; exact e rfl
section
variable {c : Ctx} {Q : Post} {E : Env} {S T : List Res} {y : Code} {ops : Array Oper} {l : List Oper}
theorem GL_dropT {T' : List Res} (ht : Sub T' T) (k : GL c ops l Q E S T') : GL c ops l Q E S T := fun w a hr hs =>
 k w a hr ⟨hs.go, hs.sat.subT ht.mem, hs.own, fun x hx => hs.seen x (ht.mem x hx)⟩
theorem GC_dropT {T' : List Res} (ht : Sub T' T) (k : GC c y Q E S T') : GC c y Q E S T := fun w a hr hs =>
 k w a hr ⟨hs.go, hs.sat.subT ht.mem, hs.own, fun x hx => hs.seen x (ht.mem x hx)⟩
end
end Go.Bus
