/- Walks of the reference: which messages are looked at. No condition. -/
import Derived.Test.YtlfjioigkojjdaaGreatRefs
set_option linter.unusedVariables false
set_option linter.unusedSimpArgs false
set_option maxRecDepth 100000
set_option maxHeartbeats 8000000
namespace Go.Bus
open Go Go.Proofs
instance decFew (m : MsgD) : Decidable m.few := by unfold MsgD.few; infer_instance
theorem take_all_step {α : Type} {p : α → Prop} {l : List α} {m : Nat} (h : ∀ x ∈ l.take m, p x) (h1 : m < l.length) (e : p (l[m]'h1)) : ∀ x ∈ l.take (m + 1), p x := by
  rw [take_snoc l m h1]
  intro x hx
  rcases List.mem_append.1 hx with hx | hx
  · exact h x hx
  · rw [List.mem_singleton.1 hx]; exact e
theorem take_all {α : Type} {p : α → Prop} {l : List α} {m : Nat} (h : ∀ x ∈ l.take m, p x) (h1 : l.length ≤ m) : ∀ x ∈ l, p x := by
  rwa [List.take_of_length_le h1] at h
theorem Few_ct (a : MsgX) : CtD PG 18 [.agg a.cells.toArray] [] [msgR a] (.bool (decide a.m.few)) [] [] := by
  refine Ct_of Tryz.func18 rfl 63 rfl (Nat.le_of_ble_eq_true rfl) fun w0 M N => ?_
  refine GC_msg a fun ha => ?_
  have hs1 := ha.1
  have hlw := ha.words
  have hlb := ha.bits
  have hld := ha.data
  have hlr := ha.recs
  have hlo := ha.objs
  have hr1 := ha.2.2.2.2.1
  have ho1 := ha.2.2.2.2.2
  have hmx : a.r.n ≤ maxLen := by have := hr1.2.1; have := hr1.2.2.1; omega
  have hmo : a.o.n ≤ maxLen := by have := ho1.2.1; have := ho1.2.2.1; omega
  simp [maxLen] at hmx hmo
  refine GC_seq ?_
  refine GC_region ?_
  refine GL_boxA (l := a.cells) rfl rfl (fun b2 => ?_)
  refine GL_v rfl (rv_as (v := .bool _) vw) ?_
  refine GL_nil ?_
  rw [a.cells_eq]
  refine GC_seq ?_
  refine GC_seq ?_
  refine GC_region ?_
  refine GL_v rfl (rv_fa fa30_12 vw) ?_
  refine GL_v rfl (rv_ld Tryz.underlying25 rfl vw) ?_
  refine GL_v rfl (rv_len el25 vw) ?_
  refine GL_v rfl (rv_gtr vw vw) ?_
  refine GL_v rfl (rv_mv (v := .bool _) vw) ?_
  refine GL_g rfl rfl gvf (rv_fa fa30_13 vw) ?_
  refine GL_g rfl rfl gvf (rv_ld Tryz.underlying26 rfl vwg) ?_
  refine GL_g rfl rfl gvf (rv_len el26 vwg) ?_
  refine GL_g rfl rfl gvf (rv_gtr vwg vw) ?_
  refine GL_v rfl (rv_or vw vwg) ?_
  refine GL_v rfl (rv_mv (v := .bool _) vw) ?_
  refine GL_g rfl rfl gvf (rv_fa fa30_14 vw) ?_
  refine GL_g rfl rfl gvf (rv_ld Tryz.underlying22 rfl vwg) ?_
  refine GL_g rfl rfl gvf (rv_len el22 vwg) ?_
  refine GL_g rfl rfl gvf (rv_gtr vwg vw) ?_
  refine GL_v rfl (rv_or vw vwg) ?_
  refine GL_v rfl (rv_mv (v := .bool _) vw) ?_
  refine GL_g rfl rfl gvf (rv_fa fa30_15 vw) ?_
  refine GL_g rfl rfl gvf (rv_ld Tryz.underlying27 rfl vwg) ?_
  refine GL_g rfl rfl gvf (rv_len el27 vwg) ?_
  refine GL_g rfl rfl gvf (rv_gtr vwg vw) ?_
  refine GL_v rfl (rv_or vw vwg) ?_
  refine GL_v rfl (rv_mv (v := .bool _) vw) ?_
  refine GL_g rfl rfl gvf (rv_fa fa30_21 vw) ?_
  refine GL_g rfl rfl gvf (rv_ld Tryz.underlying28 rfl vwg) ?_
  refine GL_g rfl rfl gvf (rv_len el28 vwg) ?_
  refine GL_g rfl rfl gvf (rv_gtr vwg vw) ?_
  refine GL_v rfl (rv_or vw vwg) ?_
  refine GL_nil ?_
  refine GC_cond rfl (fun h0 => ?_) (fun h0 => ?_)
  ·
    have hne : decide a.m.few = false := by
      rw [decide_eq_false_iff_not]; rintro ⟨f1, f2, f3, f4, f5, f6, f7⟩
      have q := h0
      simp only [Bool.or_eq_true, decide_eq_true_eq] at q
      omega
    rw [hne]
    refine GC_seq ?_
    refine GC_region ?_
    refine GL_v rfl (rv_as (v := .bool _) vw) ?_
    refine GL_nil ?_
    refine GC_ret ?_
    exact fin1 (.inr rfl) rfl rfl .nil .nil ⟨rfl, rfl, rfl⟩
  ·
    have hh := h0
    simp only [Bool.or_eq_false_iff, decide_eq_false_iff_not] at hh
    refine GC_skip ?_
    refine GC_seq ?_
    refine GC_seq ?_
    refine GC_region ?_
    refine GL_v rfl (rv_as (v := .int .i64 _) vw) ?_
    refine GL_nil ?_
    refine GC_block ?_
    refine GC_loop (fun (m : Nat) E S T => m ≤ a.r.n ∧ (∀ x ∈ a.m.recs.take m, x.words.length ≤ 200) ∧ At E [(1, .pointer (some ⟨b2, 0, none⟩)), (3, .int .i64 m)] ∧ S = [blk b2 [b8 a.m.code, b8 a.m.fail, w16 a.m.addr, w16 a.m.count, w16 a.m.value, w16 a.m.and, w16 a.m.or, w16 a.m.addr2, w16 a.m.sub, w16 a.m.status, w16 a.m.events, w16 a.m.messages, .slice a.w.A a.w.n a.w.k, .slice a.b.A a.b.n a.b.k, .slice a.d.A a.d.n a.d.k, .slice a.r.A a.r.n a.r.k, b8 a.m.mei, b8 a.m.kind, b8 a.m.level, b8 a.m.more, b8 a.m.next, .slice a.o.A a.o.n a.o.k] 30] ∧ T = [msgR a]) (fun m => a.r.n - m) 0 ⟨Nat.zero_le _, by simp, ⟨rfl, rfl, trivial⟩, rfl, rfl⟩ ?_
    rintro m E S T ⟨hm, heq, hE, rfl, rfl⟩
    obtain ⟨E0, rfl⟩ := hE.ex
    refine GC_seq ?_
    refine GC_seq ?_
    refine GC_region ?_
    refine GL_v rfl (rv_mv (v := .int .i64 _) vw) ?_
    refine GL_v rfl (rv_fa fa30_15 vw) ?_
    refine GL_v rfl (rv_ld Tryz.underlying27 rfl vw) ?_
    refine GL_v rfl (rv_len el27 vw) ?_
    refine GL_v rfl (rv_lss vw vw) ?_
    refine GL_nil ?_
    refine GC_cond rfl (fun h1 => ?_) (fun h1 => ?_)
    ·
      have hlt : m < a.m.recs.length := by have := h1; simp at this; omega
      have hi1 : m < a.rw.length := by have := hs1.1; omega
      have hA : a.r.A ≠ none := hr1.2.2.2.2 (by omega) (by decide)
      refine GC_shift .nil (msg_recs (x := a)) ?_
      refine GC_shift .nil (msg_rec (x := a) m hlt hi1) ?_
      refine GC_row (a.rw[m]'hi1).A fun hrow => ?_
      have hrl : (a.m.recs[m]'hlt).words.length = (a.rw[m]'hi1).n := by have := hrow.1; simpa [wordsV] using this
      refine GC_skip ?_
      refine GC_seq ?_
      refine GC_block ?_
      refine GC_seq ?_
      refine GC_region ?_
      refine GL_v rfl (rv_fa fa30_15 vw) ?_
      refine GL_v rfl (rv_ld Tryz.underlying27 rfl vw) ?_
      refine GL_v rfl (rv_mv (v := .int .i64 _) vw) ?_
      refine GL_v rfl (rv_ix (i := m) el27 vw vw (fun _ => rfl) (fun _ => by omega) (fun _ => hA)) ?_
      refine GL_v rfl (rv_faE fa76_3 vw) ?_
      refine GL_v rfl (rv_ldE (sz := 4) (n := a.r.n) (c := a.r.k) (cells := recsV a.m.recs a.rw) (hl := ⟨fun w q => q.sat.okT _ (by simp)⟩) Tryz.underlying25 rfl vw (fun _ => recsV_val _ _ m hlt hi1)) ?_
      refine GL_v rfl (rv_len el25 vw) ?_
      refine GL_v rfl (rv_gtr vw vw) ?_
      refine GL_nil ?_
      refine GC_dropT (T' := [msgR a]) sb ?_
      refine GC_cond rfl (fun h2 => ?_) (fun h2 => ?_)
      ·
        have hne : decide a.m.few = false := by
          rw [decide_eq_false_iff_not]; rintro ⟨f1, f2, f3, f4, f5, f6, f7⟩
          have := f6 _ (List.getElem_mem hlt)
          have q := h2
          simp only [decide_eq_true_eq] at q
          omega
        rw [hne]
        refine GC_seq ?_
        refine GC_region ?_
        refine GL_v rfl (rv_as (v := .bool _) vw) ?_
        refine GL_nil ?_
        refine GC_ret ?_
        exact fin1 (.inr rfl) rfl rfl .nil .nil ⟨rfl, rfl, rfl⟩
      ·
        have he : (a.m.recs[m]'hlt).words.length ≤ 200 := by
          have q := h2
          simp only [decide_eq_false_iff_not] at q
          omega
        refine GC_skip ?_
        refine GC_region ?_
        refine GL_v rfl (rv_mv (v := .int .i64 _) vw) ?_
        refine GL_v rfl (rv_add (r := ((m + 1 : Nat) : Int)) vw vw (fun _ => by rw [IntWalk.i64_in _ (by omega)]; omega)) ?_
        refine GL_v rfl (rv_as (v := .int .i64 _) vw) ?_
        refine GL_nil ?_
        exact ⟨m + 1, ⟨by omega, take_all_step heq hlt he, ⟨rfl, rfl, trivial⟩, rfl, rfl⟩, by omega⟩
    ·
      have hrecs : ∀ r ∈ a.m.recs, r.words.length ≤ 200 := by
        have := h1; simp at this; exact take_all heq (by omega)
      clear heq hm
      refine GC_exit ?_
      refine GC_seq ?_
      refine GC_seq ?_
      refine GC_region ?_
      refine GL_v rfl (rv_as (v := .int .i64 _) vw) ?_
      refine GL_nil ?_
      refine GC_block ?_
      refine GC_loop (fun (m : Nat) E S T => m ≤ a.o.n ∧ (∀ x ∈ a.m.objects.take m, x.value.length ≤ 300) ∧ At E [(1, .pointer (some ⟨b2, 0, none⟩)), (4, .int .i64 m)] ∧ S = [blk b2 [b8 a.m.code, b8 a.m.fail, w16 a.m.addr, w16 a.m.count, w16 a.m.value, w16 a.m.and, w16 a.m.or, w16 a.m.addr2, w16 a.m.sub, w16 a.m.status, w16 a.m.events, w16 a.m.messages, .slice a.w.A a.w.n a.w.k, .slice a.b.A a.b.n a.b.k, .slice a.d.A a.d.n a.d.k, .slice a.r.A a.r.n a.r.k, b8 a.m.mei, b8 a.m.kind, b8 a.m.level, b8 a.m.more, b8 a.m.next, .slice a.o.A a.o.n a.o.k] 30] ∧ T = [msgR a]) (fun m => a.o.n - m) 0 ⟨Nat.zero_le _, by simp, ⟨rfl, rfl, trivial⟩, rfl, rfl⟩ ?_
      rintro m E S T ⟨hm, heq, hE, rfl, rfl⟩
      obtain ⟨E0, rfl⟩ := hE.ex
      refine GC_seq ?_
      refine GC_seq ?_
      refine GC_region ?_
      refine GL_v rfl (rv_mv (v := .int .i64 _) vw) ?_
      refine GL_v rfl (rv_fa fa30_21 vw) ?_
      refine GL_v rfl (rv_ld Tryz.underlying28 rfl vw) ?_
      refine GL_v rfl (rv_len el28 vw) ?_
      refine GL_v rfl (rv_lss vw vw) ?_
      refine GL_nil ?_
      refine GC_cond rfl (fun h3 => ?_) (fun h3 => ?_)
      ·
        have hlt : m < a.m.objects.length := by have := h3; simp at this; omega
        have hi1 : m < a.ow.length := by have := hs1.2; omega
        have hA : a.o.A ≠ none := ho1.2.2.2.2 (by omega) (by decide)
        refine GC_shift .nil (msg_objs (x := a)) ?_
        refine GC_shift .nil (msg_obj (x := a) m hlt hi1) ?_
        refine GC_row (a.ow[m]'hi1).A fun hrow => ?_
        have hrl : (a.m.objects[m]'hlt).value.length = (a.ow[m]'hi1).n := by have := hrow.1; simpa [bytesV] using this
        refine GC_skip ?_
        refine GC_seq ?_
        refine GC_block ?_
        refine GC_seq ?_
        refine GC_region ?_
        refine GL_v rfl (rv_fa fa30_21 vw) ?_
        refine GL_v rfl (rv_ld Tryz.underlying28 rfl vw) ?_
        refine GL_v rfl (rv_mv (v := .int .i64 _) vw) ?_
        refine GL_v rfl (rv_ix (i := m) el28 vw vw (fun _ => rfl) (fun _ => by omega) (fun _ => hA)) ?_
        refine GL_v rfl (rv_faE fa78_1 vw) ?_
        refine GL_v rfl (rv_ldE (sz := 2) (n := a.o.n) (c := a.o.k) (cells := objsV a.m.objects a.ow) (hl := ⟨fun w q => q.sat.okT _ (by simp)⟩) Tryz.underlying22 rfl vw (fun _ => objsV_val _ _ m hlt hi1)) ?_
        refine GL_v rfl (rv_len el22 vw) ?_
        refine GL_v rfl (rv_gtr vw vw) ?_
        refine GL_nil ?_
        refine GC_dropT (T' := [msgR a]) sb ?_
        refine GC_cond rfl (fun h4 => ?_) (fun h4 => ?_)
        ·
          have hne : decide a.m.few = false := by
            rw [decide_eq_false_iff_not]; rintro ⟨f1, f2, f3, f4, f5, f6, f7⟩
            have := f7 _ (List.getElem_mem hlt)
            have q := h4
            simp only [decide_eq_true_eq] at q
            omega
          rw [hne]
          refine GC_seq ?_
          refine GC_region ?_
          refine GL_v rfl (rv_as (v := .bool _) vw) ?_
          refine GL_nil ?_
          refine GC_ret ?_
          exact fin1 (.inr rfl) rfl rfl .nil .nil ⟨rfl, rfl, rfl⟩
        ·
          have he : (a.m.objects[m]'hlt).value.length ≤ 300 := by
            have q := h4
            simp only [decide_eq_false_iff_not] at q
            omega
          refine GC_skip ?_
          refine GC_region ?_
          refine GL_v rfl (rv_mv (v := .int .i64 _) vw) ?_
          refine GL_v rfl (rv_add (r := ((m + 1 : Nat) : Int)) vw vw (fun _ => by rw [IntWalk.i64_in _ (by omega)]; omega)) ?_
          refine GL_v rfl (rv_as (v := .int .i64 _) vw) ?_
          refine GL_nil ?_
          exact ⟨m + 1, ⟨by omega, take_all_step heq hlt he, ⟨rfl, rfl, trivial⟩, rfl, rfl⟩, by omega⟩
      ·
        have he : decide a.m.few = true := by
          rw [decide_eq_true_eq]
          have := h3; simp at this
          exact ⟨by omega, by omega, by omega, by omega, by omega, hrecs, take_all heq (by omega)⟩
        rw [he]
        refine GC_exit ?_
        refine GC_seq ?_
        refine GC_region ?_
        refine GL_v rfl (rv_as (v := .bool _) vw) ?_
        refine GL_nil ?_
        refine GC_ret ?_
        exact fin1 (.inr rfl) rfl rfl .nil .nil ⟨rfl, rfl, rfl⟩
end Go.Bus
