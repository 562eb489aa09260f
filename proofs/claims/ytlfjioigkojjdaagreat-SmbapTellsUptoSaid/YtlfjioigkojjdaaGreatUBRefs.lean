/- Part of the proof: Refs. No condition. -/
import Derived.Test.YtlfjioigkojjdaaGreatUBRefc
set_option linter.unusedVariables false
set_option linter.unusedSimpArgs false
set_option maxRecDepth 100000
set_option maxHeartbeats 8000000
namespace Go.Bus
open Go Go.Proofs
theorem rEqW_ct (A A2 : Option Addr) (n n2 k k2 : Nat) (l l2 : List UInt16) : CtD PG 63 [.slice A n k, .slice A2 n2 k2] [] [row 1 A n k (wordsV l), row 1 A2 n2 k2 (wordsV l2)] (.bool (decide (l = l2))) [] [] := by
 refine Ct_of Tryz.func63 rfl 26 rfl (Nat.le_of_ble_eq_true rfl) fun w0 M N => ?_
 refine GC_know (fun w hs => And.intro (row_f (hs.okT (row 1 A n k (wordsV l)) (by simp))) (row_f (hs.okT (row 1 A2 n2 k2 (wordsV l2)) (by simp)))) fun ⟨hr1, hr2⟩ => ?_
 have hl : l.length = n := by have := hr1.1; simpa [wordsV] using this
 have hl2 : l2.length = n2 := by have := hr2.1; simpa [wordsV] using this
 have hmx : n ≤ maxLen := by have := hr1.2.1; have := hr1.2.2.1; omega
 simp [maxLen] at hmx
 refine GC_seq ?_
 refine GC_region ?_
 refine GL_v rfl (rv_as (v := .bool _) vw) ?_
 refine GL_nil ?_
 refine GC_seq ?_
 refine GC_seq ?_
 refine GC_region ?_
 refine GL_v rfl (rv_mv (v := .slice _ _ _) vw) ?_
 refine GL_v rfl (rv_len el25 vw) ?_
 refine GL_v rfl (rv_mv (v := .slice _ _ _) vw) ?_
 refine GL_v rfl (rv_len el25 vw) ?_
 refine GL_v rfl (rv_neq vw vw) ?_
 refine GL_nil ?_
 refine GC_cond rfl (fun h0 => ?_) (fun h0 => ?_)
 ·
  have hne : decide (l = l2) = false := by
   rw [decide_eq_false_iff_not]; rintro rfl; simp at h0; omega
  rw [hne]
  refine GC_seq ?_
  refine GC_region ?_
  refine GL_v rfl (rv_as (v := .bool _) vw) ?_
  refine GL_nil ?_
  refine GC_ret ?_
  exact fin1 (.inr rfl) rfl rfl .nil .nil ⟨rfl, rfl, rfl⟩
 ·
  have hnn : n = n2 := by simp at h0; omega
  refine GC_skip ?_
  refine GC_seq ?_
  refine GC_seq ?_
  refine GC_region ?_
  refine GL_v rfl (rv_as (v := .int .i64 _) vw) ?_
  refine GL_nil ?_
  refine GC_block ?_
  refine GC_loop (fun (m : Nat) E S T => m ≤ n ∧ l.take m = l2.take m ∧ At E [(0, .slice A n k), (1, .slice A2 n2 k2), (5, .int .i64 m)] ∧ S = [] ∧ T = [row 1 A n k (wordsV l), row 1 A2 n2 k2 (wordsV l2)]) (fun m => n - m) 0 ⟨Nat.zero_le _, rfl, ⟨rfl, rfl, rfl, trivial⟩, rfl, rfl⟩ ?_
  rintro m E S T ⟨hm, heq, hE, rfl, rfl⟩
  obtain ⟨E0, rfl⟩ := hE.ex
  refine GC_seq ?_
  refine GC_seq ?_
  refine GC_region ?_
  refine GL_v rfl (rv_mv (v := .int .i64 _) vw) ?_
  refine GL_v rfl (rv_mv (v := .slice _ _ _) vw) ?_
  refine GL_v rfl (rv_len el25 vw) ?_
  refine GL_v rfl (rv_lss vw vw) ?_
  refine GL_nil ?_
  refine GC_cond rfl (fun h1 => ?_) (fun h1 => ?_)
  ·
   have hlt : m < l.length := by simp at h1; omega
   have hlt2 : m < l2.length := by omega
   have hA : A ≠ none := hr1.2.2.2.2 (by omega) (by decide)
   have hA2 : A2 ≠ none := hr2.2.2.2.2 (by omega) (by decide)
   refine GC_skip ?_
   refine GC_seq ?_
   refine GC_block ?_
   refine GC_seq ?_
   refine GC_draw 9 ([row 1 A n k (wordsV l), row 1 A2 n2 k2 (wordsV l2)]) mixed ?_
   refine GA_v (i := 0) rfl rfl rfl (by kernel_rfl) (rv_mv (v := .slice _ _ _) vw) ?_
   refine GA_v (i := 1) rfl rfl rfl (by kernel_rfl) (rv_mv (v := .int .i64 _) vw) ?_
   refine GA_v (i := 2) rfl rfl rfl (by kernel_rfl) (rv_ix (i := m) el25 vw vw (fun _ => rfl) (fun _ => by omega) (fun _ => hA)) ?_
   refine GA_v (i := 3) rfl rfl rfl (by kernel_rfl) (rv_ldE (sz := 1) (n := n) (c := k) (cells := wordsV l) (hl := ⟨fun w q => q _ (by simp)⟩) (v := w16 (l[m]'hlt)) Tryz.underlying24 rfl vw (fun _ => by rw [Nat.mul_one]; simp [wordsV, hlt])) ?_
   refine GA_v (i := 4) rfl rfl rfl (by kernel_rfl) (rv_mv (v := .slice _ _ _) vw) ?_
   refine GA_v (i := 5) rfl rfl rfl (by kernel_rfl) (rv_mv (v := .int .i64 _) vw) ?_
   refine GA_v (i := 6) rfl rfl rfl (by kernel_rfl) (rv_ix (i := m) el25 vw vw (fun _ => rfl) (fun _ => by omega) (fun _ => hA2)) ?_
   refine GA_v (i := 7) rfl rfl rfl (by kernel_rfl) (rv_ldE (sz := 1) (n := n2) (c := k2) (cells := wordsV l2) (hl := ⟨fun w q => q _ (by simp)⟩) (v := w16 (l2[m]'hlt2)) Tryz.underlying24 rfl vw (fun _ => by rw [Nat.mul_one]; simp [wordsV, hlt2])) ?_
   refine GA_v (i := 8) rfl rfl rfl (by kernel_rfl) (rv_neq vw vw) ?_
   refine GA_nil (by kernel_rfl) ?_
   refine GC_cond rfl (fun h2 => ?_) (fun h2 => ?_)
   ·
    have hne : decide (l = l2) = false := by
     rw [decide_eq_false_iff_not]
     refine get_ne hlt hlt2 fun e => ?_
     rw [e] at h2; simp at h2
    rw [hne]
    refine GC_seq ?_
    refine GC_region ?_
    refine GL_v rfl (rv_as (v := .bool _) vw) ?_
    refine GL_nil ?_
    refine GC_ret ?_
    exact fin1 (.inr rfl) rfl rfl .nil .nil ⟨rfl, rfl, rfl⟩
   ·
    have he : l[m]'hlt = l2[m]'hlt2 := by apply u16_ext; simp at h2; omega
    refine GC_skip ?_
    refine GC_region ?_
    refine GL_v rfl (rv_mv (v := .int .i64 _) vw) ?_
    refine GL_v rfl (rv_add (r := ((m + 1 : Nat) : Int)) vw vw (fun _ => by rw [IntWalk.i64_in _ (by omega)]; omega)) ?_
    refine GL_v rfl (rv_as (v := .int .i64 _) vw) ?_
    refine GL_nil ?_
    exact ⟨m + 1, ⟨by omega, take_eq_step heq hlt hlt2 he, ⟨rfl, rfl, rfl, trivial⟩, rfl, rfl⟩, by omega⟩
  ·
   have he : decide (l = l2) = true := by
    rw [decide_eq_true_eq]; simp at h1; exact take_eq_all heq (by omega) (by omega)
   rw [he]
   refine GC_exit ?_
   refine GC_seq ?_
   refine GC_region ?_
   refine GL_v rfl (rv_as (v := .bool _) vw) ?_
   refine GL_nil ?_
   refine GC_ret ?_
   exact fin1 (.inr rfl) rfl rfl .nil .nil ⟨rfl, rfl, rfl⟩
theorem rEqB_ct (A A2 : Option Addr) (n n2 k k2 : Nat) (l l2 : List Bool) : CtD PG 64 [.slice A n k, .slice A2 n2 k2] [] [row 1 A n k (boolsV l), row 1 A2 n2 k2 (boolsV l2)] (.bool (decide (l = l2))) [] [] := by
 refine Ct_of Tryz.func64 rfl 26 rfl (Nat.le_of_ble_eq_true rfl) fun w0 M N => ?_
 refine GC_know (fun w hs => And.intro (row_f (hs.okT (row 1 A n k (boolsV l)) (by simp))) (row_f (hs.okT (row 1 A2 n2 k2 (boolsV l2)) (by simp)))) fun ⟨hr1, hr2⟩ => ?_
 have hl : l.length = n := by have := hr1.1; simpa [boolsV] using this
 have hl2 : l2.length = n2 := by have := hr2.1; simpa [boolsV] using this
 have hmx : n ≤ maxLen := by have := hr1.2.1; have := hr1.2.2.1; omega
 simp [maxLen] at hmx
 refine GC_seq ?_
 refine GC_region ?_
 refine GL_v rfl (rv_as (v := .bool _) vw) ?_
 refine GL_nil ?_
 refine GC_seq ?_
 refine GC_seq ?_
 refine GC_region ?_
 refine GL_v rfl (rv_mv (v := .slice _ _ _) vw) ?_
 refine GL_v rfl (rv_len el26 vw) ?_
 refine GL_v rfl (rv_mv (v := .slice _ _ _) vw) ?_
 refine GL_v rfl (rv_len el26 vw) ?_
 refine GL_v rfl (rv_neq vw vw) ?_
 refine GL_nil ?_
 refine GC_cond rfl (fun h0 => ?_) (fun h0 => ?_)
 ·
  have hne : decide (l = l2) = false := by
   rw [decide_eq_false_iff_not]; rintro rfl; simp at h0; omega
  rw [hne]
  refine GC_seq ?_
  refine GC_region ?_
  refine GL_v rfl (rv_as (v := .bool _) vw) ?_
  refine GL_nil ?_
  refine GC_ret ?_
  exact fin1 (.inr rfl) rfl rfl .nil .nil ⟨rfl, rfl, rfl⟩
 ·
  have hnn : n = n2 := by simp at h0; omega
  refine GC_skip ?_
  refine GC_seq ?_
  refine GC_seq ?_
  refine GC_region ?_
  refine GL_v rfl (rv_as (v := .int .i64 _) vw) ?_
  refine GL_nil ?_
  refine GC_block ?_
  refine GC_loop (fun (m : Nat) E S T => m ≤ n ∧ l.take m = l2.take m ∧ At E [(0, .slice A n k), (1, .slice A2 n2 k2), (5, .int .i64 m)] ∧ S = [] ∧ T = [row 1 A n k (boolsV l), row 1 A2 n2 k2 (boolsV l2)]) (fun m => n - m) 0 ⟨Nat.zero_le _, rfl, ⟨rfl, rfl, rfl, trivial⟩, rfl, rfl⟩ ?_
  rintro m E S T ⟨hm, heq, hE, rfl, rfl⟩
  obtain ⟨E0, rfl⟩ := hE.ex
  refine GC_seq ?_
  refine GC_seq ?_
  refine GC_region ?_
  refine GL_v rfl (rv_mv (v := .int .i64 _) vw) ?_
  refine GL_v rfl (rv_mv (v := .slice _ _ _) vw) ?_
  refine GL_v rfl (rv_len el26 vw) ?_
  refine GL_v rfl (rv_lss vw vw) ?_
  refine GL_nil ?_
  refine GC_cond rfl (fun h1 => ?_) (fun h1 => ?_)
  ·
   have hlt : m < l.length := by simp at h1; omega
   have hlt2 : m < l2.length := by omega
   have hA : A ≠ none := hr1.2.2.2.2 (by omega) (by decide)
   have hA2 : A2 ≠ none := hr2.2.2.2.2 (by omega) (by decide)
   refine GC_skip ?_
   refine GC_seq ?_
   refine GC_block ?_
   refine GC_seq ?_
   refine GC_draw 9 ([row 1 A n k (boolsV l), row 1 A2 n2 k2 (boolsV l2)]) mixed ?_
   refine GA_v (i := 0) rfl rfl rfl (by kernel_rfl) (rv_mv (v := .slice _ _ _) vw) ?_
   refine GA_v (i := 1) rfl rfl rfl (by kernel_rfl) (rv_mv (v := .int .i64 _) vw) ?_
   refine GA_v (i := 2) rfl rfl rfl (by kernel_rfl) (rv_ix (i := m) el26 vw vw (fun _ => rfl) (fun _ => by omega) (fun _ => hA)) ?_
   refine GA_v (i := 3) rfl rfl rfl (by kernel_rfl) (rv_ldE (sz := 1) (n := n) (c := k) (cells := boolsV l) (hl := ⟨fun w q => q _ (by simp)⟩) (v := .bool (l[m]'hlt)) Tryz.underlying4 rfl vw (fun _ => by rw [Nat.mul_one]; simp [boolsV, hlt])) ?_
   refine GA_v (i := 4) rfl rfl rfl (by kernel_rfl) (rv_mv (v := .slice _ _ _) vw) ?_
   refine GA_v (i := 5) rfl rfl rfl (by kernel_rfl) (rv_mv (v := .int .i64 _) vw) ?_
   refine GA_v (i := 6) rfl rfl rfl (by kernel_rfl) (rv_ix (i := m) el26 vw vw (fun _ => rfl) (fun _ => by omega) (fun _ => hA2)) ?_
   refine GA_v (i := 7) rfl rfl rfl (by kernel_rfl) (rv_ldE (sz := 1) (n := n2) (c := k2) (cells := boolsV l2) (hl := ⟨fun w q => q _ (by simp)⟩) (v := .bool (l2[m]'hlt2)) Tryz.underlying4 rfl vw (fun _ => by rw [Nat.mul_one]; simp [boolsV, hlt2])) ?_
   refine GA_v (i := 8) rfl rfl rfl (by kernel_rfl) (rv_neBool Tryz.underlying4 vw vw) ?_
   refine GA_nil (by kernel_rfl) ?_
   refine GC_cond rfl (fun h2 => ?_) (fun h2 => ?_)
   ·
    have hne : decide (l = l2) = false := by
     rw [decide_eq_false_iff_not]
     refine get_ne hlt hlt2 fun e => ?_
     rw [e] at h2; simp at h2
    rw [hne]
    refine GC_seq ?_
    refine GC_region ?_
    refine GL_v rfl (rv_as (v := .bool _) vw) ?_
    refine GL_nil ?_
    refine GC_ret ?_
    exact fin1 (.inr rfl) rfl rfl .nil .nil ⟨rfl, rfl, rfl⟩
   ·
    have he : l[m]'hlt = l2[m]'hlt2 := by simpa using h2
    refine GC_skip ?_
    refine GC_region ?_
    refine GL_v rfl (rv_mv (v := .int .i64 _) vw) ?_
    refine GL_v rfl (rv_add (r := ((m + 1 : Nat) : Int)) vw vw (fun _ => by rw [IntWalk.i64_in _ (by omega)]; omega)) ?_
    refine GL_v rfl (rv_as (v := .int .i64 _) vw) ?_
    refine GL_nil ?_
    exact ⟨m + 1, ⟨by omega, take_eq_step heq hlt hlt2 he, ⟨rfl, rfl, rfl, trivial⟩, rfl, rfl⟩, by omega⟩
  ·
   have he : decide (l = l2) = true := by
    rw [decide_eq_true_eq]; simp at h1; exact take_eq_all heq (by omega) (by omega)
   rw [he]
   refine GC_exit ?_
   refine GC_seq ?_
   refine GC_region ?_
   refine GL_v rfl (rv_as (v := .bool _) vw) ?_
   refine GL_nil ?_
   refine GC_ret ?_
   exact fin1 (.inr rfl) rfl rfl .nil .nil ⟨rfl, rfl, rfl⟩
theorem rSameB_ct (A A2 : Option Addr) (n n2 k k2 : Nat) (l l2 : List UInt8) : CtD PG 21 [.slice A n k, .slice A2 n2 k2] [] [row 1 A n k (bytesV l), row 1 A2 n2 k2 (bytesV l2)] (.bool (decide (l = l2))) [] [] := by
 refine Ct_of Tryz.func21 rfl 10 rfl (Nat.le_of_ble_eq_true rfl) fun w0 M N => ?_
 refine GC_seq ?_
 refine GC_region ?_
 refine GL_v rfl (rv_as (v := .bool _) vw) ?_
 refine GL_nil ?_
 refine GC_seq ?_
 refine GC_region ?_
 refine GL_v rfl (rv_mv (v := .slice _ _ _) vw) ?_
 refine GL_v rfl (rv_b2s (n := n) (k := k) (l := l) (h := ⟨fun w q => q.sat.okT _ (by simp)⟩) el22 Tryz.underlying5 Tryz.underlying9 vw) ?_
 refine GL_v rfl (rv_mv (v := .slice _ _ _) vw) ?_
 refine GL_v rfl (rv_b2s (n := n2) (k := k2) (l := l2) (h := ⟨fun w q => q.sat.okT _ (by simp)⟩) el22 Tryz.underlying5 Tryz.underlying9 vw) ?_
 refine GL_v rfl (rv_eqB vw vw) ?_
 refine GL_v rfl (rv_as (v := .bool _) vw) ?_
 refine GL_nil ?_
 refine GC_ret ?_
 exact fin1 (.inr rfl) rfl rfl .nil .nil ⟨rfl, rfl, rfl⟩
theorem msgD_ext {a b : MsgD} (h0 : a.code = b.code) (h1 : a.fail = b.fail) (h2 : a.addr = b.addr) (h3 : a.count = b.count) (h4 : a.value = b.value) (h5 : a.and = b.and) (h6 : a.or = b.or) (h7 : a.addr2 = b.addr2) (h8 : a.sub = b.sub) (h9 : a.status = b.status) (h10 : a.events = b.events) (h11 : a.messages = b.messages) (h12 : a.words = b.words) (h13 : a.bits = b.bits) (h14 : a.data = b.data) (h15 : a.recs = b.recs) (h16 : a.mei = b.mei) (h17 : a.kind = b.kind) (h18 : a.level = b.level) (h19 : a.more = b.more) (h20 : a.next = b.next) (h21 : a.objects = b.objects) : a = b := by
 cases a; cases b; simp only at *; subst_vars; rfl
theorem objsV_val (rs : List ObjD) (hs : List Hd) (i : Nat) (h1 : i < rs.length) (h2 : i < hs.length) : (objsV rs hs)[i * 2 + 1]? = some (.slice (hs[i]'h2).A (hs[i]'h2).n (hs[i]'h2).k) := by
 have h := congrArg (·[1]?) (objsV_at rs hs i h1 h2)
 simpa [objCells, List.getElem?_take, List.getElem?_drop] using h
theorem objsV_id (rs : List ObjD) (hs : List Hd) (i : Nat) (h1 : i < rs.length) (h2 : i < hs.length) : (objsV rs hs)[i * 2 + 0]? = some (b8 (rs[i]'h1).id) := by
 have h := congrArg (·[0]?) (objsV_at rs hs i h1 h2)
 simpa [objCells, List.getElem?_take, List.getElem?_drop] using h
theorem rSame_ct (a b : MsgX) : CtD PG 17 [.agg a.cells.toArray, .agg b.cells.toArray] [] [msgR a, msgR b] (.bool (decide (a.m = b.m))) [] [] := by
 refine Ct_of Tryz.func17 rfl 254 rfl (Nat.le_of_ble_eq_true rfl) fun w0 M N => ?_
 refine GC_msg a fun ha => ?_
 refine GC_msg b fun hb => ?_
 have hs1 := ha.1
 have hs2 := hb.1
 have hlr := ha.recs
 have hlr2 := hb.recs
 have hlo := ha.objs
 have hlo2 := hb.objs
 have hr1 := ha.2.2.2.2.1
 have hr2 := hb.2.2.2.2.1
 have ho1 := ha.2.2.2.2.2
 have ho2 := hb.2.2.2.2.2
 have hmx : a.r.n ≤ maxLen := by have := hr1.2.1; have := hr1.2.2.1; omega
 have hmo : a.o.n ≤ maxLen := by have := ho1.2.1; have := ho1.2.2.1; omega
 simp [maxLen] at hmx hmo
 refine GC_seq ?_
 refine GC_region ?_
 refine GL_boxA (l := a.cells) rfl rfl (fun b2 => ?_)
 refine GL_boxA (l := b.cells) rfl rfl (fun b3 => ?_)
 refine GL_v rfl (rv_as (v := .bool _) vw) ?_
 refine GL_nil ?_
 rw [a.cells_eq, b.cells_eq]
 refine GC_seq ?_
 refine GC_seq ?_
 refine GC_region ?_
 refine GL_v rfl (rv_fa fa30_0 vw) ?_
 refine GL_v rfl (rv_ld Tryz.underlying5 rfl vw) ?_
 refine GL_v rfl (rv_fa fa30_0 vw) ?_
 refine GL_v rfl (rv_ld Tryz.underlying5 rfl vw) ?_
 refine GL_v rfl (rv_neq vw vw) ?_
 refine GL_v rfl (rv_mv (v := .bool _) vw) ?_
 refine GL_g rfl rfl gvf (rv_fa fa30_1 vw) ?_
 refine GL_g rfl rfl gvf (rv_ld Tryz.underlying5 rfl vwg) ?_
 refine GL_g rfl rfl gvf (rv_fa fa30_1 vw) ?_
 refine GL_g rfl rfl gvf (rv_ld Tryz.underlying5 rfl vwg) ?_
 refine GL_g rfl rfl gvf (rv_neq vwg vwg) ?_
 refine GL_v rfl (rv_or vw vwg) ?_
 refine GL_v rfl (rv_mv (v := .bool _) vw) ?_
 refine GL_g rfl rfl gvf (rv_fa fa30_2 vw) ?_
 refine GL_g rfl rfl gvf (rv_ld Tryz.underlying24 rfl vwg) ?_
 refine GL_g rfl rfl gvf (rv_fa fa30_2 vw) ?_
 refine GL_g rfl rfl gvf (rv_ld Tryz.underlying24 rfl vwg) ?_
 refine GL_g rfl rfl gvf (rv_neq vwg vwg) ?_
 refine GL_v rfl (rv_or vw vwg) ?_
 refine GL_v rfl (rv_mv (v := .bool _) vw) ?_
 refine GL_g rfl rfl gvf (rv_fa fa30_3 vw) ?_
 refine GL_g rfl rfl gvf (rv_ld Tryz.underlying24 rfl vwg) ?_
 refine GL_g rfl rfl gvf (rv_fa fa30_3 vw) ?_
 refine GL_g rfl rfl gvf (rv_ld Tryz.underlying24 rfl vwg) ?_
 refine GL_g rfl rfl gvf (rv_neq vwg vwg) ?_
 refine GL_v rfl (rv_or vw vwg) ?_
 refine GL_v rfl (rv_mv (v := .bool _) vw) ?_
 refine GL_g rfl rfl gvf (rv_fa fa30_4 vw) ?_
 refine GL_g rfl rfl gvf (rv_ld Tryz.underlying24 rfl vwg) ?_
 refine GL_g rfl rfl gvf (rv_fa fa30_4 vw) ?_
 refine GL_g rfl rfl gvf (rv_ld Tryz.underlying24 rfl vwg) ?_
 refine GL_g rfl rfl gvf (rv_neq vwg vwg) ?_
 refine GL_v rfl (rv_or vw vwg) ?_
 refine GL_v rfl (rv_mv (v := .bool _) vw) ?_
 refine GL_g rfl rfl gvf (rv_fa fa30_5 vw) ?_
 refine GL_g rfl rfl gvf (rv_ld Tryz.underlying24 rfl vwg) ?_
 refine GL_g rfl rfl gvf (rv_fa fa30_5 vw) ?_
 refine GL_g rfl rfl gvf (rv_ld Tryz.underlying24 rfl vwg) ?_
 refine GL_g rfl rfl gvf (rv_neq vwg vwg) ?_
 refine GL_v rfl (rv_or vw vwg) ?_
 refine GL_v rfl (rv_mv (v := .bool _) vw) ?_
 refine GL_g rfl rfl gvf (rv_fa fa30_6 vw) ?_
 refine GL_g rfl rfl gvf (rv_ld Tryz.underlying24 rfl vwg) ?_
 refine GL_g rfl rfl gvf (rv_fa fa30_6 vw) ?_
 refine GL_g rfl rfl gvf (rv_ld Tryz.underlying24 rfl vwg) ?_
 refine GL_g rfl rfl gvf (rv_neq vwg vwg) ?_
 refine GL_v rfl (rv_or vw vwg) ?_
 refine GL_v rfl (rv_mv (v := .bool _) vw) ?_
 refine GL_g rfl rfl gvf (rv_fa fa30_7 vw) ?_
 refine GL_g rfl rfl gvf (rv_ld Tryz.underlying24 rfl vwg) ?_
 refine GL_g rfl rfl gvf (rv_fa fa30_7 vw) ?_
 refine GL_g rfl rfl gvf (rv_ld Tryz.underlying24 rfl vwg) ?_
 refine GL_g rfl rfl gvf (rv_neq vwg vwg) ?_
 refine GL_v rfl (rv_or vw vwg) ?_
 refine GL_v rfl (rv_mv (v := .bool _) vw) ?_
 refine GL_g rfl rfl gvf (rv_fa fa30_8 vw) ?_
 refine GL_g rfl rfl gvf (rv_ld Tryz.underlying24 rfl vwg) ?_
 refine GL_g rfl rfl gvf (rv_fa fa30_8 vw) ?_
 refine GL_g rfl rfl gvf (rv_ld Tryz.underlying24 rfl vwg) ?_
 refine GL_g rfl rfl gvf (rv_neq vwg vwg) ?_
 refine GL_v rfl (rv_or vw vwg) ?_
 refine GL_v rfl (rv_mv (v := .bool _) vw) ?_
 refine GL_g rfl rfl gvf (rv_fa fa30_9 vw) ?_
 refine GL_g rfl rfl gvf (rv_ld Tryz.underlying24 rfl vwg) ?_
 refine GL_g rfl rfl gvf (rv_fa fa30_9 vw) ?_
 refine GL_g rfl rfl gvf (rv_ld Tryz.underlying24 rfl vwg) ?_
 refine GL_g rfl rfl gvf (rv_neq vwg vwg) ?_
 refine GL_v rfl (rv_or vw vwg) ?_
 refine GL_v rfl (rv_mv (v := .bool _) vw) ?_
 refine GL_g rfl rfl gvf (rv_fa fa30_10 vw) ?_
 refine GL_g rfl rfl gvf (rv_ld Tryz.underlying24 rfl vwg) ?_
 refine GL_g rfl rfl gvf (rv_fa fa30_10 vw) ?_
 refine GL_g rfl rfl gvf (rv_ld Tryz.underlying24 rfl vwg) ?_
 refine GL_g rfl rfl gvf (rv_neq vwg vwg) ?_
 refine GL_v rfl (rv_or vw vwg) ?_
 refine GL_v rfl (rv_mv (v := .bool _) vw) ?_
 refine GL_g rfl rfl gvf (rv_fa fa30_11 vw) ?_
 refine GL_g rfl rfl gvf (rv_ld Tryz.underlying24 rfl vwg) ?_
 refine GL_g rfl rfl gvf (rv_fa fa30_11 vw) ?_
 refine GL_g rfl rfl gvf (rv_ld Tryz.underlying24 rfl vwg) ?_
 refine GL_g rfl rfl gvf (rv_neq vwg vwg) ?_
 refine GL_v rfl (rv_or vw vwg) ?_
 refine GL_nil ?_
 refine GC_cond rfl (fun h0 => ?_) (fun h0 => ?_)
 ·
  have hne : decide (a.m = b.m) = false := by
   rw [decide_eq_false_iff_not]; intro e
   have q := h0
   rw [e] at q; simp at q
  rw [hne]
  refine GC_seq ?_
  refine GC_region ?_
  refine GL_v rfl (rv_as (v := .bool _) vw) ?_
  refine GL_nil ?_
  refine GC_ret ?_
  exact fin1 (.inr rfl) rfl rfl .nil .nil ⟨rfl, rfl, rfl⟩
 ·
  have hh1 := h0
  simp only [Bool.or_eq_false_iff, Bool.not_eq_false', decide_eq_true_eq] at hh1
  refine GC_skip ?_
  refine GC_seq ?_
  refine GC_seq ?_
  refine GC_region ?_
  refine GL_v rfl (rv_fa fa30_16 vw) ?_
  refine GL_v rfl (rv_ld Tryz.underlying5 rfl vw) ?_
  refine GL_v rfl (rv_fa fa30_16 vw) ?_
  refine GL_v rfl (rv_ld Tryz.underlying5 rfl vw) ?_
  refine GL_v rfl (rv_neq vw vw) ?_
  refine GL_v rfl (rv_mv (v := .bool _) vw) ?_
  refine GL_g rfl rfl gvf (rv_fa fa30_17 vw) ?_
  refine GL_g rfl rfl gvf (rv_ld Tryz.underlying5 rfl vwg) ?_
  refine GL_g rfl rfl gvf (rv_fa fa30_17 vw) ?_
  refine GL_g rfl rfl gvf (rv_ld Tryz.underlying5 rfl vwg) ?_
  refine GL_g rfl rfl gvf (rv_neq vwg vwg) ?_
  refine GL_v rfl (rv_or vw vwg) ?_
  refine GL_v rfl (rv_mv (v := .bool _) vw) ?_
  refine GL_g rfl rfl gvf (rv_fa fa30_18 vw) ?_
  refine GL_g rfl rfl gvf (rv_ld Tryz.underlying5 rfl vwg) ?_
  refine GL_g rfl rfl gvf (rv_fa fa30_18 vw) ?_
  refine GL_g rfl rfl gvf (rv_ld Tryz.underlying5 rfl vwg) ?_
  refine GL_g rfl rfl gvf (rv_neq vwg vwg) ?_
  refine GL_v rfl (rv_or vw vwg) ?_
  refine GL_v rfl (rv_mv (v := .bool _) vw) ?_
  refine GL_g rfl rfl gvf (rv_fa fa30_19 vw) ?_
  refine GL_g rfl rfl gvf (rv_ld Tryz.underlying5 rfl vwg) ?_
  refine GL_g rfl rfl gvf (rv_fa fa30_19 vw) ?_
  refine GL_g rfl rfl gvf (rv_ld Tryz.underlying5 rfl vwg) ?_
  refine GL_g rfl rfl gvf (rv_neq vwg vwg) ?_
  refine GL_v rfl (rv_or vw vwg) ?_
  refine GL_v rfl (rv_mv (v := .bool _) vw) ?_
  refine GL_g rfl rfl gvf (rv_fa fa30_20 vw) ?_
  refine GL_g rfl rfl gvf (rv_ld Tryz.underlying5 rfl vwg) ?_
  refine GL_g rfl rfl gvf (rv_fa fa30_20 vw) ?_
  refine GL_g rfl rfl gvf (rv_ld Tryz.underlying5 rfl vwg) ?_
  refine GL_g rfl rfl gvf (rv_neq vwg vwg) ?_
  refine GL_v rfl (rv_or vw vwg) ?_
  refine GL_nil ?_
  refine GC_cond rfl (fun h1 => ?_) (fun h1 => ?_)
  ·
   have hne : decide (a.m = b.m) = false := by
    rw [decide_eq_false_iff_not]; intro e
    have q := h1
    rw [e] at q; simp at q
   rw [hne]
   refine GC_seq ?_
   refine GC_region ?_
   refine GL_v rfl (rv_as (v := .bool _) vw) ?_
   refine GL_nil ?_
   refine GC_ret ?_
   exact fin1 (.inr rfl) rfl rfl .nil .nil ⟨rfl, rfl, rfl⟩
  ·
   have hh2 := h1
   simp only [Bool.or_eq_false_iff, Bool.not_eq_false', decide_eq_true_eq] at hh2
   refine GC_shift .nil (msg_words (x := a)) ?_
   refine GC_shift .nil (msg_words (x := b)) ?_
   refine GC_shift .nil (msg_bits (x := a)) ?_
   refine GC_shift .nil (msg_bits (x := b)) ?_
   refine GC_shift .nil (msg_data (x := a)) ?_
   refine GC_shift .nil (msg_data (x := b)) ?_
   refine GC_skip ?_
   refine GC_seq ?_
   refine GC_region ?_
   refine GL_v rfl (rv_fa fa30_12 vw) ?_
   refine GL_v rfl (rv_ld Tryz.underlying25 rfl vw) ?_
   refine GL_v rfl (rv_fa fa30_12 vw) ?_
   refine GL_v rfl (rv_ld Tryz.underlying25 rfl vw) ?_
   refine GL_callD rfl cb63 (rEqW_ct a.w.A b.w.A a.w.n b.w.n a.w.k b.w.k a.m.words b.m.words) rfl .nil sb ?_
   refine GL_v rfl (rv_as (v := .bool _) vw) ?_
   refine GL_nil ?_
   refine GC_seq ?_
   refine GC_region ?_
   refine GL_v rfl (rv_fa fa30_13 vw) ?_
   refine GL_v rfl (rv_ld Tryz.underlying26 rfl vw) ?_
   refine GL_v rfl (rv_fa fa30_13 vw) ?_
   refine GL_v rfl (rv_ld Tryz.underlying26 rfl vw) ?_
   refine GL_callD rfl cb64 (rEqB_ct a.b.A b.b.A a.b.n b.b.n a.b.k b.b.k a.m.bits b.m.bits) rfl .nil sb ?_
   refine GL_v rfl (rv_as (v := .bool _) vw) ?_
   refine GL_nil ?_
   refine GC_seq ?_
   refine GC_region ?_
   refine GL_v rfl (rv_fa fa30_14 vw) ?_
   refine GL_v rfl (rv_ld Tryz.underlying22 rfl vw) ?_
   refine GL_v rfl (rv_fa fa30_14 vw) ?_
   refine GL_v rfl (rv_ld Tryz.underlying22 rfl vw) ?_
   refine GL_callD rfl cb21 (rSameB_ct a.d.A b.d.A a.d.n b.d.n a.d.k b.d.k a.m.data b.m.data) rfl .nil sb ?_
   refine GL_dropT (T' := [msgR a, msgR b]) sb ?_
   refine GL_v rfl (rv_as (v := .bool _) vw) ?_
   refine GL_nil ?_
   refine GC_seq ?_
   refine GC_seq ?_
   refine GC_region ?_
   refine GL_v rfl (rv_mv (v := .bool _) vw) ?_
   refine GL_v rfl (rv_not vw) ?_
   refine GL_v rfl (rv_mv (v := .bool _) vw) ?_
   refine GL_g rfl rfl gvf (rv_mv (v := .bool _) vw) ?_
   refine GL_g rfl rfl gvf (rv_not vwg) ?_
   refine GL_v rfl (rv_or vw vwg) ?_
   refine GL_v rfl (rv_mv (v := .bool _) vw) ?_
   refine GL_g rfl rfl gvf (rv_mv (v := .bool _) vw) ?_
   refine GL_g rfl rfl gvf (rv_not vwg) ?_
   refine GL_v rfl (rv_or vw vwg) ?_
   refine GL_v rfl (rv_mv (v := .bool _) vw) ?_
   refine GL_g rfl rfl gvf (rv_fa fa30_15 vw) ?_
   refine GL_g rfl rfl gvf (rv_ld Tryz.underlying27 rfl vwg) ?_
   refine GL_g rfl rfl gvf (rv_len el27 vwg) ?_
   refine GL_g rfl rfl gvf (rv_fa fa30_15 vw) ?_
   refine GL_g rfl rfl gvf (rv_ld Tryz.underlying27 rfl vwg) ?_
   refine GL_g rfl rfl gvf (rv_len el27 vwg) ?_
   refine GL_g rfl rfl gvf (rv_neq vwg vwg) ?_
   refine GL_v rfl (rv_or vw vwg) ?_
   refine GL_v rfl (rv_mv (v := .bool _) vw) ?_
   refine GL_g rfl rfl gvf (rv_fa fa30_21 vw) ?_
   refine GL_g rfl rfl gvf (rv_ld Tryz.underlying28 rfl vwg) ?_
   refine GL_g rfl rfl gvf (rv_len el28 vwg) ?_
   refine GL_g rfl rfl gvf (rv_fa fa30_21 vw) ?_
   refine GL_g rfl rfl gvf (rv_ld Tryz.underlying28 rfl vwg) ?_
   refine GL_g rfl rfl gvf (rv_len el28 vwg) ?_
   refine GL_g rfl rfl gvf (rv_neq vwg vwg) ?_
   refine GL_v rfl (rv_or vw vwg) ?_
   refine GL_nil ?_
   refine GC_cond rfl (fun h2 => ?_) (fun h2 => ?_)
   ·
    have hne : decide (a.m = b.m) = false := by
     rw [decide_eq_false_iff_not]; intro e
     have q := h2
     rw [← hlr, ← hlr2, ← hlo, ← hlo2] at q
     rw [e] at q; simp at q
    rw [hne]
    refine GC_seq ?_
    refine GC_region ?_
    refine GL_v rfl (rv_as (v := .bool _) vw) ?_
    refine GL_nil ?_
    refine GC_ret ?_
    exact fin1 (.inr rfl) rfl rfl .nil .nil ⟨rfl, rfl, rfl⟩
   ·
    have hh3 := h2
    simp only [Bool.or_eq_false_iff, Bool.not_eq_false', decide_eq_true_eq] at hh3
    obtain ⟨⟨⟨⟨g1, g2⟩, g3⟩, g4⟩, g5⟩ := hh3
    have hnn : a.r.n = b.r.n := by omega
    have hno : a.o.n = b.o.n := by omega
    refine GC_skip ?_
    refine GC_seq ?_
    refine GC_seq ?_
    refine GC_region ?_
    refine GL_v rfl (rv_as (v := .int .i64 _) vw) ?_
    refine GL_nil ?_
    refine GC_block ?_
    refine GC_loop (fun (m : Nat) E S T => m ≤ a.r.n ∧ a.m.recs.take m = b.m.recs.take m ∧ At E [(2, .pointer (some ⟨b2, 0, none⟩)), (3, .pointer (some ⟨b3, 0, none⟩)), (8, .int .i64 m)] ∧ S = [blk b3 [b8 b.m.code, b8 b.m.fail, w16 b.m.addr, w16 b.m.count, w16 b.m.value, w16 b.m.and, w16 b.m.or, w16 b.m.addr2, w16 b.m.sub, w16 b.m.status, w16 b.m.events, w16 b.m.messages, .slice b.w.A b.w.n b.w.k, .slice b.b.A b.b.n b.b.k, .slice b.d.A b.d.n b.d.k, .slice b.r.A b.r.n b.r.k, b8 b.m.mei, b8 b.m.kind, b8 b.m.level, b8 b.m.more, b8 b.m.next, .slice b.o.A b.o.n b.o.k] 30, blk b2 [b8 a.m.code, b8 a.m.fail, w16 a.m.addr, w16 a.m.count, w16 a.m.value, w16 a.m.and, w16 a.m.or, w16 a.m.addr2, w16 a.m.sub, w16 a.m.status, w16 a.m.events, w16 a.m.messages, .slice a.w.A a.w.n a.w.k, .slice a.b.A a.b.n a.b.k, .slice a.d.A a.d.n a.d.k, .slice a.r.A a.r.n a.r.k, b8 a.m.mei, b8 a.m.kind, b8 a.m.level, b8 a.m.more, b8 a.m.next, .slice a.o.A a.o.n a.o.k] 30] ∧ T = [msgR a, msgR b]) (fun m => a.r.n - m) 0 ⟨Nat.zero_le _, rfl, ⟨rfl, rfl, rfl, trivial⟩, rfl, rfl⟩ ?_
    rintro m E S T ⟨hm, heq, hE, rfl, rfl⟩
    obtain ⟨E0, rfl⟩ := hE.ex
    refine GC_seq ?_
    refine GC_seq ?_
    refine GC_region ?_
    refine GL_v rfl (rv_mv (v := .int .i64 _) vw) ?_
    refine GL_v rfl (rv_fa fa30_15 vw) ?_
    refine GL_v rfl (rv_ld Tryz.underlying27 rfl vw) ?_
    refine GL_v rfl (rv_len el27 vw) ?_
    refine GL_v rfl (rv_lss vw vw) ?_
    refine GL_nil ?_
    refine GC_cond rfl (fun h3 => ?_) (fun h3 => ?_)
    ·
     have hlt : m < a.m.recs.length := by have := h3; simp at this; omega
     have hlt2 : m < b.m.recs.length := by omega
     have hi1 : m < a.rw.length := by have := hs1.1; omega
     have hi2 : m < b.rw.length := by have := hs2.1; omega
     have hA : a.r.A ≠ none := hr1.2.2.2.2 (by omega) (by decide)
     have hA2 : b.r.A ≠ none := hr2.2.2.2.2 (by omega) (by decide)
     refine GC_shift .nil (msg_recs (x := a)) ?_
     refine GC_shift .nil (msg_recs (x := b)) ?_
     refine GC_shift .nil (msg_rec (x := a) m hlt hi1) ?_
     refine GC_shift .nil (msg_rec (x := b) m hlt2 hi2) ?_
     refine GC_skip ?_
     refine GC_seq ?_
     refine GC_block ?_
     refine GC_seq ?_
     refine GC_region ?_
     refine GL_v rfl (rv_fa fa30_15 vw) ?_
     refine GL_v rfl (rv_ld Tryz.underlying27 rfl vw) ?_
     refine GL_v rfl (rv_mv (v := .int .i64 _) vw) ?_
     refine GL_v rfl (rv_ix (i := m) el27 vw vw (fun _ => rfl) (fun _ => by omega) (fun _ => hA)) ?_
     refine GL_v rfl (rv_ldEA (sz := 4) (m := a.r.n) (c := a.r.k) (cells := recsV a.m.recs a.rw) (hl := ⟨fun w q => q.sat.okT _ (by simp)⟩) (cs := recCells (a.m.recs[m]'hlt) (a.rw[m]'hi1)) a76 vw (fun _ => recsV_at _ _ m hlt hi1) (fun _ => rfl)) ?_
     refine GL_alloc rfl z76 (fun b9 => ?_)
     refine GL_stA (l' := recCells (a.m.recs[m]'hlt) (a.rw[m]'hi1)) rfl rfl c76 (recCells_one _ _) (by rfl) ?_
     refine GL_nil ?_
     refine GC_seq ?_
     refine GC_region ?_
     refine GL_v rfl (rv_fa fa30_15 vw) ?_
     refine GL_v rfl (rv_ld Tryz.underlying27 rfl vw) ?_
     refine GL_v rfl (rv_mv (v := .int .i64 _) vw) ?_
     refine GL_v rfl (rv_ix (i := m) el27 vw vw (fun _ => rfl) (fun _ => by omega) (fun _ => hA2)) ?_
     refine GL_v rfl (rv_ldEA (sz := 4) (m := b.r.n) (c := b.r.k) (cells := recsV b.m.recs b.rw) (hl := ⟨fun w q => q.sat.okT _ (by simp)⟩) (cs := recCells (b.m.recs[m]'hlt2) (b.rw[m]'hi2)) a76 vw (fun _ => recsV_at _ _ m hlt2 hi2) (fun _ => rfl)) ?_
     refine GL_alloc rfl z76 (fun b10 => ?_)
     refine GL_stA (l' := recCells (b.m.recs[m]'hlt2) (b.rw[m]'hi2)) rfl rfl c76 (recCells_one _ _) (by rfl) ?_
     simp only [recCells]
     refine GL_nil ?_
     refine GC_seq ?_
     refine GC_region ?_
     refine GL_v rfl (rv_fa fa76_3 vw) ?_
     refine GL_v rfl (rv_ld Tryz.underlying25 rfl vw) ?_
     refine GL_v rfl (rv_fa fa76_3 vw) ?_
     refine GL_v rfl (rv_ld Tryz.underlying25 rfl vw) ?_
     refine GL_callD rfl cb63 (rEqW_ct (a.rw[m]'hi1).A (b.rw[m]'hi2).A (a.rw[m]'hi1).n (b.rw[m]'hi2).n (a.rw[m]'hi1).k (b.rw[m]'hi2).k (a.m.recs[m]'hlt).words (b.m.recs[m]'hlt2).words) rfl .nil sb ?_
     refine GL_dropT (T' := [msgR a, msgR b]) sb ?_
     refine GL_v rfl (rv_as (v := .bool _) vw) ?_
     refine GL_nil ?_
     refine GC_seq ?_
     refine GC_region ?_
     refine GL_v rfl (rv_mv (v := .bool _) vw) ?_
     refine GL_v rfl (rv_not vw) ?_
     refine GL_v rfl (rv_mv (v := .bool _) vw) ?_
     refine GL_g rfl rfl gvf (rv_fa fa76_0 vw) ?_
     refine GL_g rfl rfl gvf (rv_ld Tryz.underlying24 rfl vwg) ?_
     refine GL_g rfl rfl gvf (rv_fa fa76_0 vw) ?_
     refine GL_g rfl rfl gvf (rv_ld Tryz.underlying24 rfl vwg) ?_
     refine GL_g rfl rfl gvf (rv_neq vwg vwg) ?_
     refine GL_v rfl (rv_or vw vwg) ?_
     refine GL_v rfl (rv_mv (v := .bool _) vw) ?_
     refine GL_g rfl rfl gvf (rv_fa fa76_1 vw) ?_
     refine GL_g rfl rfl gvf (rv_ld Tryz.underlying24 rfl vwg) ?_
     refine GL_g rfl rfl gvf (rv_fa fa76_1 vw) ?_
     refine GL_g rfl rfl gvf (rv_ld Tryz.underlying24 rfl vwg) ?_
     refine GL_g rfl rfl gvf (rv_neq vwg vwg) ?_
     refine GL_v rfl (rv_or vw vwg) ?_
     refine GL_v rfl (rv_mv (v := .bool _) vw) ?_
     refine GL_g rfl rfl gvf (rv_fa fa76_2 vw) ?_
     refine GL_g rfl rfl gvf (rv_ld Tryz.underlying24 rfl vwg) ?_
     refine GL_g rfl rfl gvf (rv_fa fa76_2 vw) ?_
     refine GL_g rfl rfl gvf (rv_ld Tryz.underlying24 rfl vwg) ?_
     refine GL_g rfl rfl gvf (rv_neq vwg vwg) ?_
     refine GL_v rfl (rv_or vw vwg) ?_
     refine GL_nil ?_
     refine GC_cond rfl (fun h4 => ?_) (fun h4 => ?_)
     ·
      have hne : decide (a.m = b.m) = false := by
       rw [decide_eq_false_iff_not]; intro e
       refine absurd (congrArg MsgD.recs e) (get_ne hlt hlt2 fun e2 => ?_)
       have q := h4
       rw [e2] at q; simp at q
      rw [hne]
      refine GC_seq ?_
      refine GC_region ?_
      refine GL_v rfl (rv_as (v := .bool _) vw) ?_
      refine GL_nil ?_
      refine GC_ret ?_
      exact fin1 (.inr rfl) rfl rfl .nil .nil ⟨rfl, rfl, rfl⟩
     ·
      have he : a.m.recs[m]'hlt = b.m.recs[m]'hlt2 := by
       have q := h4
       simp only [Bool.or_eq_false_iff, Bool.not_eq_false', decide_eq_true_eq] at q
       have := rec_eq (a.m.recs[m]'hlt) (b.m.recs[m]'hlt2)
       rw [decide_eq_true q.1.1.2, decide_eq_true q.1.2, decide_eq_true q.2, decide_eq_true q.1.1.1] at this
       exact of_decide_eq_true this.symm
      refine GC_drop (S' := [blk b3 [b8 b.m.code, b8 b.m.fail, w16 b.m.addr, w16 b.m.count, w16 b.m.value, w16 b.m.and, w16 b.m.or, w16 b.m.addr2, w16 b.m.sub, w16 b.m.status, w16 b.m.events, w16 b.m.messages, .slice b.w.A b.w.n b.w.k, .slice b.b.A b.b.n b.b.k, .slice b.d.A b.d.n b.d.k, .slice b.r.A b.r.n b.r.k, b8 b.m.mei, b8 b.m.kind, b8 b.m.level, b8 b.m.more, b8 b.m.next, .slice b.o.A b.o.n b.o.k] 30, blk b2 [b8 a.m.code, b8 a.m.fail, w16 a.m.addr, w16 a.m.count, w16 a.m.value, w16 a.m.and, w16 a.m.or, w16 a.m.addr2, w16 a.m.sub, w16 a.m.status, w16 a.m.events, w16 a.m.messages, .slice a.w.A a.w.n a.w.k, .slice a.b.A a.b.n a.b.k, .slice a.d.A a.d.n a.d.k, .slice a.r.A a.r.n a.r.k, b8 a.m.mei, b8 a.m.kind, b8 a.m.level, b8 a.m.more, b8 a.m.next, .slice a.o.A a.o.n a.o.k] 30]) (.cons (.there (.there .here)) (.cons (.there (.there .here)) .nil)) ?_
      refine GC_skip ?_
      refine GC_region ?_
      refine GL_v rfl (rv_mv (v := .int .i64 _) vw) ?_
      refine GL_v rfl (rv_add (r := ((m + 1 : Nat) : Int)) vw vw (fun _ => by rw [IntWalk.i64_in _ (by omega)]; omega)) ?_
      refine GL_v rfl (rv_as (v := .int .i64 _) vw) ?_
      refine GL_nil ?_
      exact ⟨m + 1, ⟨by omega, take_eq_step heq hlt hlt2 he, ⟨rfl, rfl, rfl, trivial⟩, rfl, rfl⟩, by omega⟩
    ·
     have hrecs : a.m.recs = b.m.recs := by
      have := h3; simp at this; exact take_eq_all heq (by omega) (by omega)
     clear heq hm
     refine GC_exit ?_
     refine GC_seq ?_
     refine GC_seq ?_
     refine GC_region ?_
     refine GL_v rfl (rv_as (v := .int .i64 _) vw) ?_
     refine GL_nil ?_
     refine GC_block ?_
     refine GC_loop (fun (m : Nat) E S T => m ≤ a.o.n ∧ a.m.objects.take m = b.m.objects.take m ∧ At E [(2, .pointer (some ⟨b2, 0, none⟩)), (3, .pointer (some ⟨b3, 0, none⟩)), (12, .int .i64 m)] ∧ S = [blk b3 [b8 b.m.code, b8 b.m.fail, w16 b.m.addr, w16 b.m.count, w16 b.m.value, w16 b.m.and, w16 b.m.or, w16 b.m.addr2, w16 b.m.sub, w16 b.m.status, w16 b.m.events, w16 b.m.messages, .slice b.w.A b.w.n b.w.k, .slice b.b.A b.b.n b.b.k, .slice b.d.A b.d.n b.d.k, .slice b.r.A b.r.n b.r.k, b8 b.m.mei, b8 b.m.kind, b8 b.m.level, b8 b.m.more, b8 b.m.next, .slice b.o.A b.o.n b.o.k] 30, blk b2 [b8 a.m.code, b8 a.m.fail, w16 a.m.addr, w16 a.m.count, w16 a.m.value, w16 a.m.and, w16 a.m.or, w16 a.m.addr2, w16 a.m.sub, w16 a.m.status, w16 a.m.events, w16 a.m.messages, .slice a.w.A a.w.n a.w.k, .slice a.b.A a.b.n a.b.k, .slice a.d.A a.d.n a.d.k, .slice a.r.A a.r.n a.r.k, b8 a.m.mei, b8 a.m.kind, b8 a.m.level, b8 a.m.more, b8 a.m.next, .slice a.o.A a.o.n a.o.k] 30] ∧ T = [msgR a, msgR b]) (fun m => a.o.n - m) 0 ⟨Nat.zero_le _, rfl, ⟨rfl, rfl, rfl, trivial⟩, rfl, rfl⟩ ?_
     rintro m E S T ⟨hm, heq, hE, rfl, rfl⟩
     obtain ⟨E0, rfl⟩ := hE.ex
     refine GC_seq ?_
     refine GC_seq ?_
     refine GC_region ?_
     refine GL_v rfl (rv_mv (v := .int .i64 _) vw) ?_
     refine GL_v rfl (rv_fa fa30_21 vw) ?_
     refine GL_v rfl (rv_ld Tryz.underlying28 rfl vw) ?_
     refine GL_v rfl (rv_len el28 vw) ?_
     refine GL_v rfl (rv_lss vw vw) ?_
     refine GL_nil ?_
     refine GC_cond rfl (fun h5 => ?_) (fun h5 => ?_)
     ·
      have hlt : m < a.m.objects.length := by have := h5; simp at this; omega
      have hlt2 : m < b.m.objects.length := by omega
      have hi1 : m < a.ow.length := by have := hs1.2; omega
      have hi2 : m < b.ow.length := by have := hs2.2; omega
      have hA : a.o.A ≠ none := ho1.2.2.2.2 (by omega) (by decide)
      have hA2 : b.o.A ≠ none := ho2.2.2.2.2 (by omega) (by decide)
      refine GC_shift .nil (msg_objs (x := a)) ?_
      refine GC_shift .nil (msg_objs (x := b)) ?_
      refine GC_shift .nil (msg_obj (x := a) m hlt hi1) ?_
      refine GC_shift .nil (msg_obj (x := b) m hlt2 hi2) ?_
      refine GC_skip ?_
      refine GC_seq ?_
      refine GC_block ?_
      refine GC_seq ?_
      refine GC_draw 14 ([blk b2 [b8 a.m.code, b8 a.m.fail, w16 a.m.addr, w16 a.m.count, w16 a.m.value, w16 a.m.and, w16 a.m.or, w16 a.m.addr2, w16 a.m.sub, w16 a.m.status, w16 a.m.events, w16 a.m.messages, .slice a.w.A a.w.n a.w.k, .slice a.b.A a.b.n a.b.k, .slice a.d.A a.d.n a.d.k, .slice a.r.A a.r.n a.r.k, b8 a.m.mei, b8 a.m.kind, b8 a.m.level, b8 a.m.more, b8 a.m.next, .slice a.o.A a.o.n a.o.k] 30, blk b3 [b8 b.m.code, b8 b.m.fail, w16 b.m.addr, w16 b.m.count, w16 b.m.value, w16 b.m.and, w16 b.m.or, w16 b.m.addr2, w16 b.m.sub, w16 b.m.status, w16 b.m.events, w16 b.m.messages, .slice b.w.A b.w.n b.w.k, .slice b.b.A b.b.n b.b.k, .slice b.d.A b.d.n b.d.k, .slice b.r.A b.r.n b.r.k, b8 b.m.mei, b8 b.m.kind, b8 b.m.level, b8 b.m.more, b8 b.m.next, .slice b.o.A b.o.n b.o.k] 30, row 2 a.o.A a.o.n a.o.k (objsV a.m.objects a.ow), row 2 b.o.A b.o.n b.o.k (objsV b.m.objects b.ow)]) mixed ?_
      refine GA_v (i := 0) rfl rfl rfl (by kernel_rfl) (rv_fa fa30_21 vw) ?_
      refine GA_v (i := 1) rfl rfl rfl (by kernel_rfl) (rv_ld Tryz.underlying28 rfl vw) ?_
      refine GA_v (i := 2) rfl rfl rfl (by kernel_rfl) (rv_mv (v := .int .i64 _) vw) ?_
      refine GA_v (i := 3) rfl rfl rfl (by kernel_rfl) (rv_ix (i := m) el28 vw vw (fun _ => rfl) (fun _ => by omega) (fun _ => hA)) ?_
      refine GA_v (i := 4) rfl rfl rfl (by kernel_rfl) (rv_faE fa78_1 vw) ?_
      refine GA_v (i := 5) rfl rfl rfl (by kernel_rfl) (rv_ldE (sz := 2) (n := a.o.n) (c := a.o.k) (cells := objsV a.m.objects a.ow) (hl := ⟨fun w q => q _ (by simp)⟩) Tryz.underlying22 rfl vw (fun _ => objsV_val _ _ m hlt hi1)) ?_
      refine GA_v (i := 6) rfl rfl rfl (by kernel_rfl) (rv_fa fa30_21 vw) ?_
      refine GA_v (i := 7) rfl rfl rfl (by kernel_rfl) (rv_ld Tryz.underlying28 rfl vw) ?_
      refine GA_v (i := 8) rfl rfl rfl (by kernel_rfl) (rv_mv (v := .int .i64 _) vw) ?_
      refine GA_v (i := 9) rfl rfl rfl (by kernel_rfl) (rv_ix (i := m) el28 vw vw (fun _ => rfl) (fun _ => by omega) (fun _ => hA2)) ?_
      refine GA_v (i := 10) rfl rfl rfl (by kernel_rfl) (rv_faE fa78_1 vw) ?_
      refine GA_v (i := 11) rfl rfl rfl (by kernel_rfl) (rv_ldE (sz := 2) (n := b.o.n) (c := b.o.k) (cells := objsV b.m.objects b.ow) (hl := ⟨fun w q => q _ (by simp)⟩) Tryz.underlying22 rfl vw (fun _ => objsV_val _ _ m hlt2 hi2)) ?_
      refine GA_one 12 rfl rfl (by kernel_rfl) ?_
      refine GL_callD rfl cb21 (rSameB_ct (a.ow[m]'hi1).A (b.ow[m]'hi2).A (a.ow[m]'hi1).n (b.ow[m]'hi2).n (a.ow[m]'hi1).k (b.ow[m]'hi2).k (a.m.objects[m]'hlt).value (b.m.objects[m]'hlt2).value) rfl .nil sb ?_
      refine GL_nil ⟨inferInstance, ?_⟩
      refine GA_v (i := 13) rfl rfl rfl (by kernel_rfl) (rv_as (v := .bool _) vw) ?_
      refine GA_nil (by kernel_rfl) ?_
      refine GC_seq ?_
      refine GC_draw 17 ([blk b2 [b8 a.m.code, b8 a.m.fail, w16 a.m.addr, w16 a.m.count, w16 a.m.value, w16 a.m.and, w16 a.m.or, w16 a.m.addr2, w16 a.m.sub, w16 a.m.status, w16 a.m.events, w16 a.m.messages, .slice a.w.A a.w.n a.w.k, .slice a.b.A a.b.n a.b.k, .slice a.d.A a.d.n a.d.k, .slice a.r.A a.r.n a.r.k, b8 a.m.mei, b8 a.m.kind, b8 a.m.level, b8 a.m.more, b8 a.m.next, .slice a.o.A a.o.n a.o.k] 30, blk b3 [b8 b.m.code, b8 b.m.fail, w16 b.m.addr, w16 b.m.count, w16 b.m.value, w16 b.m.and, w16 b.m.or, w16 b.m.addr2, w16 b.m.sub, w16 b.m.status, w16 b.m.events, w16 b.m.messages, .slice b.w.A b.w.n b.w.k, .slice b.b.A b.b.n b.b.k, .slice b.d.A b.d.n b.d.k, .slice b.r.A b.r.n b.r.k, b8 b.m.mei, b8 b.m.kind, b8 b.m.level, b8 b.m.more, b8 b.m.next, .slice b.o.A b.o.n b.o.k] 30, row 2 a.o.A a.o.n a.o.k (objsV a.m.objects a.ow), row 2 b.o.A b.o.n b.o.k (objsV b.m.objects b.ow)]) mixed ?_
      refine GA_v (i := 0) rfl rfl rfl (by kernel_rfl) (rv_mv (v := .bool _) vw) ?_
      refine GA_v (i := 1) rfl rfl rfl (by kernel_rfl) (rv_not vw) ?_
      refine GA_v (i := 2) rfl rfl rfl (by kernel_rfl) (rv_mv (v := .bool _) vw) ?_
      refine GA_g (i := 3) rfl rfl rfl (by kernel_rfl) rfl gvf (rv_fa fa30_21 vw) ?_
      refine GA_g (i := 4) rfl rfl rfl (by kernel_rfl) rfl gvf (rv_ld Tryz.underlying28 rfl vwg) ?_
      refine GA_g (i := 5) rfl rfl rfl (by kernel_rfl) rfl gvf (rv_mv (v := .int .i64 _) vw) ?_
      refine GA_g (i := 6) rfl rfl rfl (by kernel_rfl) rfl gvf (rv_ix (i := m) el28 vwg vwg (fun _ => rfl) (fun _ => by omega) (fun _ => hA)) ?_
      refine GA_g (i := 7) rfl rfl rfl (by kernel_rfl) rfl gvf (rv_faE fa78_0 vwg) ?_
      refine GA_g (i := 8) rfl rfl rfl (by kernel_rfl) rfl gvf (rv_ldE (sz := 2) (n := a.o.n) (c := a.o.k) (cells := objsV a.m.objects a.ow) (hl := ⟨fun w q => q _ (by simp)⟩) Tryz.underlying5 rfl vwg (fun _ => objsV_id _ _ m hlt hi1)) ?_
      refine GA_g (i := 9) rfl rfl rfl (by kernel_rfl) rfl gvf (rv_fa fa30_21 vw) ?_
      refine GA_g (i := 10) rfl rfl rfl (by kernel_rfl) rfl gvf (rv_ld Tryz.underlying28 rfl vwg) ?_
      refine GA_g (i := 11) rfl rfl rfl (by kernel_rfl) rfl gvf (rv_mv (v := .int .i64 _) vw) ?_
      refine GA_g (i := 12) rfl rfl rfl (by kernel_rfl) rfl gvf (rv_ix (i := m) el28 vwg vwg (fun _ => rfl) (fun _ => by omega) (fun _ => hA2)) ?_
      refine GA_g (i := 13) rfl rfl rfl (by kernel_rfl) rfl gvf (rv_faE fa78_0 vwg) ?_
      refine GA_g (i := 14) rfl rfl rfl (by kernel_rfl) rfl gvf (rv_ldE (sz := 2) (n := b.o.n) (c := b.o.k) (cells := objsV b.m.objects b.ow) (hl := ⟨fun w q => q _ (by simp)⟩) Tryz.underlying5 rfl vwg (fun _ => objsV_id _ _ m hlt2 hi2)) ?_
      refine GA_g (i := 15) rfl rfl rfl (by kernel_rfl) rfl gvf (rv_neq vwg vwg) ?_
      refine GA_v (i := 16) rfl rfl rfl (by kernel_rfl) (rv_or vw vwg) ?_
      refine GA_nil (by kernel_rfl) ?_
      refine GC_dropT (T' := [msgR a, msgR b]) sb ?_
      refine GC_cond rfl (fun h6 => ?_) (fun h6 => ?_)
      ·
       have hne : decide (a.m = b.m) = false := by
        rw [decide_eq_false_iff_not]; intro e
        refine absurd (congrArg MsgD.objects e) (get_ne hlt hlt2 fun e2 => ?_)
        have q := h6
        rw [e2] at q; simp at q
       rw [hne]
       refine GC_seq ?_
       refine GC_region ?_
       refine GL_v rfl (rv_as (v := .bool _) vw) ?_
       refine GL_nil ?_
       refine GC_ret ?_
       exact fin1 (.inr rfl) rfl rfl .nil .nil ⟨rfl, rfl, rfl⟩
      ·
       have he : a.m.objects[m]'hlt = b.m.objects[m]'hlt2 := by
        have q := h6
        simp only [Bool.or_eq_false_iff, Bool.not_eq_false', decide_eq_true_eq] at q
        have := obj_eq (a.m.objects[m]'hlt) (b.m.objects[m]'hlt2)
        rw [decide_eq_true q.2, decide_eq_true q.1] at this
        exact of_decide_eq_true this.symm
       refine GC_skip ?_
       refine GC_region ?_
       refine GL_v rfl (rv_mv (v := .int .i64 _) vw) ?_
       refine GL_v rfl (rv_add (r := ((m + 1 : Nat) : Int)) vw vw (fun _ => by rw [IntWalk.i64_in _ (by omega)]; omega)) ?_
       refine GL_v rfl (rv_as (v := .int .i64 _) vw) ?_
       refine GL_nil ?_
       exact ⟨m + 1, ⟨by omega, take_eq_step heq hlt hlt2 he, ⟨rfl, rfl, rfl, trivial⟩, rfl, rfl⟩, by omega⟩
     ·
      have hobjs : a.m.objects = b.m.objects := by
       have := h5; simp at this; exact take_eq_all heq (by omega) (by omega)
      have he : decide (a.m = b.m) = true := by
       rw [decide_eq_true_eq]
       obtain ⟨⟨⟨⟨⟨⟨⟨⟨⟨⟨⟨q0, q1⟩, q2⟩, q3⟩, q4⟩, q5⟩, q6⟩, q7⟩, q8⟩, q9⟩, q10⟩, q11⟩ := hh1
       obtain ⟨⟨⟨⟨p0, p1⟩, p2⟩, p3⟩, p4⟩ := hh2
       exact msgD_ext (u8_ext (by omega)) (u8_ext (by omega)) (u16_ext (by omega)) (u16_ext (by omega)) (u16_ext (by omega)) (u16_ext (by omega)) (u16_ext (by omega)) (u16_ext (by omega)) (u16_ext (by omega)) (u16_ext (by omega)) (u16_ext (by omega)) (u16_ext (by omega)) g1 g2 g3 hrecs (u8_ext (by omega)) (u8_ext (by omega)) (u8_ext (by omega)) (u8_ext (by omega)) (u8_ext (by omega)) hobjs
      rw [he]
      refine GC_exit ?_
      refine GC_seq ?_
      refine GC_region ?_
      refine GL_v rfl (rv_as (v := .bool _) vw) ?_
      refine GL_nil ?_
      refine GC_ret ?_
      exact fin1 (.inr rfl) rfl rfl .nil .nil ⟨rfl, rfl, rfl⟩
end Go.Bus
