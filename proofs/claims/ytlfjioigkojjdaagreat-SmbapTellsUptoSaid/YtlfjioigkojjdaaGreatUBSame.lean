/- Part of the proof: Same. No condition. -/
import Derived.Test.YtlfjioigkojjdaaGreatUBMsg
import Derived.Test.YtlfjioigkojjdaaGreatUBBits
import Derived.Test.YtlfjioigkojjdaaGreatUBEngd
set_option linter.unusedVariables false
set_option linter.unusedSimpArgs false
set_option maxRecDepth 100000
set_option maxHeartbeats 4000000
namespace Go.Bus
open Go Go.Proofs
theorem EqW_ct (A A2 : Option Addr) (n n2 k k2 : Nat) (l l2 : List UInt16) : CtD PG 178 [.slice A n k, .slice A2 n2 k2] [] [row 1 A n k (wordsV l), row 1 A2 n2 k2 (wordsV l2)] (.bool (decide (l = l2))) [] [] := by
 refine Ct_of Tryz.func178 rfl 26 rfl (Nat.le_of_ble_eq_true rfl) fun w0 M N => ?_
 refine GC_know (fun w hs => And.intro (row_f (hs.okT (row 1 A n k (wordsV l)) (by simp))) (row_f (hs.okT (row 1 A2 n2 k2 (wordsV l2)) (by simp)))) fun ⟨hr1, hr2⟩ => ?_
 have hl : l.length = n := by have := hr1.1; simpa [wordsV] using this
 have hl2 : l2.length = n2 := by have := hr2.1; simpa [wordsV] using this
 have hmx : n ≤ maxLen := by have := hr1.2.1; have := hr1.2.2.1; omega
 simp [maxLen] at hmx
 refine GC_seq ?_
 refine GC_region ?_
 refine GL_v rfl (rv_as (v := .bool _) vw) ?_
 refine GL_nil ?_
 refine GC_seq ?_
 refine GC_seq ?_
 refine GC_region ?_
 refine GL_v rfl (rv_mv (v := .slice _ _ _) vw) ?_
 refine GL_v rfl (rv_len el25 vw) ?_
 refine GL_v rfl (rv_mv (v := .slice _ _ _) vw) ?_
 refine GL_v rfl (rv_len el25 vw) ?_
 refine GL_v rfl (rv_neq vw vw) ?_
 refine GL_nil ?_
 refine GC_cond rfl (fun h0 => ?_) (fun h0 => ?_)
 ·
  have hne : decide (l = l2) = false := by
   rw [decide_eq_false_iff_not]; rintro rfl; simp at h0; omega
  rw [hne]
  refine GC_seq ?_
  refine GC_region ?_
  refine GL_v rfl (rv_as (v := .bool _) vw) ?_
  refine GL_nil ?_
  refine GC_ret ?_
  exact fin1 (.inr rfl) rfl rfl .nil .nil ⟨rfl, rfl, rfl⟩
 ·
  have hnn : n = n2 := by simp at h0; omega
  refine GC_skip ?_
  refine GC_seq ?_
  refine GC_seq ?_
  refine GC_region ?_
  refine GL_v rfl (rv_mv (v := .slice _ _ _) vw) ?_
  refine GL_v rfl (rv_len el25 vw) ?_
  refine GL_v rfl (rv_mv (v := .int .i64 _) vw) ?_
  refine GL_nil ?_
  refine GC_block ?_
  refine GC_loop (fun (m : Nat) E S T => m ≤ n ∧ l.take m = l2.take m ∧ At E [(0, .slice A n k), (1, .slice A2 n2 k2), (13, .int .i64 m), (12, .int .i64 n)] ∧ S = [] ∧ T = [row 1 A n k (wordsV l), row 1 A2 n2 k2 (wordsV l2)]) (fun m => n - m) 0 ⟨Nat.zero_le _, rfl, ⟨rfl, rfl, rfl, rfl, trivial⟩, rfl, rfl⟩ ?_
  rintro m E S T ⟨hm, heq, hE, rfl, rfl⟩
  obtain ⟨E0, rfl⟩ := hE.ex
  refine GC_seq ?_
  refine GC_region ?_
  refine GL_v rfl (rv_lss vw vw) ?_
  refine GL_nil ?_
  refine GC_seq ?_
  refine GC_cond rfl (fun h1 => ?_) (fun h1 => ?_)
  ·
   have hlt : m < l.length := by simp at h1; omega
   have hlt2 : m < l2.length := by omega
   have hA : A ≠ none := hr1.2.2.2.2 (by omega) (by decide)
   have hA2 : A2 ≠ none := hr2.2.2.2.2 (by omega) (by decide)
   refine GC_skip ?_
   refine GC_seq ?_
   refine GC_block ?_
   refine GC_seq ?_
   refine GC_region ?_
   refine GL_v rfl (rv_mv (v := .int .i64 _) vw) ?_
   refine GL_v rfl (rv_as (v := .int .i64 _) vw) ?_
   refine GL_nil ?_
   refine GC_seq ?_
   refine GC_draw 9 ([row 1 A n k (wordsV l), row 1 A2 n2 k2 (wordsV l2)]) mixed ?_
   refine GA_v (i := 0) rfl rfl rfl (by kernel_rfl) (rv_mv (v := .slice _ _ _) vw) ?_
   refine GA_v (i := 1) rfl rfl rfl (by kernel_rfl) (rv_mv (v := .int .i64 _) vw) ?_
   refine GA_v (i := 2) rfl rfl rfl (by kernel_rfl) (rv_ix (i := m) el25 vw vw (fun _ => rfl) (fun _ => by omega) (fun _ => hA)) ?_
   refine GA_v (i := 3) rfl rfl rfl (by kernel_rfl) (rv_ldE (sz := 1) (n := n) (c := k) (cells := wordsV l) (hl := ⟨fun w q => q _ (by simp)⟩) (v := w16 (l[m]'hlt)) Tryz.underlying24 rfl vw (fun _ => by rw [Nat.mul_one]; exact wordsV_at _)) ?_
   refine GA_v (i := 4) rfl rfl rfl (by kernel_rfl) (rv_mv (v := .slice _ _ _) vw) ?_
   refine GA_v (i := 5) rfl rfl rfl (by kernel_rfl) (rv_mv (v := .int .i64 _) vw) ?_
   refine GA_v (i := 6) rfl rfl rfl (by kernel_rfl) (rv_ix (i := m) el25 vw vw (fun _ => rfl) (fun _ => by omega) (fun _ => hA2)) ?_
   refine GA_v (i := 7) rfl rfl rfl (by kernel_rfl) (rv_ldE (sz := 1) (n := n2) (c := k2) (cells := wordsV l2) (hl := ⟨fun w q => q _ (by simp)⟩) (v := w16 (l2[m]'hlt2)) Tryz.underlying24 rfl vw (fun _ => by rw [Nat.mul_one]; exact wordsV_at _)) ?_
   refine GA_v (i := 8) rfl rfl rfl (by kernel_rfl) (rv_neq vw vw) ?_
   refine GA_nil (by kernel_rfl) ?_
   refine GC_cond rfl (fun h2 => ?_) (fun h2 => ?_)
   ·
    have hne : decide (l = l2) = false := by
     rw [decide_eq_false_iff_not]
     refine get_ne hlt hlt2 fun e => ?_
     rw [e] at h2; simp at h2
    rw [hne]
    refine GC_seq ?_
    refine GC_region ?_
    refine GL_v rfl (rv_as (v := .bool _) vw) ?_
    refine GL_nil ?_
    refine GC_ret ?_
    exact fin1 (.inr rfl) rfl rfl .nil .nil ⟨rfl, rfl, rfl⟩
   ·
    have he : l[m]'hlt = l2[m]'hlt2 := by
     apply u16_ext; simp at h2; omega
    refine GC_skip ?_
    refine GC_region ?_
    refine GL_v rfl (rv_add (r := ((m + 1 : Nat) : Int)) vw vw (fun _ => by rw [IntWalk.i64_in _ (by omega)]; omega)) ?_
    refine GL_v rfl (rv_mv (v := .int .i64 _) vw) ?_
    refine GL_nil ?_
    exact ⟨m + 1, ⟨by omega, take_eq_step heq hlt hlt2 he, ⟨rfl, rfl, rfl, rfl, trivial⟩, rfl, rfl⟩, by omega⟩
  ·
   have he : decide (l = l2) = true := by
    rw [decide_eq_true_eq]; simp at h1; exact take_eq_all heq (by omega) (by omega)
   rw [he]
   refine GC_exit ?_
   refine GC_seq ?_
   refine GC_region ?_
   refine GL_v rfl (rv_as (v := .bool _) vw) ?_
   refine GL_nil ?_
   refine GC_ret ?_
   exact fin1 (.inr rfl) rfl rfl .nil .nil ⟨rfl, rfl, rfl⟩
theorem EqB_ct (A A2 : Option Addr) (n n2 k k2 : Nat) (l l2 : List Bool) : CtD PG 179 [.slice A n k, .slice A2 n2 k2] [] [row 1 A n k (boolsV l), row 1 A2 n2 k2 (boolsV l2)] (.bool (decide (l = l2))) [] [] := by
 refine Ct_of Tryz.func179 rfl 26 rfl (Nat.le_of_ble_eq_true rfl) fun w0 M N => ?_
 refine GC_know (fun w hs => And.intro (row_f (hs.okT (row 1 A n k (boolsV l)) (by simp))) (row_f (hs.okT (row 1 A2 n2 k2 (boolsV l2)) (by simp)))) fun ⟨hr1, hr2⟩ => ?_
 have hl : l.length = n := by have := hr1.1; simpa [boolsV] using this
 have hl2 : l2.length = n2 := by have := hr2.1; simpa [boolsV] using this
 have hmx : n ≤ maxLen := by have := hr1.2.1; have := hr1.2.2.1; omega
 simp [maxLen] at hmx
 refine GC_seq ?_
 refine GC_region ?_
 refine GL_v rfl (rv_as (v := .bool _) vw) ?_
 refine GL_nil ?_
 refine GC_seq ?_
 refine GC_seq ?_
 refine GC_region ?_
 refine GL_v rfl (rv_mv (v := .slice _ _ _) vw) ?_
 refine GL_v rfl (rv_len el26 vw) ?_
 refine GL_v rfl (rv_mv (v := .slice _ _ _) vw) ?_
 refine GL_v rfl (rv_len el26 vw) ?_
 refine GL_v rfl (rv_neq vw vw) ?_
 refine GL_nil ?_
 refine GC_cond rfl (fun h0 => ?_) (fun h0 => ?_)
 ·
  have hne : decide (l = l2) = false := by
   rw [decide_eq_false_iff_not]; rintro rfl; simp at h0; omega
  rw [hne]
  refine GC_seq ?_
  refine GC_region ?_
  refine GL_v rfl (rv_as (v := .bool _) vw) ?_
  refine GL_nil ?_
  refine GC_ret ?_
  exact fin1 (.inr rfl) rfl rfl .nil .nil ⟨rfl, rfl, rfl⟩
 ·
  have hnn : n = n2 := by simp at h0; omega
  refine GC_skip ?_
  refine GC_seq ?_
  refine GC_seq ?_
  refine GC_region ?_
  refine GL_v rfl (rv_mv (v := .slice _ _ _) vw) ?_
  refine GL_v rfl (rv_len el26 vw) ?_
  refine GL_v rfl (rv_mv (v := .int .i64 _) vw) ?_
  refine GL_nil ?_
  refine GC_block ?_
  refine GC_loop (fun (m : Nat) E S T => m ≤ n ∧ l.take m = l2.take m ∧ At E [(0, .slice A n k), (1, .slice A2 n2 k2), (13, .int .i64 m), (12, .int .i64 n)] ∧ S = [] ∧ T = [row 1 A n k (boolsV l), row 1 A2 n2 k2 (boolsV l2)]) (fun m => n - m) 0 ⟨Nat.zero_le _, rfl, ⟨rfl, rfl, rfl, rfl, trivial⟩, rfl, rfl⟩ ?_
  rintro m E S T ⟨hm, heq, hE, rfl, rfl⟩
  obtain ⟨E0, rfl⟩ := hE.ex
  refine GC_seq ?_
  refine GC_region ?_
  refine GL_v rfl (rv_lss vw vw) ?_
  refine GL_nil ?_
  refine GC_seq ?_
  refine GC_cond rfl (fun h1 => ?_) (fun h1 => ?_)
  ·
   have hlt : m < l.length := by simp at h1; omega
   have hlt2 : m < l2.length := by omega
   have hA : A ≠ none := hr1.2.2.2.2 (by omega) (by decide)
   have hA2 : A2 ≠ none := hr2.2.2.2.2 (by omega) (by decide)
   refine GC_skip ?_
   refine GC_seq ?_
   refine GC_block ?_
   refine GC_seq ?_
   refine GC_region ?_
   refine GL_v rfl (rv_mv (v := .int .i64 _) vw) ?_
   refine GL_v rfl (rv_as (v := .int .i64 _) vw) ?_
   refine GL_nil ?_
   refine GC_seq ?_
   refine GC_draw 9 ([row 1 A n k (boolsV l), row 1 A2 n2 k2 (boolsV l2)]) mixed ?_
   refine GA_v (i := 0) rfl rfl rfl (by kernel_rfl) (rv_mv (v := .slice _ _ _) vw) ?_
   refine GA_v (i := 1) rfl rfl rfl (by kernel_rfl) (rv_mv (v := .int .i64 _) vw) ?_
   refine GA_v (i := 2) rfl rfl rfl (by kernel_rfl) (rv_ix (i := m) el26 vw vw (fun _ => rfl) (fun _ => by omega) (fun _ => hA)) ?_
   refine GA_v (i := 3) rfl rfl rfl (by kernel_rfl) (rv_ldE (sz := 1) (n := n) (c := k) (cells := boolsV l) (hl := ⟨fun w q => q _ (by simp)⟩) (v := .bool (l[m]'hlt)) Tryz.underlying4 rfl vw (fun _ => by rw [Nat.mul_one]; simp [boolsV, hlt])) ?_
   refine GA_v (i := 4) rfl rfl rfl (by kernel_rfl) (rv_mv (v := .slice _ _ _) vw) ?_
   refine GA_v (i := 5) rfl rfl rfl (by kernel_rfl) (rv_mv (v := .int .i64 _) vw) ?_
   refine GA_v (i := 6) rfl rfl rfl (by kernel_rfl) (rv_ix (i := m) el26 vw vw (fun _ => rfl) (fun _ => by omega) (fun _ => hA2)) ?_
   refine GA_v (i := 7) rfl rfl rfl (by kernel_rfl) (rv_ldE (sz := 1) (n := n2) (c := k2) (cells := boolsV l2) (hl := ⟨fun w q => q _ (by simp)⟩) (v := .bool (l2[m]'hlt2)) Tryz.underlying4 rfl vw (fun _ => by rw [Nat.mul_one]; simp [boolsV, hlt2])) ?_
   refine GA_v (i := 8) rfl rfl rfl (by kernel_rfl) (rv_neBool Tryz.underlying4 vw vw) ?_
   refine GA_nil (by kernel_rfl) ?_
   refine GC_cond rfl (fun h2 => ?_) (fun h2 => ?_)
   ·
    have hne : decide (l = l2) = false := by
     rw [decide_eq_false_iff_not]
     refine get_ne hlt hlt2 fun e => ?_
     rw [e] at h2; simp at h2
    rw [hne]
    refine GC_seq ?_
    refine GC_region ?_
    refine GL_v rfl (rv_as (v := .bool _) vw) ?_
    refine GL_nil ?_
    refine GC_ret ?_
    exact fin1 (.inr rfl) rfl rfl .nil .nil ⟨rfl, rfl, rfl⟩
   ·
    have he : l[m]'hlt = l2[m]'hlt2 := by simpa using h2
    refine GC_skip ?_
    refine GC_region ?_
    refine GL_v rfl (rv_add (r := ((m + 1 : Nat) : Int)) vw vw (fun _ => by rw [IntWalk.i64_in _ (by omega)]; omega)) ?_
    refine GL_v rfl (rv_mv (v := .int .i64 _) vw) ?_
    refine GL_nil ?_
    exact ⟨m + 1, ⟨by omega, take_eq_step heq hlt hlt2 he, ⟨rfl, rfl, rfl, rfl, trivial⟩, rfl, rfl⟩, by omega⟩
  ·
   have he : decide (l = l2) = true := by
    rw [decide_eq_true_eq]; simp at h1; exact take_eq_all heq (by omega) (by omega)
   rw [he]
   refine GC_exit ?_
   refine GC_seq ?_
   refine GC_region ?_
   refine GL_v rfl (rv_as (v := .bool _) vw) ?_
   refine GL_nil ?_
   refine GC_ret ?_
   exact fin1 (.inr rfl) rfl rfl .nil .nil ⟨rfl, rfl, rfl⟩
theorem rec_eq (x y : RecD) : (decide ((x.file.toNat : Int) = y.file.toNat) && decide ((x.record.toNat : Int) = y.record.toNat) && decide ((x.count.toNat : Int) = y.count.toNat) && decide (x.words = y.words)) = decide (x = y) := by
 rw [Bool.eq_iff_iff]
 simp only [Bool.and_eq_true, decide_eq_true_eq]
 constructor
 · rintro ⟨⟨⟨h1, h2⟩, h3⟩, h4⟩
   have r1 : x.file = y.file := u16_ext (by omega)
   have r2 : x.record = y.record := u16_ext (by omega)
   have r3 : x.count = y.count := u16_ext (by omega)
   cases x; cases y; simp only [RecD.mk.injEq]; exact ⟨r1, r2, r3, h4⟩
 · rintro rfl; simp
theorem obj_eq (x y : ObjD) : (decide ((x.id.toNat : Int) = y.id.toNat) && decide (x.value = y.value)) = decide (x = y) := by
 rw [Bool.eq_iff_iff]
 simp only [Bool.and_eq_true, decide_eq_true_eq]
 constructor
 · rintro ⟨h1, h4⟩
   have r1 : x.id = y.id := u8_ext (by omega)
   cases x; cases y; simp only [ObjD.mk.injEq]; exact ⟨r1, h4⟩
 · rintro rfl; simp
theorem rec_ct (x y : RecD) (h h' : Hd) : CtD PG 181 [.agg (recCells x h).toArray, .agg (recCells y h').toArray] [] [row 1 h.A h.n h.k (wordsV x.words), row 1 h'.A h'.n h'.k (wordsV y.words)] (.bool (decide (x = y))) [] [] := by
 refine Ct_of Tryz.func181 rfl 31 rfl (Nat.le_of_ble_eq_true rfl) fun w0 M N => ?_
 refine GC_seq ?_
 refine GC_region ?_
 refine GL_boxA (l := recCells x h) rfl rfl (fun b2 => ?_)
 refine GL_boxA (l := recCells y h') rfl rfl (fun b3 => ?_)
 simp only [recCells]
 refine GL_v rfl (rv_as (v := .bool _) vw) ?_
 refine GL_nil ?_
 refine GC_seq ?_
 refine GC_region ?_
 refine GL_v rfl (rv_fa fa76_0 vw) ?_
 refine GL_v rfl (rv_ld Tryz.underlying24 rfl vw) ?_
 refine GL_v rfl (rv_fa fa76_0 vw) ?_
 refine GL_v rfl (rv_ld Tryz.underlying24 rfl vw) ?_
 refine GL_v rfl (rv_eql vw vw) ?_
 refine GL_v rfl (rv_mv (v := .bool _) vw) ?_
 refine GL_g rfl rfl gvt (rv_fa fa76_1 vw) ?_
 refine GL_g rfl rfl gvt (rv_ld Tryz.underlying24 rfl vwg) ?_
 refine GL_g rfl rfl gvt (rv_fa fa76_1 vw) ?_
 refine GL_g rfl rfl gvt (rv_ld Tryz.underlying24 rfl vwg) ?_
 refine GL_g rfl rfl gvt (rv_eql vwg vwg) ?_
 refine GL_v rfl (rv_and vw vwg) ?_
 refine GL_v rfl (rv_mv (v := .bool _) vw) ?_
 refine GL_g rfl rfl gvt (rv_fa fa76_2 vw) ?_
 refine GL_g rfl rfl gvt (rv_ld Tryz.underlying24 rfl vwg) ?_
 refine GL_g rfl rfl gvt (rv_fa fa76_2 vw) ?_
 refine GL_g rfl rfl gvt (rv_ld Tryz.underlying24 rfl vwg) ?_
 refine GL_g rfl rfl gvt (rv_eql vwg vwg) ?_
 refine GL_v rfl (rv_and vw vwg) ?_
 refine GL_v rfl (rv_mv (v := .bool _) vw) ?_
 refine GL_g rfl rfl gvt (rv_fa fa76_3 vw) ?_
 refine GL_g rfl rfl gvt (rv_ld Tryz.underlying25 rfl vwg) ?_
 refine GL_g rfl rfl gvt (rv_fa fa76_3 vw) ?_
 refine GL_g rfl rfl gvt (rv_ld Tryz.underlying25 rfl vwg) ?_
 refine GL_callG rfl rfl gvt cb178 (fun _ => EqW_ct h.A h'.A h.n h'.n h.k h'.k x.words y.words) (fun q => by show [gd _ _, gd _ _] = _; rw [vwg q, vwg q]) (fun _ => sb) ?_
 refine GL_v rfl (rv_and vw vwg) ?_
 refine GL_v rfl (rv_as (v := .bool _) vw) ?_
 refine GL_nil ?_
 refine GC_ret ?_
 exact fin1 (.inr rfl) rfl rfl .nil .nil ⟨by rw [← rec_eq]; rfl, rfl, rfl⟩
theorem object_ct (x y : ObjD) (h h' : Hd) : CtD PG 183 [.agg (objCells x h).toArray, .agg (objCells y h').toArray] [] [row 1 h.A h.n h.k (bytesV x.value), row 1 h'.A h'.n h'.k (bytesV y.value)] (.bool (decide (x = y))) [] [] := by
 refine Ct_of Tryz.func183 rfl 19 rfl (Nat.le_of_ble_eq_true rfl) fun w0 M N => ?_
 refine GC_seq ?_
 refine GC_region ?_
 refine GL_boxA (l := objCells x h) rfl rfl (fun b2 => ?_)
 refine GL_boxA (l := objCells y h') rfl rfl (fun b3 => ?_)
 simp only [objCells]
 refine GL_v rfl (rv_as (v := .bool _) vw) ?_
 refine GL_nil ?_
 refine GC_seq ?_
 refine GC_region ?_
 refine GL_v rfl (rv_fa fa78_0 vw) ?_
 refine GL_v rfl (rv_ld Tryz.underlying5 rfl vw) ?_
 refine GL_v rfl (rv_fa fa78_0 vw) ?_
 refine GL_v rfl (rv_ld Tryz.underlying5 rfl vw) ?_
 refine GL_v rfl (rv_eql vw vw) ?_
 refine GL_v rfl (rv_mv (v := .bool _) vw) ?_
 refine GL_g rfl rfl gvt (rv_fa fa78_1 vw) ?_
 refine GL_g rfl rfl gvt (rv_ld Tryz.underlying22 rfl vwg) ?_
 refine GL_g rfl rfl gvt (rv_b2s (l := x.value) (h := ⟨fun w q => q.sat.okT _ (by simp)⟩) el22 Tryz.underlying5 Tryz.underlying9 vwg) ?_
 refine GL_g rfl rfl gvt (rv_fa fa78_1 vw) ?_
 refine GL_g rfl rfl gvt (rv_ld Tryz.underlying22 rfl vwg) ?_
 refine GL_g rfl rfl gvt (rv_b2s (l := y.value) (h := ⟨fun w q => q.sat.okT _ (by simp)⟩) el22 Tryz.underlying5 Tryz.underlying9 vwg) ?_
 refine GL_g rfl rfl gvt (rv_eqB vwg vwg) ?_
 refine GL_v rfl (rv_and vw vwg) ?_
 refine GL_v rfl (rv_as (v := .bool _) vw) ?_
 refine GL_nil ?_
 refine GC_ret ?_
 exact fin1 (.inr rfl) rfl rfl .nil .nil ⟨by rw [← obj_eq]; rfl, rfl, rfl⟩
theorem EqRecs_ct (a b : MsgX) : CtD PG 180 [.slice a.r.A a.r.n a.r.k, .slice b.r.A b.r.n b.r.k, .func (.func 181) [].toArray [].toArray] [] [msgR a, msgR b] (.bool (decide (a.m.recs = b.m.recs))) [] [] := by
 refine Ct_of Tryz.func180 rfl 32 rfl (Nat.le_of_ble_eq_true rfl) fun w0 M N => ?_
 refine GC_msg a fun ha => ?_
 refine GC_msg b fun hb => ?_
 have hl := ha.recs
 have hl2 := hb.recs
 have hs1 := ha.1
 have hs2 := hb.1
 have hr1 := ha.2.2.2.2.1
 have hr2 := hb.2.2.2.2.1
 have hmx : a.r.n ≤ maxLen := by have := hr1.2.1; have := hr1.2.2.1; omega
 simp [maxLen] at hmx
 refine GC_seq ?_
 refine GC_region ?_
 refine GL_v rfl (rv_as (v := .bool _) vw) ?_
 refine GL_nil ?_
 refine GC_seq ?_
 refine GC_seq ?_
 refine GC_region ?_
 refine GL_v rfl (rv_mv (v := .slice _ _ _) vw) ?_
 refine GL_v rfl (rv_len el27 vw) ?_
 refine GL_v rfl (rv_mv (v := .slice _ _ _) vw) ?_
 refine GL_v rfl (rv_len el27 vw) ?_
 refine GL_v rfl (rv_neq vw vw) ?_
 refine GL_nil ?_
 refine GC_cond rfl (fun h0 => ?_) (fun h0 => ?_)
 ·
  have hne : decide (a.m.recs = b.m.recs) = false := by
   rw [decide_eq_false_iff_not]; intro e; rw [e] at hl; simp at h0; omega
  rw [hne]
  refine GC_seq ?_
  refine GC_region ?_
  refine GL_v rfl (rv_as (v := .bool _) vw) ?_
  refine GL_nil ?_
  refine GC_ret ?_
  exact fin1 (.inr rfl) rfl rfl .nil .nil ⟨rfl, rfl, rfl⟩
 ·
  have hnn : a.r.n = b.r.n := by simp at h0; omega
  refine GC_skip ?_
  refine GC_seq ?_
  refine GC_seq ?_
  refine GC_region ?_
  refine GL_v rfl (rv_mv (v := .slice _ _ _) vw) ?_
  refine GL_v rfl (rv_len el27 vw) ?_
  refine GL_v rfl (rv_mv (v := .int .i64 _) vw) ?_
  refine GL_nil ?_
  refine GC_block ?_
  refine GC_loop (fun (m : Nat) E S T => m ≤ a.r.n ∧ a.m.recs.take m = b.m.recs.take m ∧ At E [(15, .slice a.r.A a.r.n a.r.k), (1, .slice b.r.A b.r.n b.r.k), (17, .int .i64 m), (16, .int .i64 a.r.n), (2, .func (.func 181) [].toArray [].toArray)] ∧ S = [] ∧ T = [msgR a, msgR b]) (fun m => a.r.n - m) 0 ⟨Nat.zero_le _, rfl, ⟨rfl, rfl, rfl, rfl, rfl, trivial⟩, rfl, rfl⟩ ?_
  rintro m E S T ⟨hm, heq, hE, rfl, rfl⟩
  obtain ⟨E0, rfl⟩ := hE.ex
  refine GC_seq ?_
  refine GC_region ?_
  refine GL_v rfl (rv_lss vw vw) ?_
  refine GL_nil ?_
  refine GC_seq ?_
  refine GC_cond rfl (fun h1 => ?_) (fun h1 => ?_)
  ·
   have hlt : m < a.m.recs.length := by simp at h1; omega
   have hlt2 : m < b.m.recs.length := by omega
   have hi1 : m < a.rw.length := by have := hs1.1; omega
   have hi2 : m < b.rw.length := by have := hs2.1; omega
   have hA : a.r.A ≠ none := hr1.2.2.2.2 (by omega) (by decide)
   have hA2 : b.r.A ≠ none := hr2.2.2.2.2 (by omega) (by decide)
   refine GC_shift .nil (msg_recs (x := a)) ?_
   refine GC_shift .nil (msg_recs (x := b)) ?_
   refine GC_shift .nil (msg_rec (x := a) m hlt hi1) ?_
   refine GC_shift .nil (msg_rec (x := b) m hlt2 hi2) ?_
   refine GC_skip ?_
   refine GC_seq ?_
   refine GC_block ?_
   refine GC_seq ?_
   refine GC_region ?_
   refine GL_v rfl (rv_mv (v := .int .i64 _) vw) ?_
   refine GL_v rfl (rv_ix (i := m) el27 vw vw (fun _ => rfl) (fun _ => by omega) (fun _ => hA)) ?_
   refine GL_v rfl (rv_ldEA (sz := 4) (m := a.r.n) (c := a.r.k) (cells := recsV a.m.recs a.rw) (hl := ⟨fun w q => q.sat.okT _ (by simp)⟩) (cs := recCells (a.m.recs[m]'hlt) (a.rw[m]'hi1)) a76 vw (fun _ => recsV_at _ _ m hlt hi1) (fun _ => rfl)) ?_
   refine GL_alloc rfl z76 (fun bb8 => ?_)
   refine GL_v rfl (rv_as (v := .int .i64 _) vw) ?_
   refine GL_stA (l' := recCells (a.m.recs[m]'hlt) (a.rw[m]'hi1)) rfl rfl c76 (recCells_one _ _) (by rfl) ?_
   refine GL_nil ?_
   refine GC_seq ?_
   refine GC_region ?_
   refine GL_v rfl (rv_mv (v := .slice _ _ _) vw) ?_
   refine GL_v rfl (rv_mv (v := .int .i64 _) vw) ?_
   refine GL_v rfl (rv_ix (i := m) el27 vw vw (fun _ => rfl) (fun _ => by omega) (fun _ => hA2)) ?_
   refine GL_v rfl (rv_ldEA (sz := 4) (m := b.r.n) (c := b.r.k) (cells := recsV b.m.recs b.rw) (hl := ⟨fun w q => q.sat.okT _ (by simp)⟩) (cs := recCells (b.m.recs[m]'hlt2) (b.rw[m]'hi2)) a76 vw (fun _ => recsV_at _ _ m hlt2 hi2) (fun _ => rfl)) ?_
   refine GL_alloc rfl z76 (fun b9 => ?_)
   refine GL_stA (l' := recCells (b.m.recs[m]'hlt2) (b.rw[m]'hi2)) rfl rfl c76 (recCells_one _ _) (by rfl) ?_
   refine GL_nil ?_
   refine GC_seq ?_
   refine GC_region ?_
   refine GL_v rfl (rv_mv (v := .func _ _ _) vw) ?_
   refine GL_v rfl (rv_ldA a76 vw rfl) ?_
   refine GL_v rfl (rv_ldA a76 vw rfl) ?_
   refine GL_callCD rfl rfl cb181 rfl (rec_ct (a.m.recs[m]'hlt) (b.m.recs[m]'hlt2) (a.rw[m]'hi1) (b.rw[m]'hi2)) .nil sb ?_
   refine GL_drop .nil (GL_dropT (T' := [msgR a, msgR b]) sb ?_)
   refine GL_drop (S' := []) .nil ?_
   refine GL_v rfl (rv_not vw) ?_
   refine GL_nil ?_
   refine GC_cond rfl (fun h2 => ?_) (fun h2 => ?_)
   ·
    have hne : decide (a.m.recs = b.m.recs) = false := by
     rw [decide_eq_false_iff_not]
     exact get_ne hlt hlt2 (by simpa using h2)
    rw [hne]
    refine GC_seq ?_
    refine GC_region ?_
    refine GL_v rfl (rv_as (v := .bool _) vw) ?_
    refine GL_nil ?_
    refine GC_ret ?_
    exact fin1 (.inr rfl) rfl rfl .nil .nil ⟨rfl, rfl, rfl⟩
   ·
    have he : a.m.recs[m]'hlt = b.m.recs[m]'hlt2 := by simpa using h2
    refine GC_skip ?_
    refine GC_region ?_
    refine GL_v rfl (rv_add (r := ((m + 1 : Nat) : Int)) vw vw (fun _ => by rw [IntWalk.i64_in _ (by omega)]; omega)) ?_
    refine GL_v rfl (rv_mv (v := .int .i64 _) vw) ?_
    refine GL_nil ?_
    exact ⟨m + 1, ⟨by omega, take_eq_step heq hlt hlt2 he, ⟨rfl, rfl, rfl, rfl, rfl, trivial⟩, rfl, rfl⟩, by omega⟩
  ·
   have he : decide (a.m.recs = b.m.recs) = true := by
    rw [decide_eq_true_eq]; simp at h1; exact take_eq_all heq (by omega) (by omega)
   rw [he]
   refine GC_exit ?_
   refine GC_seq ?_
   refine GC_region ?_
   refine GL_v rfl (rv_as (v := .bool _) vw) ?_
   refine GL_nil ?_
   refine GC_ret ?_
   exact fin1 (.inr rfl) rfl rfl .nil .nil ⟨rfl, rfl, rfl⟩
theorem EqObjs_ct (a b : MsgX) : CtD PG 182 [.slice a.o.A a.o.n a.o.k, .slice b.o.A b.o.n b.o.k, .func (.func 183) [].toArray [].toArray] [] [msgR a, msgR b] (.bool (decide (a.m.objects = b.m.objects))) [] [] := by
 refine Ct_of Tryz.func182 rfl 32 rfl (Nat.le_of_ble_eq_true rfl) fun w0 M N => ?_
 refine GC_msg a fun ha => ?_
 refine GC_msg b fun hb => ?_
 have hl := ha.objs
 have hl2 := hb.objs
 have hs1 := ha.1
 have hs2 := hb.1
 have hr1 := ha.2.2.2.2.2
 have hr2 := hb.2.2.2.2.2
 have hmx : a.o.n ≤ maxLen := by have := hr1.2.1; have := hr1.2.2.1; omega
 simp [maxLen] at hmx
 refine GC_seq ?_
 refine GC_region ?_
 refine GL_v rfl (rv_as (v := .bool _) vw) ?_
 refine GL_nil ?_
 refine GC_seq ?_
 refine GC_seq ?_
 refine GC_region ?_
 refine GL_v rfl (rv_mv (v := .slice _ _ _) vw) ?_
 refine GL_v rfl (rv_len el28 vw) ?_
 refine GL_v rfl (rv_mv (v := .slice _ _ _) vw) ?_
 refine GL_v rfl (rv_len el28 vw) ?_
 refine GL_v rfl (rv_neq vw vw) ?_
 refine GL_nil ?_
 refine GC_cond rfl (fun h0 => ?_) (fun h0 => ?_)
 ·
  have hne : decide (a.m.objects = b.m.objects) = false := by
   rw [decide_eq_false_iff_not]; intro e; rw [e] at hl; simp at h0; omega
  rw [hne]
  refine GC_seq ?_
  refine GC_region ?_
  refine GL_v rfl (rv_as (v := .bool _) vw) ?_
  refine GL_nil ?_
  refine GC_ret ?_
  exact fin1 (.inr rfl) rfl rfl .nil .nil ⟨rfl, rfl, rfl⟩
 ·
  have hnn : a.o.n = b.o.n := by simp at h0; omega
  refine GC_skip ?_
  refine GC_seq ?_
  refine GC_seq ?_
  refine GC_region ?_
  refine GL_v rfl (rv_mv (v := .slice _ _ _) vw) ?_
  refine GL_v rfl (rv_len el28 vw) ?_
  refine GL_v rfl (rv_mv (v := .int .i64 _) vw) ?_
  refine GL_nil ?_
  refine GC_block ?_
  refine GC_loop (fun (m : Nat) E S T => m ≤ a.o.n ∧ a.m.objects.take m = b.m.objects.take m ∧ At E [(15, .slice a.o.A a.o.n a.o.k), (1, .slice b.o.A b.o.n b.o.k), (17, .int .i64 m), (16, .int .i64 a.o.n), (2, .func (.func 183) [].toArray [].toArray)] ∧ S = [] ∧ T = [msgR a, msgR b]) (fun m => a.o.n - m) 0 ⟨Nat.zero_le _, rfl, ⟨rfl, rfl, rfl, rfl, rfl, trivial⟩, rfl, rfl⟩ ?_
  rintro m E S T ⟨hm, heq, hE, rfl, rfl⟩
  obtain ⟨E0, rfl⟩ := hE.ex
  refine GC_seq ?_
  refine GC_region ?_
  refine GL_v rfl (rv_lss vw vw) ?_
  refine GL_nil ?_
  refine GC_seq ?_
  refine GC_cond rfl (fun h1 => ?_) (fun h1 => ?_)
  ·
   have hlt : m < a.m.objects.length := by simp at h1; omega
   have hlt2 : m < b.m.objects.length := by omega
   have hi1 : m < a.ow.length := by have := hs1.2; omega
   have hi2 : m < b.ow.length := by have := hs2.2; omega
   have hA : a.o.A ≠ none := hr1.2.2.2.2 (by omega) (by decide)
   have hA2 : b.o.A ≠ none := hr2.2.2.2.2 (by omega) (by decide)
   refine GC_shift .nil (msg_objs (x := a)) ?_
   refine GC_shift .nil (msg_objs (x := b)) ?_
   refine GC_shift .nil (msg_obj (x := a) m hlt hi1) ?_
   refine GC_shift .nil (msg_obj (x := b) m hlt2 hi2) ?_
   refine GC_skip ?_
   refine GC_seq ?_
   refine GC_block ?_
   refine GC_seq ?_
   refine GC_region ?_
   refine GL_v rfl (rv_mv (v := .int .i64 _) vw) ?_
   refine GL_v rfl (rv_ix (i := m) el28 vw vw (fun _ => rfl) (fun _ => by omega) (fun _ => hA)) ?_
   refine GL_v rfl (rv_ldEA (sz := 2) (m := a.o.n) (c := a.o.k) (cells := objsV a.m.objects a.ow) (hl := ⟨fun w q => q.sat.okT _ (by simp)⟩) (cs := objCells (a.m.objects[m]'hlt) (a.ow[m]'hi1)) a78 vw (fun _ => objsV_at _ _ m hlt hi1) (fun _ => rfl)) ?_
   refine GL_alloc rfl z78 (fun bb8 => ?_)
   refine GL_v rfl (rv_as (v := .int .i64 _) vw) ?_
   refine GL_stA (l' := objCells (a.m.objects[m]'hlt) (a.ow[m]'hi1)) rfl rfl c78 (objCells_one _ _) (by rfl) ?_
   refine GL_nil ?_
   refine GC_seq ?_
   refine GC_region ?_
   refine GL_v rfl (rv_mv (v := .slice _ _ _) vw) ?_
   refine GL_v rfl (rv_mv (v := .int .i64 _) vw) ?_
   refine GL_v rfl (rv_ix (i := m) el28 vw vw (fun _ => rfl) (fun _ => by omega) (fun _ => hA2)) ?_
   refine GL_v rfl (rv_ldEA (sz := 2) (m := b.o.n) (c := b.o.k) (cells := objsV b.m.objects b.ow) (hl := ⟨fun w q => q.sat.okT _ (by simp)⟩) (cs := objCells (b.m.objects[m]'hlt2) (b.ow[m]'hi2)) a78 vw (fun _ => objsV_at _ _ m hlt2 hi2) (fun _ => rfl)) ?_
   refine GL_alloc rfl z78 (fun b9 => ?_)
   refine GL_stA (l' := objCells (b.m.objects[m]'hlt2) (b.ow[m]'hi2)) rfl rfl c78 (objCells_one _ _) (by rfl) ?_
   refine GL_nil ?_
   refine GC_seq ?_
   refine GC_region ?_
   refine GL_v rfl (rv_mv (v := .func _ _ _) vw) ?_
   refine GL_v rfl (rv_ldA a78 vw rfl) ?_
   refine GL_v rfl (rv_ldA a78 vw rfl) ?_
   refine GL_callCD rfl rfl cb183 rfl (object_ct (a.m.objects[m]'hlt) (b.m.objects[m]'hlt2) (a.ow[m]'hi1) (b.ow[m]'hi2)) .nil sb ?_
   refine GL_drop .nil (GL_dropT (T' := [msgR a, msgR b]) sb ?_)
   refine GL_drop (S' := []) .nil ?_
   refine GL_v rfl (rv_not vw) ?_
   refine GL_nil ?_
   refine GC_cond rfl (fun h2 => ?_) (fun h2 => ?_)
   ·
    have hne : decide (a.m.objects = b.m.objects) = false := by
     rw [decide_eq_false_iff_not]
     exact get_ne hlt hlt2 (by simpa using h2)
    rw [hne]
    refine GC_seq ?_
    refine GC_region ?_
    refine GL_v rfl (rv_as (v := .bool _) vw) ?_
    refine GL_nil ?_
    refine GC_ret ?_
    exact fin1 (.inr rfl) rfl rfl .nil .nil ⟨rfl, rfl, rfl⟩
   ·
    have he : a.m.objects[m]'hlt = b.m.objects[m]'hlt2 := by simpa using h2
    refine GC_skip ?_
    refine GC_region ?_
    refine GL_v rfl (rv_add (r := ((m + 1 : Nat) : Int)) vw vw (fun _ => by rw [IntWalk.i64_in _ (by omega)]; omega)) ?_
    refine GL_v rfl (rv_mv (v := .int .i64 _) vw) ?_
    refine GL_nil ?_
    exact ⟨m + 1, ⟨by omega, take_eq_step heq hlt hlt2 he, ⟨rfl, rfl, rfl, rfl, rfl, trivial⟩, rfl, rfl⟩, by omega⟩
  ·
   have he : decide (a.m.objects = b.m.objects) = true := by
    rw [decide_eq_true_eq]; simp at h1; exact take_eq_all heq (by omega) (by omega)
   rw [he]
   refine GC_exit ?_
   refine GC_seq ?_
   refine GC_region ?_
   refine GL_v rfl (rv_as (v := .bool _) vw) ?_
   refine GL_nil ?_
   refine GC_ret ?_
   exact fin1 (.inr rfl) rfl rfl .nil .nil ⟨rfl, rfl, rfl⟩
theorem plain_ct (x : MsgX) : CtD PG 177 [.agg x.cells.toArray] [] [] (.agg ((plainL x.m).map (Value.int .u16)).toArray) [] [] := by
 refine Ct_of Tryz.func177 rfl 49 rfl (Nat.le_of_ble_eq_true rfl) fun w0 M N => ?_
 refine GC_seq ?_
 refine GC_region ?_
 refine GL_boxA (l := x.cells) rfl rfl (fun b1 => ?_)
 simp only [MsgX.cells]
 refine GL_alloc rfl z171 (fun b2 => ?_)
 refine GL_nil ?_
 have q1 := x.m.mei.toNat_lt; have q2 := x.m.kind.toNat_lt; have q3 := x.m.level.toNat_lt; have q4 := x.m.more.toNat_lt; have q5 := x.m.code.toNat_lt; have q6 := x.m.fail.toNat_lt; have q7 := x.m.next.toNat_lt
 refine GC_seq ?_
 refine GC_region ?_
 refine GL_v rfl (rv_fa fa30_0 vw) ?_
 refine GL_v rfl (rv_ld Tryz.underlying5 rfl vw) ?_
 refine GL_v rfl (rv_cnv (r := (x.m.code.toNat : Int)) Tryz.underlying5 Tryz.underlying24 vw (fun _ => IntWalk.u16_in _ (by omega))) ?_
 refine GL_v rfl (rv_fa fa30_1 vw) ?_
 refine GL_v rfl (rv_ld Tryz.underlying5 rfl vw) ?_
 refine GL_v rfl (rv_cnv (r := (x.m.fail.toNat : Int)) Tryz.underlying5 Tryz.underlying24 vw (fun _ => IntWalk.u16_in _ (by omega))) ?_
 refine GL_v rfl (rv_fa fa30_2 vw) ?_
 refine GL_v rfl (rv_ld Tryz.underlying24 rfl vw) ?_
 refine GL_v rfl (rv_fa fa30_3 vw) ?_
 refine GL_v rfl (rv_ld Tryz.underlying24 rfl vw) ?_
 refine GL_v rfl (rv_fa fa30_4 vw) ?_
 refine GL_v rfl (rv_ld Tryz.underlying24 rfl vw) ?_
 refine GL_v rfl (rv_fa fa30_5 vw) ?_
 refine GL_v rfl (rv_ld Tryz.underlying24 rfl vw) ?_
 refine GL_v rfl (rv_fa fa30_6 vw) ?_
 refine GL_v rfl (rv_ld Tryz.underlying24 rfl vw) ?_
 refine GL_v rfl (rv_fa fa30_7 vw) ?_
 refine GL_v rfl (rv_ld Tryz.underlying24 rfl vw) ?_
 refine GL_v rfl (rv_fa fa30_8 vw) ?_
 refine GL_v rfl (rv_ld Tryz.underlying24 rfl vw) ?_
 refine GL_v rfl (rv_fa fa30_9 vw) ?_
 refine GL_v rfl (rv_ld Tryz.underlying24 rfl vw) ?_
 refine GL_v rfl (rv_fa fa30_10 vw) ?_
 refine GL_v rfl (rv_ld Tryz.underlying24 rfl vw) ?_
 refine GL_v rfl (rv_fa fa30_11 vw) ?_
 refine GL_v rfl (rv_ld Tryz.underlying24 rfl vw) ?_
 refine GL_v rfl (rv_fa fa30_16 vw) ?_
 refine GL_v rfl (rv_ld Tryz.underlying5 rfl vw) ?_
 refine GL_v rfl (rv_cnv (r := (x.m.mei.toNat : Int)) Tryz.underlying5 Tryz.underlying24 vw (fun _ => IntWalk.u16_in _ (by omega))) ?_
 refine GL_v rfl (rv_shl (r := 256 * (x.m.mei.toNat : Int)) vw vw (fun _ => by decide) (fun _ => (by rw [IntWalk.u16_in _ (by simp [IntKind.bits]; omega)]; simp [IntKind.bits]; omega))) ?_
 refine GL_v rfl (rv_fa fa30_17 vw) ?_
 refine GL_v rfl (rv_ld Tryz.underlying5 rfl vw) ?_
 refine GL_v rfl (rv_cnv (r := (x.m.kind.toNat : Int)) Tryz.underlying5 Tryz.underlying24 vw (fun _ => IntWalk.u16_in _ (by omega))) ?_
 refine GL_v rfl (rv_bit (r := .int .u16 ((256 * x.m.mei.toNat + x.m.kind.toNat : Nat) : Int)) (.inr (.inl rfl)) vw vw (fun _ w => run_or16 w _ _ q1 q2)) ?_
 refine GL_v rfl (rv_fa fa30_18 vw) ?_
 refine GL_v rfl (rv_ld Tryz.underlying5 rfl vw) ?_
 refine GL_v rfl (rv_cnv (r := (x.m.level.toNat : Int)) Tryz.underlying5 Tryz.underlying24 vw (fun _ => IntWalk.u16_in _ (by omega))) ?_
 refine GL_v rfl (rv_shl (r := 256 * (x.m.level.toNat : Int)) vw vw (fun _ => by decide) (fun _ => (by rw [IntWalk.u16_in _ (by simp [IntKind.bits]; omega)]; simp [IntKind.bits]; omega))) ?_
 refine GL_v rfl (rv_fa fa30_19 vw) ?_
 refine GL_v rfl (rv_ld Tryz.underlying5 rfl vw) ?_
 refine GL_v rfl (rv_cnv (r := (x.m.more.toNat : Int)) Tryz.underlying5 Tryz.underlying24 vw (fun _ => IntWalk.u16_in _ (by omega))) ?_
 refine GL_v rfl (rv_bit (r := .int .u16 ((256 * x.m.level.toNat + x.m.more.toNat : Nat) : Int)) (.inr (.inl rfl)) vw vw (fun _ w => run_or16 w _ _ q3 q4)) ?_
 refine GL_v rfl (rv_fa fa30_20 vw) ?_
 refine GL_v rfl (rv_ld Tryz.underlying5 rfl vw) ?_
 refine GL_v rfl (rv_cnv (r := (x.m.next.toNat : Int)) Tryz.underlying5 Tryz.underlying24 vw (fun _ => IntWalk.u16_in _ (by omega))) ?_
 refine GL_v rfl (rv_bldArr (z' := (plainL x.m).map (Value.int .u16)) z171 Tryz.underlying171 c24 (fun _ => by kernel_rfl)) ?_
 refine GL_stA (l' := (plainL x.m).map (Value.int .u16)) rfl rfl c171 (fun u hu => by obtain ⟨_, _, rfl⟩ := List.mem_map.1 hu; rfl) (by rfl) ?_
 refine GL_nil ?_
 refine GC_ret ?_
 exact finS (.inr rfl) rfl rfl inferInstance a171 rfl .nil .nil ⟨rfl, rfl, rfl⟩
theorem SameP_ct (a b : MsgX) : CtD PG 125 [.agg a.cells.toArray, .agg b.cells.toArray] [] [msgR a, msgR b] (.bool (decide (a.m = b.m))) [] [] := by
 refine Ct_of Tryz.func125 rfl 47 rfl (Nat.le_of_ble_eq_true rfl) fun w0 M N => ?_
 refine GC_shift .nil (msg_words (x := a)) ?_
 refine GC_shift .nil (msg_words (x := b)) ?_
 refine GC_shift .nil (msg_bits (x := a)) ?_
 refine GC_shift .nil (msg_bits (x := b)) ?_
 refine GC_shift .nil (msg_data (x := a)) ?_
 refine GC_shift .nil (msg_data (x := b)) ?_
 refine GC_seq ?_
 refine GC_region ?_
 refine GL_boxA (l := a.cells) rfl rfl (fun b2 => ?_)
 refine GL_boxA (l := b.cells) rfl rfl (fun b3 => ?_)
 refine GL_v rfl (rv_as (v := .bool _) vw) ?_
 refine GL_nil ?_
 have ea : a.cells = [b8 a.m.code, b8 a.m.fail, w16 a.m.addr, w16 a.m.count, w16 a.m.value, w16 a.m.and, w16 a.m.or, w16 a.m.addr2, w16 a.m.sub, w16 a.m.status, w16 a.m.events, w16 a.m.messages, .slice a.w.A a.w.n a.w.k, .slice a.b.A a.b.n a.b.k, .slice a.d.A a.d.n a.d.k, .slice a.r.A a.r.n a.r.k, b8 a.m.mei, b8 a.m.kind, b8 a.m.level, b8 a.m.more, b8 a.m.next, .slice a.o.A a.o.n a.o.k] := rfl
 have eb : b.cells = [b8 b.m.code, b8 b.m.fail, w16 b.m.addr, w16 b.m.count, w16 b.m.value, w16 b.m.and, w16 b.m.or, w16 b.m.addr2, w16 b.m.sub, w16 b.m.status, w16 b.m.events, w16 b.m.messages, .slice b.w.A b.w.n b.w.k, .slice b.b.A b.b.n b.b.k, .slice b.d.A b.d.n b.d.k, .slice b.r.A b.r.n b.r.k, b8 b.m.mei, b8 b.m.kind, b8 b.m.level, b8 b.m.more, b8 b.m.next, .slice b.o.A b.o.n b.o.k] := rfl
 rw [ea, eb]
 refine GC_seq ?_
 refine GC_draw 43 ([blk b2 [b8 a.m.code, b8 a.m.fail, w16 a.m.addr, w16 a.m.count, w16 a.m.value, w16 a.m.and, w16 a.m.or, w16 a.m.addr2, w16 a.m.sub, w16 a.m.status, w16 a.m.events, w16 a.m.messages, .slice a.w.A a.w.n a.w.k, .slice a.b.A a.b.n a.b.k, .slice a.d.A a.d.n a.d.k, .slice a.r.A a.r.n a.r.k, b8 a.m.mei, b8 a.m.kind, b8 a.m.level, b8 a.m.more, b8 a.m.next, .slice a.o.A a.o.n a.o.k] 30, blk b3 [b8 b.m.code, b8 b.m.fail, w16 b.m.addr, w16 b.m.count, w16 b.m.value, w16 b.m.and, w16 b.m.or, w16 b.m.addr2, w16 b.m.sub, w16 b.m.status, w16 b.m.events, w16 b.m.messages, .slice b.w.A b.w.n b.w.k, .slice b.b.A b.b.n b.b.k, .slice b.d.A b.d.n b.d.k, .slice b.r.A b.r.n b.r.k, b8 b.m.mei, b8 b.m.kind, b8 b.m.level, b8 b.m.more, b8 b.m.next, .slice b.o.A b.o.n b.o.k] 30, row 1 a.d.A a.d.n a.d.k (bytesV a.m.data), row 1 b.d.A b.d.n b.d.k (bytesV b.m.data)]) mixed ?_
 refine GA_v (i := 0) rfl rfl rfl (by kernel_rfl) (rv_ldA a30 vw rfl) ?_
 refine GA_v (i := 2) rfl rfl rfl (by kernel_rfl) (rv_ldA a30 vw rfl) ?_
 refine GA_one 1 rfl rfl (by kernel_rfl) ?_
 refine GL_callD rfl cb177 (plain_ct a) rfl .nil .nil ?_
 refine GL_nil ⟨inferInstance, ?_⟩
 refine GA_one 3 rfl rfl (by kernel_rfl) ?_
 refine GL_callD rfl cb177 (plain_ct b) rfl .nil .nil ?_
 refine GL_nil ⟨inferInstance, ?_⟩
 refine GA_v (i := 4) rfl rfl rfl (by kernel_rfl) (rv_eqArr (k := .u16) (xs := plainL a.m) (ys := plainL b.m) Tryz.underlying171 Tryz.underlying24 (by kernel_rfl) (by kernel_rfl) vw vw rfl rfl ⟨rfl, rfl⟩) ?_
 refine GA_v (i := 5) rfl rfl rfl (by kernel_rfl) (rv_mv (v := .bool _) vw) ?_
 refine GA_g (i := 6) rfl rfl rfl (by kernel_rfl) rfl gvt (rv_fa fa30_12 vw) ?_
 refine GA_g (i := 7) rfl rfl rfl (by kernel_rfl) rfl gvt (rv_ld Tryz.underlying25 rfl vwg) ?_
 refine GA_g (i := 8) rfl rfl rfl (by kernel_rfl) rfl gvt (rv_fa fa30_12 vw) ?_
 refine GA_g (i := 9) rfl rfl rfl (by kernel_rfl) rfl gvt (rv_ld Tryz.underlying25 rfl vwg) ?_
 refine GA_one 10 rfl rfl (by kernel_rfl) ?_
 refine GL_callG rfl rfl gvt cb178 (fun _ => EqW_ct a.w.A b.w.A a.w.n b.w.n a.w.k b.w.k a.m.words b.m.words) (fun q => by show [gd _ _, gd _ _] = _; rw [vwg q, vwg q]) (fun _ => sb) ?_
 refine GL_nil ⟨inferInstance, ?_⟩
 refine GA_v (i := 11) rfl rfl rfl (by kernel_rfl) (rv_and vw vwg) ?_
 refine GA_v (i := 12) rfl rfl rfl (by kernel_rfl) (rv_mv (v := .bool _) vw) ?_
 refine GA_g (i := 13) rfl rfl rfl (by kernel_rfl) rfl gvt (rv_fa fa30_13 vw) ?_
 refine GA_g (i := 14) rfl rfl rfl (by kernel_rfl) rfl gvt (rv_ld Tryz.underlying26 rfl vwg) ?_
 refine GA_g (i := 15) rfl rfl rfl (by kernel_rfl) rfl gvt (rv_fa fa30_13 vw) ?_
 refine GA_g (i := 16) rfl rfl rfl (by kernel_rfl) rfl gvt (rv_ld Tryz.underlying26 rfl vwg) ?_
 refine GA_one 17 rfl rfl (by kernel_rfl) ?_
 refine GL_callG rfl rfl gvt cb179 (fun _ => EqB_ct a.b.A b.b.A a.b.n b.b.n a.b.k b.b.k a.m.bits b.m.bits) (fun q => by show [gd _ _, gd _ _] = _; rw [vwg q, vwg q]) (fun _ => sb) ?_
 refine GL_nil ⟨inferInstance, ?_⟩
 refine GA_v (i := 18) rfl rfl rfl (by kernel_rfl) (rv_and vw vwg) ?_
 refine GA_v (i := 19) rfl rfl rfl (by kernel_rfl) (rv_mv (v := .bool _) vw) ?_
 refine GA_g (i := 20) rfl rfl rfl (by kernel_rfl) rfl gvt (rv_fa fa30_14 vw) ?_
 refine GA_g (i := 21) rfl rfl rfl (by kernel_rfl) rfl gvt (rv_ld Tryz.underlying22 rfl vwg) ?_
 refine GA_g (i := 22) rfl rfl rfl (by kernel_rfl) rfl gvt (rv_b2s (l := a.m.data) (h := ⟨fun w q => q _ (by simp)⟩) el22 Tryz.underlying5 Tryz.underlying9 vwg) ?_
 refine GA_g (i := 23) rfl rfl rfl (by kernel_rfl) rfl gvt (rv_fa fa30_14 vw) ?_
 refine GA_g (i := 24) rfl rfl rfl (by kernel_rfl) rfl gvt (rv_ld Tryz.underlying22 rfl vwg) ?_
 refine GA_g (i := 25) rfl rfl rfl (by kernel_rfl) rfl gvt (rv_b2s (l := b.m.data) (h := ⟨fun w q => q _ (by simp)⟩) el22 Tryz.underlying5 Tryz.underlying9 vwg) ?_
 refine GA_g (i := 26) rfl rfl rfl (by kernel_rfl) rfl gvt (rv_eqB vwg vwg) ?_
 refine GA_v (i := 27) rfl rfl rfl (by kernel_rfl) (rv_and vw vwg) ?_
 refine GA_v (i := 28) rfl rfl rfl (by kernel_rfl) (rv_mv (v := .bool _) vw) ?_
 refine GA_g (i := 29) rfl rfl rfl (by kernel_rfl) rfl gvt (rv_fa fa30_15 vw) ?_
 refine GA_g (i := 30) rfl rfl rfl (by kernel_rfl) rfl gvt (rv_ld Tryz.underlying27 rfl vwg) ?_
 refine GA_g (i := 31) rfl rfl rfl (by kernel_rfl) rfl gvt (rv_fa fa30_15 vw) ?_
 refine GA_g (i := 32) rfl rfl rfl (by kernel_rfl) rfl gvt (rv_ld Tryz.underlying27 rfl vwg) ?_
 refine GA_one 33 rfl rfl (by kernel_rfl) ?_
 refine GL_callG rfl rfl gvt cb180 (fun _ => EqRecs_ct a b) (fun q => by show [gd _ _, gd _ _, _] = _; rw [vwg q, vwg q]; rfl) (fun _ => sb) ?_
 refine GL_nil ⟨inferInstance, ?_⟩
 refine GA_v (i := 34) rfl rfl rfl (by kernel_rfl) (rv_and vw vwg) ?_
 refine GA_v (i := 35) rfl rfl rfl (by kernel_rfl) (rv_mv (v := .bool _) vw) ?_
 refine GA_g (i := 36) rfl rfl rfl (by kernel_rfl) rfl gvt (rv_fa fa30_21 vw) ?_
 refine GA_g (i := 37) rfl rfl rfl (by kernel_rfl) rfl gvt (rv_ld Tryz.underlying28 rfl vwg) ?_
 refine GA_g (i := 38) rfl rfl rfl (by kernel_rfl) rfl gvt (rv_fa fa30_21 vw) ?_
 refine GA_g (i := 39) rfl rfl rfl (by kernel_rfl) rfl gvt (rv_ld Tryz.underlying28 rfl vwg) ?_
 refine GA_one 40 rfl rfl (by kernel_rfl) ?_
 refine GL_callG rfl rfl gvt cb182 (fun _ => EqObjs_ct a b) (fun q => by show [gd _ _, gd _ _, _] = _; rw [vwg q, vwg q]; rfl) (fun _ => sb) ?_
 refine GL_nil ⟨inferInstance, ?_⟩
 refine GA_v (i := 41) rfl rfl rfl (by kernel_rfl) (rv_and vw vwg) ?_
 refine GA_v (i := 42) rfl rfl rfl (by kernel_rfl) (rv_as (v := .bool _) vw) ?_
 refine GA_nil (by kernel_rfl) ?_
 refine GC_ret ?_
 exact fin1 (.inr rfl) rfl rfl .nil .nil ⟨by rw [← sameB_eq]; rfl, rfl, rfl⟩
theorem of_ct (c f : UInt8) : CtD PG 97 [.agg [b8 c, b8 f].toArray] [] [] (.agg (MsgX.cells { m := { code := c, fail := f } }).toArray) [] [] := by
 refine Ct_of Tryz.func97 rfl 8 rfl (Nat.le_of_ble_eq_true rfl) fun w0 M N => ?_
 refine GC_seq ?_
 refine GC_region ?_
 refine GL_boxA rfl rfl (fun b1 => ?_)
 refine GL_alloc rfl z30 (fun b2 => ?_)
 refine GL_nil ?_
 refine GC_seq ?_
 refine GC_region ?_
 refine GL_v rfl (rv_fa fa108_0 vw) ?_
 refine GL_v rfl (rv_ld Tryz.underlying5 rfl vw) ?_
 refine GL_v rfl (rv_fa fa108_1 vw) ?_
 refine GL_v rfl (rv_ld Tryz.underlying5 rfl vw) ?_
 refine GL_v rfl (rv_bld (z' := [.int .u8 _, .int .u8 _, .int .u16 0, .int .u16 0, .int .u16 0, .int .u16 0, .int .u16 0, .int .u16 0, .int .u16 0, .int .u16 0, .int .u16 0, .int .u16 0, .slice none 0 0, .slice none 0 0, .slice none 0 0, .slice none 0 0, .int .u8 0, .int .u8 0, .int .u8 0, .int .u8 0, .int .u8 0, .slice none 0 0]) z30 l30 (fun _ => rfl)) ?_
 refine GL_stA rfl rfl c30 (by simp [Value.oneCell']) (by rfl) ?_
 refine GL_nil ?_
 refine GC_ret ?_
 exact finS (.inr rfl) rfl rfl inferInstance a30 rfl .nil .nil ⟨rfl, rfl, rfl⟩
end Go.Bus
