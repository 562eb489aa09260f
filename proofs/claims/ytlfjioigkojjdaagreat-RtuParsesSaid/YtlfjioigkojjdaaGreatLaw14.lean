/- Walks of the laws of messages. No condition. -/
import Derived.Test.YtlfjioigkojjdaaGreatRef14
set_option linter.unusedVariables false
set_option linter.unusedSimpArgs false
set_option maxRecDepth 100000
set_option maxHeartbeats 8000000
namespace Go.Bus
open Go Go.Proofs
theorem awake14_ct : CtD PG 14 [] [] [] (.bool true) [] [] := by
  refine Ct_of Tryz.func14 rfl 62 rfl (Nat.le_of_ble_eq_true rfl) fun w0 M N => ?_
  refine GC_seq ?_
  refine GC_region ?_
  refine GL_v rfl (rv_as (v := .bool _) vw) ?_
  refine GL_nil ?_
  refine GC_seq ?_
  refine GC_region ?_
  refine GL_bs (l := bytesV [3, 0, 107, 0, 3]) rfl el22 z5 rfl rfl rfl (fun bb8 => ?_)
  refine GL_shift (.cons .here .nil) (blk_own (n := 5) (sz := 1) rfl (by decide)) ?_
  refine GL_shift (.cons .here .nil) own_toRow ?_
  refine GL_call rfl cb15 (P14_ct 0 _ 5 5 [3, 0, 107, 0, 3] (by decide)) rfl .nil sb ?_
  rintro _ _ _ ⟨x, rfl, hx, rfl, rfl⟩
  simp only [List.cons_append, List.nil_append]
  have hP : P14 0 [3, 0, 107, 0, 3] = ({ code := 3, addr := 107, count := 3 }, 0) := by decide +kernel
  rw [hP] at hx ⊢
  simp only at hx ⊢
  refine GL_v rfl (rv_mv (v := .tuple [.agg x.cells.toArray, .int .i64 0].toArray) vw) ?_
  refine GL_v rfl (rv_ext vw rfl) ?_
  refine GL_v rfl (rv_ext vw rfl) ?_
  refine GL_alloc rfl z30 (fun b1 => ?_)
  refine GL_stA (l' := x.cells) rfl rfl c30 (MsgX.cells_one _) (by rfl) ?_
  refine GL_v rfl (rv_as (v := .int .i64 _) vw) ?_
  refine GL_nil ?_
  refine GC_seq ?_
  refine GC_region ?_
  refine GL_bs (l := bytesV [131, 2]) rfl el22 z5 rfl rfl rfl (fun b13 => ?_)
  refine GL_shift (.cons .here .nil) (blk_own (n := 2) (sz := 1) rfl (by decide)) ?_
  refine GL_shift (.cons .here .nil) own_toRow ?_
  refine GL_call rfl cb15 (P14_ct 1 _ 2 2 [131, 2] (by decide)) rfl .nil sb ?_
  rintro _ _ _ ⟨y, rfl, hy, rfl, rfl⟩
  simp only [List.cons_append, List.nil_append]
  have hP2 : P14 1 [131, 2] = ({ code := 3, fail := 2 }, 0) := by decide +kernel
  rw [hP2] at hy ⊢
  simp only at hy ⊢
  refine GL_v rfl (rv_mv (v := .tuple [.agg y.cells.toArray, .int .i64 0].toArray) vw) ?_
  refine GL_v rfl (rv_ext vw rfl) ?_
  refine GL_v rfl (rv_ext vw rfl) ?_
  refine GL_alloc rfl z30 (fun b3 => ?_)
  refine GL_stA (l' := y.cells) rfl rfl c30 (MsgX.cells_one _) (by rfl) ?_
  refine GL_v rfl (rv_as (v := .int .i64 _) vw) ?_
  refine GL_nil ?_
  refine GC_seq ?_
  refine GC_region ?_
  refine GL_v rfl (rv_ldA (l := x.cells) a30 vw rfl) ?_
  refine GL_call rfl cb19 (W14_ct 0 x (by rw [hx]; decide)) rfl .nil sb ?_
  rintro _ _ _ ⟨A5, n5, k5, rfl, rfl, rfl⟩
  simp only [List.cons_append, List.nil_append]
  have hW : W14 0 x.m = ([3, 0, 107, 0, 3], 0) := by rw [hx]; decide +kernel
  rw [hW]
  refine GL_v rfl (rv_mv (v := .tuple [.slice A5 n5 k5, .int .i64 0].toArray) vw) ?_
  refine GL_v rfl (rv_ext vw rfl) ?_
  refine GL_v rfl (rv_ext vw rfl) ?_
  refine GL_v rfl (rv_as (v := .slice _ _ _) vw) ?_
  refine GL_v rfl (rv_as (v := .int .i64 _) vw) ?_
  refine GL_nil ?_
  rw [x.cells_eq, y.cells_eq]
  refine GC_seq ?_
  refine GC_region ?_
  refine GL_v rfl (rv_mv (v := .int .i64 _) vw) ?_
  refine GL_v rfl (rv_eql vw vw) ?_
  refine GL_v rfl (rv_mv (v := .bool _) vw) ?_
  refine GL_g rfl rfl gvt (rv_fa fa30_0 vw) ?_
  refine GL_g rfl rfl gvt (rv_ld Tryz.underlying5 rfl vwg) ?_
  refine GL_g rfl rfl gvt (rv_eql vwg vw) ?_
  refine GL_v rfl (rv_and vw vwg) ?_
  refine GL_v rfl (rv_mv (v := .bool _) vw) ?_
  refine GL_g rfl rfl gvt (rv_fa fa30_2 vw) ?_
  refine GL_g rfl rfl gvt (rv_ld Tryz.underlying24 rfl vwg) ?_
  refine GL_g rfl rfl gvt (rv_eql vwg vw) ?_
  refine GL_v rfl (rv_and vw vwg) ?_
  refine GL_v rfl (rv_mv (v := .bool _) vw) ?_
  refine GL_g rfl rfl gvt (rv_fa fa30_3 vw) ?_
  refine GL_g rfl rfl gvt (rv_ld Tryz.underlying24 rfl vwg) ?_
  refine GL_g rfl rfl gvt (rv_eql vwg vw) ?_
  refine GL_v rfl (rv_and vw vwg) ?_
  refine GL_v rfl (rv_mv (v := .bool _) vw) ?_
  refine GL_g rfl rfl gvt (rv_mv (v := .int .i64 _) vw) ?_
  refine GL_g rfl rfl gvt (rv_eql vwg vw) ?_
  refine GL_v rfl (rv_and vw vwg) ?_
  refine GL_v rfl (rv_mv (v := .bool _) vw) ?_
  refine GL_g rfl rfl gvt (rv_fa fa30_0 vw) ?_
  refine GL_g rfl rfl gvt (rv_ld Tryz.underlying5 rfl vwg) ?_
  refine GL_g rfl rfl gvt (rv_eql vwg vw) ?_
  refine GL_v rfl (rv_and vw vwg) ?_
  refine GL_v rfl (rv_mv (v := .bool _) vw) ?_
  refine GL_g rfl rfl gvt (rv_fa fa30_1 vw) ?_
  refine GL_g rfl rfl gvt (rv_ld Tryz.underlying5 rfl vwg) ?_
  refine GL_g rfl rfl gvt (rv_eql vwg vw) ?_
  refine GL_v rfl (rv_and vw vwg) ?_
  refine GL_v rfl (rv_mv (v := .bool _) vw) ?_
  refine GL_g rfl rfl gvt (rv_mv (v := .int .i64 _) vw) ?_
  refine GL_g rfl rfl gvt (rv_eql vwg vw) ?_
  refine GL_v rfl (rv_and vw vwg) ?_
  refine GL_v rfl (rv_mv (v := .bool _) vw) ?_
  refine GL_g rfl rfl gvt (rv_mv (v := .slice _ _ _) vw) ?_
  refine GL_g rfl rfl gvt (rv_b2s (l := [3, 0, 107, 0, 3]) el22 Tryz.underlying5 Tryz.underlying9 vwg) ?_
  refine GL_g rfl rfl gvt (rv_eqB (l' := [3, 0, 107, 0, 3]) vwg vw) ?_
  refine GL_v rfl (rv_and vw vwg) ?_
  refine GL_v rfl (rv_as (v := .bool _) vw) ?_
  refine GL_nil ?_
  refine GC_ret ?_
  exact fin1 (.inr rfl) rfl rfl .nil .nil ⟨by rw [hx, hy]; rfl, rfl, rfl⟩

theorem PduParses_ct (dir : Int) (A : Option Addr) (n k : Nat) (b : List UInt8) : Ct PG 3 [.int .i64 dir, .slice A n k] [] [row 1 A n k (bytesV b)] (fun v _ _ => v = .bool true) := by
  refine Ct_of Tryz.func3 rfl 38 rfl (Nat.le_of_ble_eq_true rfl) fun w0 M N => ?_
  refine GC_row A fun hrow => ?_
  have hl : b.length = n := by have := hrow.1; simpa [bytesV] using this
  refine GC_seq ?_
  refine GC_region ?_
  refine GL_v rfl (rv_as (v := .bool _) vw) ?_
  refine GL_nil ?_
  refine GC_seq ?_
  refine GC_region ?_
  refine GL_callD rfl cb14 awake14_ct rfl .nil .nil ?_
  refine GL_v rfl (rv_as (v := .bool _) vw) ?_
  refine GL_nil ?_
  refine GC_seq ?_
  refine GC_seq ?_
  refine GC_region ?_
  refine GL_v rfl (rv_mv (v := .slice _ _ _) vw) ?_
  refine GL_v rfl (rv_len el22 vw) ?_
  refine GL_v rfl (rv_gtr vw vw) ?_
  refine GL_nil ?_
  refine GC_cond rfl (fun h0 => ?_) (fun h0 => ?_)
  ·
    refine GC_seq ?_
    refine GC_region ?_
    refine GL_v rfl (rv_mv (v := .bool _) vw) ?_
    refine GL_v rfl (rv_as (v := .bool _) vw) ?_
    refine GL_nil ?_
    refine GC_ret ?_
    exact fin1 (.inr rfl) rfl rfl .nil (T' := []) .nil rfl
  ·
    have hn : n ≤ 400 := by have := h0; simp at this; omega
    refine GC_skip ?_
    refine GC_seq ?_
    refine GC_region ?_
    refine GL_v rfl (rv_mv (v := .int .i64 _) vw) ?_
    refine GL_v rfl (rv_mv (v := .slice _ _ _) vw) ?_
    refine GL_call rfl cb15 (P14_ct dir A n k b (by omega)) rfl .nil sR ?_
    rintro _ _ _ ⟨x, rfl, hx, rfl, rfl⟩
    simp only [List.cons_append, List.nil_append]
    obtain ⟨m, e, hP⟩ : ∃ m e, P14 dir b = (m, e) := ⟨_, _, rfl⟩
    rw [hP] at hx ⊢
    simp only at hx ⊢
    refine GL_v rfl (rv_mv (v := .tuple [.agg x.cells.toArray, .int .i64 e].toArray) vw) ?_
    refine GL_v rfl (rv_ext vw rfl) ?_
    refine GL_v rfl (rv_ext vw rfl) ?_
    refine GL_alloc rfl z30 (fun b6 => ?_)
    refine GL_stA (l' := x.cells) rfl rfl c30 (MsgX.cells_one _) (by rfl) ?_
    refine GL_v rfl (rv_as (v := .int .i64 _) vw) ?_
    refine GL_nil ?_
    refine GC_seq ?_
    refine GC_region ?_
    refine GL_v rfl (rv_mv (v := .int .i64 _) vw) ?_
    refine GL_v rfl (rv_mv (v := .slice _ _ _) vw) ?_
    refine GL_call rfl cb16 (rP14_ct dir A n k b (by omega)) rfl .nil sR ?_
    rintro _ _ _ ⟨y, rfl, hy, rfl, rfl⟩
    simp only [List.cons_append, List.nil_append]
    rw [hP] at hy ⊢
    simp only at hy ⊢
    refine GL_v rfl (rv_mv (v := .tuple [.agg y.cells.toArray, .int .i64 e].toArray) vw) ?_
    refine GL_v rfl (rv_ext vw rfl) ?_
    refine GL_v rfl (rv_ext vw rfl) ?_
    refine GL_alloc rfl z30 (fun bb8 => ?_)
    refine GL_stA (l' := y.cells) rfl rfl c30 (MsgX.cells_one _) (by rfl) ?_
    refine GL_v rfl (rv_as (v := .int .i64 _) vw) ?_
    refine GL_nil ?_
    refine GC_seq ?_
    refine GC_region ?_
    refine GL_v rfl (rv_mv (v := .bool _) vw) ?_
    refine GL_v rfl (rv_mv (v := .bool _) vw) ?_
    refine GL_g rfl rfl gvt (rv_mv (v := .int .i64 _) vw) ?_
    refine GL_g rfl rfl gvt (rv_mv (v := .int .i64 _) vw) ?_
    refine GL_g rfl rfl gvt (rv_eql vwg vwg) ?_
    refine GL_v rfl (rv_and vw vwg) ?_
    refine GL_v rfl (rv_mv (v := .bool _) vw) ?_
    refine GL_g rfl rfl gvt (rv_ldA (l := x.cells) a30 vw rfl) ?_
    refine GL_g rfl rfl gvt (rv_ldA (l := y.cells) a30 vw rfl) ?_
    refine GL_callG rfl rfl gvt cb17 (fun _ => rSame_ct x y) (fun q => by show [gd _ _, gd _ _] = _; rw [vwg q, vwg q]) (fun _ => sb) ?_
    refine GL_v rfl (rv_and vw vwg) ?_
    refine GL_v rfl (rv_as (v := .bool _) vw) ?_
    refine GL_nil ?_
    refine GC_ret ?_
    exact fin1 (v := .bool (true && decide (e = e) && decide (x.m = y.m))) (.inr rfl) rfl rfl .nil (T' := []) .nil (by rw [hx, hy]; simp)

theorem PduWrites_ct (dir : Int) (x : MsgX) : Ct PG 4 [.int .i64 dir, .agg x.cells.toArray] [] [msgR x] (fun v _ _ => v = .bool true) := by
  refine Ct_of Tryz.func4 rfl 40 rfl (Nat.le_of_ble_eq_true rfl) fun w0 M N => ?_
  refine GC_seq ?_
  refine GC_region ?_
  refine GL_boxA (l := x.cells) rfl rfl (fun b3 => ?_)
  refine GL_v rfl (rv_as (v := .bool _) vw) ?_
  refine GL_nil ?_
  refine GC_seq ?_
  refine GC_region ?_
  refine GL_callD rfl cb14 awake14_ct rfl .nil .nil ?_
  refine GL_v rfl (rv_as (v := .bool _) vw) ?_
  refine GL_nil ?_
  refine GC_seq ?_
  refine GC_region ?_
  refine GL_v rfl (rv_ldA (l := x.cells) a30 vw rfl) ?_
  refine GL_callD rfl cb18 (Few_ct x) rfl .nil sb ?_
  refine GL_v rfl (rv_as (v := .bool _) vw) ?_
  refine GL_nil ?_
  refine GC_seq ?_
  refine GC_seq ?_
  refine GC_region ?_
  refine GL_v rfl (rv_mv (v := .bool _) vw) ?_
  refine GL_v rfl (rv_not vw) ?_
  refine GL_nil ?_
  refine GC_cond rfl (fun h0 => ?_) (fun h0 => ?_)
  ·
    refine GC_seq ?_
    refine GC_region ?_
    refine GL_v rfl (rv_mv (v := .bool _) vw) ?_
    refine GL_v rfl (rv_as (v := .bool _) vw) ?_
    refine GL_nil ?_
    refine GC_ret ?_
    exact fin1 (.inr rfl) rfl rfl .nil (T' := []) .nil rfl
  ·
    have hf : x.m.few := by have q := h0; simpa using q
    refine GC_skip ?_
    refine GC_seq ?_
    refine GC_region ?_
    refine GL_v rfl (rv_mv (v := .int .i64 _) vw) ?_
    refine GL_v rfl (rv_ldA (l := x.cells) a30 vw rfl) ?_
    refine GL_call rfl cb19 (W14_ct dir x hf) rfl .nil sb ?_
    rintro _ _ _ ⟨A1, n1, k1, rfl, rfl, rfl⟩
    simp only [List.cons_append, List.nil_append]
    obtain ⟨bs, e, hW⟩ : ∃ bs e, W14 dir x.m = (bs, e) := ⟨_, _, rfl⟩
    rw [hW]
    simp only
    refine GL_v rfl (rv_mv (v := .tuple [.slice A1 n1 k1, .int .i64 e].toArray) vw) ?_
    refine GL_v rfl (rv_ext vw rfl) ?_
    refine GL_v rfl (rv_ext vw rfl) ?_
    refine GL_v rfl (rv_as (v := .slice _ _ _) vw) ?_
    refine GL_v rfl (rv_as (v := .int .i64 _) vw) ?_
    refine GL_nil ?_
    refine GC_seq ?_
    refine GC_region ?_
    refine GL_v rfl (rv_mv (v := .int .i64 _) vw) ?_
    refine GL_v rfl (rv_ldA (l := x.cells) a30 vw rfl) ?_
    refine GL_call rfl cb20 (rW14_ct dir x hf) rfl .nil sb ?_
    rintro _ _ _ ⟨A2, n2, k2, rfl, rfl, rfl⟩
    simp only [List.cons_append, List.nil_append]
    rw [hW]
    simp only
    refine GL_v rfl (rv_mv (v := .tuple [.slice A2 n2 k2, .int .i64 e].toArray) vw) ?_
    refine GL_v rfl (rv_ext vw rfl) ?_
    refine GL_v rfl (rv_ext vw rfl) ?_
    refine GL_v rfl (rv_as (v := .slice _ _ _) vw) ?_
    refine GL_v rfl (rv_as (v := .int .i64 _) vw) ?_
    refine GL_nil ?_
    refine GC_seq ?_
    refine GC_region ?_
    refine GL_v rfl (rv_mv (v := .bool _) vw) ?_
    refine GL_v rfl (rv_mv (v := .bool _) vw) ?_
    refine GL_g rfl rfl gvt (rv_mv (v := .int .i64 _) vw) ?_
    refine GL_g rfl rfl gvt (rv_mv (v := .int .i64 _) vw) ?_
    refine GL_g rfl rfl gvt (rv_eql vwg vwg) ?_
    refine GL_v rfl (rv_and vw vwg) ?_
    refine GL_v rfl (rv_mv (v := .bool _) vw) ?_
    refine GL_g rfl rfl gvt (rv_mv (v := .slice _ _ _) vw) ?_
    refine GL_g rfl rfl gvt (rv_mv (v := .slice _ _ _) vw) ?_
    refine GL_callG rfl rfl gvt cb21 (fun _ => rSameB_ct A1 A2 n1 n2 k1 k2 bs bs) (fun q => by show [gd _ _, gd _ _] = _; rw [vwg q, vwg q]) (fun _ => sb) ?_
    refine GL_v rfl (rv_and vw vwg) ?_
    refine GL_v rfl (rv_as (v := .bool _) vw) ?_
    refine GL_nil ?_
    refine GC_ret ?_
    exact fin1 (v := .bool (true && decide (e = e) && decide (bs = bs))) (.inr rfl) rfl rfl .nil (T' := []) .nil (by simp)
end Go.Bus
