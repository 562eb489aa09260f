/- Walks: the reference of mbap's Write, and the laws of mbap. No condition. -/
import Derived.Test.YtlfjioigkojjdaaGreatMbap
set_option linter.unusedVariables false
set_option linter.unusedSimpArgs false
set_option maxRecDepth 100000
set_option maxHeartbeats 8000000
namespace Go.Bus
open Go Go.Proofs
theorem rfr17_ct (u : UInt8) (t : UInt16) (A : Option Addr) (n k : Nat) (p : List UInt8) (hn : n ≤ 253) (m : MsgD) : Ct PG 78 [.agg #[b8 u, w16 t], .slice A n k] [] [row 1 A n k (bytesV p)] (Slc (fr17 ⟨u, t, m⟩ p)) := by
  refine Ct_of Tryz.func78 rfl 21 rfl (Nat.le_of_ble_eq_true rfl) fun w0 M N => ?_
  refine GC_row A fun hrow => ?_
  have hl : p.length = n := by have := hrow.1; simpa [bytesV] using this
  refine GC_seq ?_
  refine GC_region ?_
  refine GL_boxA (l := [b8 u, w16 t]) rfl rfl (fun b3 => ?_)
  refine GL_v rfl (rv_as (v := .slice _ _ _) vw) ?_
  refine GL_nil ?_
  refine GC_seq ?_
  refine GC_region ?_
  refine GL_v rfl (rv_fa fa42_1 vw) ?_
  refine GL_v rfl (rv_ld (v := w16 t) Tryz.underlying24 rfl vw) ?_
  refine GL_v rfl (rv_mv (v := .slice _ _ _) vw) ?_
  refine GL_v rfl (rv_len el22 vw) ?_
  refine GL_v rfl (rv_add (r := ((n + 1 : Nat) : Int)) vw vw (fun _ => by rw [IntWalk.i64_in _ (by omega)]; omega)) ?_
  refine GL_v rfl (rv_cnv (r := ((UInt16.ofNat (n + 1)).toNat : Int)) Tryz.underlying3 Tryz.underlying24 vw (fun _ => wrap16 _)) ?_
  refine GL_bs (l := wordsV [t, 0, UInt16.ofNat (n + 1)]) rfl el25 z24 rfl rfl rfl (fun b12 => ?_)
  refine GL_shift (.cons .here .nil) (blk_own (n := 3) (sz := 1) rfl (by decide)) ?_
  refine GL_shift (.cons .here .nil) own_toRow ?_
  refine GL_call rfl cb134 (rPut_ct _ 3 3 [t, 0, UInt16.ofNat (n + 1)] (by decide)) rfl .nil sb ?_
  rintro _ _ _ ⟨A2, k2, rfl, rfl, rfl⟩
  simp only [List.cons_append, List.nil_append]
  refine GL_v rfl (rv_as (v := .slice _ _ _) vw) ?_
  refine GL_nil ?_
  refine GC_seq ?_
  refine GC_region ?_
  refine GL_v rfl (rv_mv (v := .slice _ _ _) vw) ?_
  refine GL_v rfl (rv_fa fa42_0 vw) ?_
  refine GL_v rfl (rv_ld (v := b8 u) Tryz.underlying5 rfl vw) ?_
  refine GL_bs (l := bytesV [u]) rfl el22 z5 rfl rfl rfl (fun b17 => ?_)
  refine GL_shift (.cons .here .nil) (blk_own (n := 1) (sz := 1) rfl (by decide)) ?_
  refine GL_shift (.cons .here .nil) own_toRow ?_
  refine GL_app (m := 1) rfl el22 rfl rfl pW rfl (bytesV_one _) (by omega) (by simp [maxLen]) (fun A3 k3 => ?_)
  refine GL_v rfl (rv_mv (v := .slice _ _ _) vw) ?_
  refine GL_app (m := n) rfl el22 rfl rfl pW (by rw [bytesV_length, hl, Nat.mul_one]) (bytesV_one _) (by omega) (by simp [maxLen]; omega) (fun A4 k4 => ?_)
  rw [← bytesV_append, ← bytesV_append, List.append_assoc]
  refine GL_shift (.cons .here .nil) own_toRow ?_
  refine GL_v rfl (rv_as (v := .slice _ _ _) vw) ?_
  refine GL_nil ?_
  refine GC_ret ?_
  exact fin1 (.inr rfl) rfl rfl (T' := [row 1 A4 (2 * 3 + 1 + n) k4 (bytesV (putW [t, 0, UInt16.ofNat (n + 1)] ++ ([u] ++ p)))]) .nil sb ⟨A4, _, k4, rfl, rfl, by rw [fr17, hl]; rfl⟩

theorem rW17_ct (dir : Int) (u : UInt8) (t : UInt16) (x : MsgX) (hf : x.m.few) : Ct PG 26 [.int .i64 dir, .agg (frCells u t x).toArray] [] [msgR x] (BytesOut (W17 dir ⟨u, t, x.m⟩)) := by
  refine Ct_of Tryz.func26 rfl 50 rfl (Nat.le_of_ble_eq_true rfl) fun w0 M N => ?_
  obtain ⟨pp, hpp⟩ : ∃ pp, W17 dir ⟨u, t, x.m⟩ = pp := ⟨_, rfl⟩
  rw [hpp]
  rw [← rW_17, rW] at hpp
  simp only at hpp
  have hWl := W14_len dir x.m
  refine GC_seq ?_
  refine GC_region ?_
  refine GL_boxA (l := frCells u t x) rfl rfl (fun b3 => ?_)
  refine GL_v rfl (rv_as (v := .slice _ _ _) vw) ?_
  refine GL_v rfl (rv_as (v := .int .i64 _) vw) ?_
  refine GL_nil ?_
  refine GC_seq ?_
  refine GC_region ?_
  refine GL_v rfl (rv_mv (v := .int .i64 _) vw) ?_
  refine GL_v rfl (rv_fa fa44_1 vw) ?_
  refine GL_v rfl (rv_ldP (cs := x.cells) a30 vw rfl rfl) ?_
  refine GL_call rfl cb20 (rW14_ct dir x hf) rfl .nil sb ?_
  rintro _ _ _ ⟨A1, n1, k1, rfl, rfl, rfl⟩
  simp only [List.cons_append, List.nil_append]
  obtain ⟨bs, e, hW⟩ : ∃ bs e, W14 dir x.m = (bs, e) := ⟨_, _, rfl⟩
  rw [hW] at hpp hWl ⊢
  simp only at hpp hWl ⊢
  refine GL_row A1 fun hr => ?_
  have hnl : bs.length = n1 := by have := hr.1; simpa [bytesV] using this
  refine GL_v rfl (rv_mv (v := .tuple [.slice A1 n1 k1, .int .i64 e].toArray) vw) ?_
  refine GL_v rfl (rv_ext vw rfl) ?_
  refine GL_v rfl (rv_ext vw rfl) ?_
  refine GL_v rfl (rv_as (v := .slice _ _ _) vw) ?_
  refine GL_v rfl (rv_as (v := .int .i64 _) vw) ?_
  refine GL_nil ?_
  refine GC_seq ?_
  refine GC_seq ?_
  refine GC_region ?_
  refine GL_v rfl (rv_mv (v := .int .i64 _) vw) ?_
  refine GL_v rfl (rv_neq vw vw) ?_
  refine GL_nil ?_
  refine GC_cond rfl (fun h0 => ?_) (fun h0 => ?_)
  ·
    have he : e ≠ 0 := by have := h0; simpa using this
    rw [if_pos he] at hpp
    obtain rfl := hpp
    refine GC_seq ?_
    refine GC_region ?_
    refine GL_v rfl (rv_as (v := .slice _ _ _) vw) ?_
    refine GL_v rfl (rv_as (v := .int .i64 _) vw) ?_
    refine GL_nil ?_
    refine GC_shift .nil (nil_row (sz := 1)) ?_
    refine GC_ret ?_
    exact fin2 (T' := [row 1 none 0 0 []]) (.inr rfl) rfl rfl rfl .nil sb ⟨none, 0, 0, rfl, rfl, rfl⟩
  ·
    have he : ¬ e ≠ 0 := by have := h0; simpa using this
    rw [if_neg he] at hpp
    refine GC_skip ?_
    refine GC_seq ?_
    refine GC_region ?_
    refine GL_v rfl (rv_fa fa44_0 vw) ?_
    refine GL_v rfl (rv_ldP (cs := [b8 u, w16 t]) a42 vw rfl rfl) ?_
    refine GL_v rfl (rv_mv (v := .slice _ _ _) vw) ?_
    refine GL_call rfl cb78 (rfr17_ct u t A1 n1 k1 bs (by omega) x.m) rfl .nil sb ?_
    rintro _ _ _ ⟨A2, n2, k2, rfl, rfl, rfl⟩
    simp only [List.cons_append, List.nil_append]
    obtain ⟨fb, hfb⟩ : ∃ fb, fr17 ⟨u, t, x.m⟩ bs = fb := ⟨_, rfl⟩
    have hfl : fb.length ≤ 260 := by rw [← hfb]; simp [fr17, putW]; omega
    rw [hfb] at hpp ⊢
    refine GL_row A2 fun hr2 => ?_
    have hnl2 : fb.length = n2 := by have := hr2.1; simpa [bytesV] using this
    refine GL_v rfl (rv_as (v := .slice _ _ _) vw) ?_
    refine GL_nil ?_
    refine GC_seq ?_
    refine GC_region ?_
    refine GL_v rfl (rv_mv (v := .int .i64 _) vw) ?_
    refine GL_v rfl (rv_mv (v := .slice _ _ _) vw) ?_
    refine GL_call rfl cb24 (rP17_ct dir A2 n2 k2 fb (by omega)) rfl .nil sb ?_
    rintro _ _ _ ⟨u2, t2, y, rfl, hy, rfl, rfl⟩
    simp only [List.cons_append, List.nil_append]
    obtain ⟨f2, e2, hP⟩ : ∃ f e, P17 dir fb = (f, e) := ⟨_, _, rfl⟩
    rw [hP] at hpp hy ⊢
    simp only at hpp hy ⊢
    rw [← hy] at hpp
    refine GL_v rfl (rv_mv (v := .tuple [.agg (frCells u2 t2 y).toArray, .int .i64 e2].toArray) vw) ?_
    refine GL_v rfl (rv_ext vw rfl) ?_
    refine GL_v rfl (rv_ext vw rfl) ?_
    refine GL_alloc rfl z44 (fun b9 => ?_)
    refine GL_stA (l' := frCells u2 t2 y) rfl rfl c44 (frCells_one _ _ _) (by rfl) ?_
    refine GL_v rfl (rv_as (v := .int .i64 _) vw) ?_
    refine GL_nil ?_
    refine GC_seq ?_
    refine GC_region ?_
    refine GL_v rfl (rv_fa fa44_1 vw) ?_
    refine GL_v rfl (rv_ldP (cs := y.cells) a30 vw rfl rfl) ?_
    refine GL_v rfl (rv_fa fa44_1 vw) ?_
    refine GL_v rfl (rv_ldP (cs := x.cells) a30 vw rfl rfl) ?_
    refine GL_callD rfl cb17 (rSame_ct y x) rfl .nil sb ?_
    refine GL_v rfl (rv_as (v := .bool _) vw) ?_
    refine GL_nil ?_
    refine GC_seq ?_
    refine GC_seq ?_
    refine GC_region ?_
    refine GL_v rfl (rv_mv (v := .int .i64 _) vw) ?_
    refine GL_v rfl (rv_neq vw vw) ?_
    refine GL_v rfl (rv_mv (v := .bool _) vw) ?_
    refine GL_g rfl rfl gvf (rv_mv (v := .bool _) vw) ?_
    refine GL_g rfl rfl gvf (rv_not vwg) ?_
    refine GL_v rfl (rv_or vw vwg) ?_
    refine GL_v rfl (rv_mv (v := .bool _) vw) ?_
    refine GL_g rfl rfl gvf (rv_fa fa44_0 vw) ?_
    refine GL_g rfl rfl gvf (rv_ldP (cs := [b8 u2, w16 t2]) a42 vwg rfl rfl) ?_
    refine GL_g rfl rfl gvf (rv_fa fa44_0 vw) ?_
    refine GL_g rfl rfl gvf (rv_ldP (cs := [b8 u, w16 t]) a42 vwg rfl rfl) ?_
    refine GL_g rfl rfl gvf (rv_neSt2 Tryz.underlying42 (by decide) (by decide) Tryz.underlying5 Tryz.underlying24 rfl rfl (by kernel_rfl) (by kernel_rfl) vwg vwg rfl rfl) ?_
    refine GL_v rfl (rv_or vw vwg) ?_
    refine GL_nil ?_
    refine GC_cond rfl (fun h1 => ?_) (fun h1 => ?_)
    ·
      have hh : e2 ≠ 0 ∨ (⟨u2, t2, y.m⟩ : FrameD) ≠ ⟨u, t, x.m⟩ := by
        have q := h1
        exact frame_chk.1 q
      rw [if_pos hh] at hpp
      obtain rfl := hpp
      refine GC_seq ?_
      refine GC_region ?_
      refine GL_v rfl (rv_as (v := .slice _ _ _) vw) ?_
      refine GL_v rfl (rv_as (v := .int .i64 _) vw) ?_
      refine GL_nil ?_
      refine GC_shift .nil (nil_row (sz := 1)) ?_
      refine GC_ret ?_
      exact fin2 (T' := [row 1 none 0 0 []]) (.inr rfl) rfl rfl rfl .nil sb ⟨none, 0, 0, rfl, rfl, rfl⟩
    ·
      have hh : ¬ (e2 ≠ 0 ∨ (⟨u2, t2, y.m⟩ : FrameD) ≠ ⟨u, t, x.m⟩) := by
        have q := h1
        exact fun z => by rw [frame_chk.2 z] at q; cases q
      rw [if_neg hh] at hpp
      obtain rfl := hpp
      refine GC_skip ?_
      refine GC_seq ?_
      refine GC_region ?_
      refine GL_v rfl (rv_mv (v := .slice _ _ _) vw) ?_
      refine GL_v rfl (rv_as (v := .slice _ _ _) vw) ?_
      refine GL_v rfl (rv_as (v := .int .i64 _) vw) ?_
      refine GL_nil ?_
      refine GC_ret ?_
      exact fin2 (T' := [row 1 A2 n2 k2 (bytesV fb)]) (.inr rfl) rfl rfl rfl .nil sb ⟨A2, n2, k2, rfl, rfl, rfl⟩

theorem awake17_ct : CtD PG 22 [] [] [] (.bool true) [] [] := by
  refine Ct_of Tryz.func22 rfl 40 rfl (Nat.le_of_ble_eq_true rfl) fun w0 M N => ?_
  refine GC_seq ?_
  refine GC_region ?_
  refine GL_v rfl (rv_as (v := .bool _) vw) ?_
  refine GL_nil ?_
  refine GC_seq ?_
  refine GC_region ?_
  refine GL_v rfl (rv_bld (z' := [.int .u8 _, .int .u16 _]) z42 l42 (fun _ => rfl)) ?_
  refine GL_v rfl (rv_bld (z' := ({ m := { code := 7 } } : MsgX).cells) z30 l30 (fun _ => rfl)) ?_
  refine GL_v rfl (rv_bld (z' := frCells 1 9 { m := { code := 7 } }) z44 l44 (fun _ => frame_fill rfl rfl rfl)) ?_
  refine GL_shift .nil (msg0 { code := 7 }) ?_
  refine GL_call rfl cb25 (W17_ct 0 1 9 { m := { code := 7 } } (by decide)) rfl .nil sb ?_
  rintro _ _ _ ⟨A1, n1, k1, rfl, rfl, rfl⟩
  simp only [List.cons_append, List.nil_append]
  have hW : W17 0 ⟨1, 9, { code := 7 }⟩ = ([0, 9, 0, 0, 0, 2, 1, 7], 0) := by decide +kernel
  rw [hW]
  refine GL_row A1 fun hr => ?_
  have hn1 : n1 = 8 := by have := hr.1; simp [bytesV] at this; omega
  refine GL_v rfl (rv_mv (v := .tuple [.slice A1 n1 k1, .int .i64 0].toArray) vw) ?_
  refine GL_v rfl (rv_ext vw rfl) ?_
  refine GL_v rfl (rv_ext vw rfl) ?_
  refine GL_v rfl (rv_as (v := .slice _ _ _) vw) ?_
  refine GL_v rfl (rv_as (v := .int .i64 _) vw) ?_
  refine GL_nil ?_
  refine GC_seq ?_
  refine GC_region ?_
  refine GL_v rfl (rv_mv (v := .slice _ _ _) vw) ?_
  refine GL_call rfl cb23 (P17_ct 0 A1 n1 k1 [0, 9, 0, 0, 0, 2, 1, 7] (by omega)) rfl .nil sb ?_
  rintro _ _ _ ⟨u, t, x, rfl, hx, rfl, rfl⟩
  simp only [List.cons_append, List.nil_append]
  have hP : P17 0 [0, 9, 0, 0, 0, 2, 1, 7] = (⟨1, 9, { code := 7 }⟩, 0) := by decide +kernel
  rw [hP] at hx ⊢
  simp only [FrameD.mk.injEq] at hx ⊢
  obtain ⟨rfl, rfl, hx⟩ := hx
  refine GL_v rfl (rv_mv (v := .tuple [.agg (frCells 1 9 x).toArray, .int .i64 0].toArray) vw) ?_
  refine GL_v rfl (rv_ext vw rfl) ?_
  refine GL_v rfl (rv_ext vw rfl) ?_
  refine GL_alloc rfl z44 (fun b3 => ?_)
  refine GL_stA (l' := frCells 1 9 x) rfl rfl c44 (frCells_one _ _ _) (by rfl) ?_
  refine GL_v rfl (rv_as (v := .int .i64 _) vw) ?_
  refine GL_nil ?_
  refine GC_seq ?_
  refine GC_region ?_
  simp only [frCells, MsgX.cells]
  refine GL_v rfl (rv_mv (v := .int .i64 _) vw) ?_
  refine GL_v rfl (rv_eql vw vw) ?_
  refine GL_v rfl (rv_mv (v := .bool _) vw) ?_
  refine GL_g rfl rfl gvt (rv_mv (v := .int .i64 _) vw) ?_
  refine GL_g rfl rfl gvt (rv_eql vwg vw) ?_
  refine GL_v rfl (rv_and vw vwg) ?_
  refine GL_v rfl (rv_mv (v := .bool _) vw) ?_
  refine GL_g rfl rfl gvt (rv_mv (v := .slice _ _ _) vw) ?_
  refine GL_g rfl rfl gvt (rv_b2s (l := [0, 9, 0, 0, 0, 2, 1, 7]) el22 Tryz.underlying5 Tryz.underlying9 vwg) ?_
  refine GL_g rfl rfl gvt (rv_eqB (l' := [0, 9, 0, 0, 0, 2, 1, 7]) vwg vw) ?_
  refine GL_v rfl (rv_and vw vwg) ?_
  refine GL_v rfl (rv_mv (v := .bool _) vw) ?_
  refine GL_g rfl rfl gvt (rv_fa fa44_0 vw) ?_
  refine GL_g rfl rfl gvt (rv_ldP (cs := [b8 1, w16 9]) a42 vwg rfl rfl) ?_
  refine GL_g rfl rfl gvt (rv_bld (z' := [.int .u8 _, .int .u16 _]) z42 l42 (fun _ => rfl)) ?_
  refine GL_g rfl rfl gvt (rv_eqSt2 Tryz.underlying42 (by decide) (by decide) Tryz.underlying5 Tryz.underlying24 rfl rfl (by kernel_rfl) (by kernel_rfl) vwg vwg rfl rfl) ?_
  refine GL_v rfl (rv_and vw vwg) ?_
  refine GL_v rfl (rv_mv (v := .bool _) vw) ?_
  refine GL_g rfl rfl gvt (rv_fa fa44_1 vw) ?_
  refine GL_g rfl rfl gvt (rv_faN (off' := 2) fa30_0 vwg rfl) ?_
  refine GL_g rfl rfl gvt (rv_ld (v := b8 x.m.code) Tryz.underlying5 rfl vwg) ?_
  refine GL_g rfl rfl gvt (rv_eql vwg vw) ?_
  refine GL_v rfl (rv_and vw vwg) ?_
  refine GL_v rfl (rv_as (v := .bool _) vw) ?_
  refine GL_nil ?_
  refine GC_ret ?_
  exact fin1 (.inr rfl) rfl rfl .nil .nil ⟨by rw [hx]; rfl, rfl, rfl⟩

theorem MbapParses_ct (dir : Int) (A : Option Addr) (n k : Nat) (b : List UInt8) : Ct PG 5 [.int .i64 dir, .slice A n k] [] [row 1 A n k (bytesV b)] (fun v _ _ => v = .bool true) := by
  refine Ct_of Tryz.func5 rfl 47 rfl (Nat.le_of_ble_eq_true rfl) fun w0 M N => ?_
  refine GC_row A fun hrow => ?_
  have hl : b.length = n := by have := hrow.1; simpa [bytesV] using this
  refine GC_seq ?_
  refine GC_region ?_
  refine GL_v rfl (rv_as (v := .bool _) vw) ?_
  refine GL_nil ?_
  refine GC_seq ?_
  refine GC_region ?_
  refine GL_callD rfl cb22 awake17_ct rfl .nil .nil ?_
  refine GL_v rfl (rv_as (v := .bool _) vw) ?_
  refine GL_nil ?_
  refine GC_seq ?_
  refine GC_seq ?_
  refine GC_region ?_
  refine GL_v rfl (rv_mv (v := .slice _ _ _) vw) ?_
  refine GL_v rfl (rv_len el22 vw) ?_
  refine GL_v rfl (rv_gtr vw vw) ?_
  refine GL_nil ?_
  refine GC_cond rfl (fun h0 => ?_) (fun h0 => ?_)
  ·
    refine GC_seq ?_
    refine GC_region ?_
    refine GL_v rfl (rv_mv (v := .bool _) vw) ?_
    refine GL_v rfl (rv_as (v := .bool _) vw) ?_
    refine GL_nil ?_
    refine GC_ret ?_
    exact fin1 (.inr rfl) rfl rfl .nil (T' := []) .nil rfl
  ·
    have hn : n ≤ 700 := by have := h0; simp at this; omega
    refine GC_skip ?_
    refine GC_seq ?_
    refine GC_region ?_
    refine GL_v rfl (rv_mv (v := .int .i64 _) vw) ?_
    refine GL_v rfl (rv_mv (v := .slice _ _ _) vw) ?_
    refine GL_call rfl cb23 (P17_ct dir A n k b (by omega)) rfl .nil sR ?_
    rintro _ _ _ ⟨u, t, x, rfl, hx, rfl, rfl⟩
    simp only [List.cons_append, List.nil_append]
    obtain ⟨m, e, hP⟩ : ∃ m e, P17 dir b = (m, e) := ⟨_, _, rfl⟩
    rw [hP] at hx ⊢
    simp only at hx ⊢
    refine GL_v rfl (rv_mv (v := .tuple [.agg (frCells u t x).toArray, .int .i64 e].toArray) vw) ?_
    refine GL_v rfl (rv_ext vw rfl) ?_
    refine GL_v rfl (rv_ext vw rfl) ?_
    refine GL_alloc rfl z44 (fun b6 => ?_)
    refine GL_stA (l' := frCells u t x) rfl rfl c44 (frCells_one _ _ _) (by rfl) ?_
    refine GL_v rfl (rv_as (v := .int .i64 _) vw) ?_
    refine GL_nil ?_
    refine GC_seq ?_
    refine GC_region ?_
    refine GL_v rfl (rv_mv (v := .int .i64 _) vw) ?_
    refine GL_v rfl (rv_mv (v := .slice _ _ _) vw) ?_
    refine GL_call rfl cb24 (rP17_ct dir A n k b (by omega)) rfl .nil sR ?_
    rintro _ _ _ ⟨u2, t2, y, rfl, hy, rfl, rfl⟩
    simp only [List.cons_append, List.nil_append]
    rw [hP] at hy ⊢
    simp only at hy ⊢
    rw [← hx] at hy
    simp only [FrameD.mk.injEq] at hy
    obtain ⟨rfl, rfl, hy⟩ := hy
    refine GL_v rfl (rv_mv (v := .tuple [.agg (frCells u2 t2 y).toArray, .int .i64 e].toArray) vw) ?_
    refine GL_v rfl (rv_ext vw rfl) ?_
    refine GL_v rfl (rv_ext vw rfl) ?_
    refine GL_alloc rfl z44 (fun bb8 => ?_)
    refine GL_stA (l' := frCells u2 t2 y) rfl rfl c44 (frCells_one _ _ _) (by rfl) ?_
    refine GL_v rfl (rv_as (v := .int .i64 _) vw) ?_
    refine GL_nil ?_
    refine GC_seq ?_
    refine GC_region ?_
    refine GL_v rfl (rv_mv (v := .bool _) vw) ?_
    refine GL_v rfl (rv_mv (v := .bool _) vw) ?_
    refine GL_g rfl rfl gvt (rv_mv (v := .int .i64 _) vw) ?_
    refine GL_g rfl rfl gvt (rv_mv (v := .int .i64 _) vw) ?_
    refine GL_g rfl rfl gvt (rv_eql vwg vwg) ?_
    refine GL_v rfl (rv_and vw vwg) ?_
    refine GL_v rfl (rv_mv (v := .bool _) vw) ?_
    refine GL_g rfl rfl gvt (rv_fa fa44_0 vw) ?_
    refine GL_g rfl rfl gvt (rv_ldP (cs := [b8 u2, w16 t2]) a42 vwg rfl rfl) ?_
    refine GL_g rfl rfl gvt (rv_fa fa44_0 vw) ?_
    refine GL_g rfl rfl gvt (rv_ldP (cs := [b8 u2, w16 t2]) a42 vwg rfl rfl) ?_
    refine GL_g rfl rfl gvt (rv_eqSt2 Tryz.underlying42 (by decide) (by decide) Tryz.underlying5 Tryz.underlying24 rfl rfl (by kernel_rfl) (by kernel_rfl) vwg vwg rfl rfl) ?_
    refine GL_v rfl (rv_and vw vwg) ?_
    refine GL_v rfl (rv_mv (v := .bool _) vw) ?_
    refine GL_g rfl rfl gvt (rv_fa fa44_1 vw) ?_
    refine GL_g rfl rfl gvt (rv_ldP (cs := x.cells) a30 vwg rfl rfl) ?_
    refine GL_g rfl rfl gvt (rv_fa fa44_1 vw) ?_
    refine GL_g rfl rfl gvt (rv_ldP (cs := y.cells) a30 vwg rfl rfl) ?_
    refine GL_callG rfl rfl gvt cb17 (fun _ => rSame_ct x y) (fun q => by show [gd _ _, gd _ _] = _; rw [vwg q, vwg q]) (fun _ => sb) ?_
    refine GL_v rfl (rv_and vw vwg) ?_
    refine GL_v rfl (rv_as (v := .bool _) vw) ?_
    refine GL_nil ?_
    refine GC_ret ?_
    exact fin1 (v := .bool (true && decide (e = e) && (decide ((u2.toNat : Int) = u2.toNat) && decide ((t2.toNat : Int) = t2.toNat)) && decide (x.m = y.m))) (.inr rfl) rfl rfl .nil (T' := []) .nil (by simp [hy])

theorem MbapWrites_ct (dir : Int) (u : UInt8) (t : UInt16) (x : MsgX) : Ct PG 6 [.int .i64 dir, .agg (frCells u t x).toArray] [] [msgR x] (fun v _ _ => v = .bool true) := by
  refine Ct_of Tryz.func6 rfl 41 rfl (Nat.le_of_ble_eq_true rfl) fun w0 M N => ?_
  refine GC_seq ?_
  refine GC_region ?_
  refine GL_boxA (l := frCells u t x) rfl rfl (fun b3 => ?_)
  refine GL_v rfl (rv_as (v := .bool _) vw) ?_
  refine GL_nil ?_
  refine GC_seq ?_
  refine GC_region ?_
  refine GL_callD rfl cb22 awake17_ct rfl .nil .nil ?_
  refine GL_v rfl (rv_as (v := .bool _) vw) ?_
  refine GL_nil ?_
  refine GC_seq ?_
  refine GC_region ?_
  refine GL_v rfl (rv_fa fa44_1 vw) ?_
  refine GL_v rfl (rv_ldP (cs := x.cells) a30 vw rfl rfl) ?_
  refine GL_callD rfl cb18 (Few_ct x) rfl .nil sb ?_
  refine GL_v rfl (rv_as (v := .bool _) vw) ?_
  refine GL_nil ?_
  refine GC_seq ?_
  refine GC_seq ?_
  refine GC_region ?_
  refine GL_v rfl (rv_mv (v := .bool _) vw) ?_
  refine GL_v rfl (rv_not vw) ?_
  refine GL_nil ?_
  refine GC_cond rfl (fun h0 => ?_) (fun h0 => ?_)
  ·
    refine GC_seq ?_
    refine GC_region ?_
    refine GL_v rfl (rv_mv (v := .bool _) vw) ?_
    refine GL_v rfl (rv_as (v := .bool _) vw) ?_
    refine GL_nil ?_
    refine GC_ret ?_
    exact fin1 (.inr rfl) rfl rfl .nil (T' := []) .nil rfl
  ·
    have hf : x.m.few := by have q := h0; simpa using q
    refine GC_skip ?_
    refine GC_seq ?_
    refine GC_region ?_
    refine GL_v rfl (rv_mv (v := .int .i64 _) vw) ?_
    refine GL_v rfl (rv_ldA (l := frCells u t x) a44 vw rfl) ?_
    refine GL_call rfl cb25 (W17_ct dir u t x hf) rfl .nil sb ?_
    rintro _ _ _ ⟨A1, n1, k1, rfl, rfl, rfl⟩
    simp only [List.cons_append, List.nil_append]
    obtain ⟨bs, e, hW⟩ : ∃ bs e, W17 dir ⟨u, t, x.m⟩ = (bs, e) := ⟨_, _, rfl⟩
    rw [hW]
    simp only
    refine GL_v rfl (rv_mv (v := .tuple [.slice A1 n1 k1, .int .i64 e].toArray) vw) ?_
    refine GL_v rfl (rv_ext vw rfl) ?_
    refine GL_v rfl (rv_ext vw rfl) ?_
    refine GL_v rfl (rv_as (v := .slice _ _ _) vw) ?_
    refine GL_v rfl (rv_as (v := .int .i64 _) vw) ?_
    refine GL_nil ?_
    refine GC_seq ?_
    refine GC_region ?_
    refine GL_v rfl (rv_mv (v := .int .i64 _) vw) ?_
    refine GL_v rfl (rv_ldA (l := frCells u t x) a44 vw rfl) ?_
    refine GL_call rfl cb26 (rW17_ct dir u t x hf) rfl .nil sb ?_
    rintro _ _ _ ⟨A2, n2, k2, rfl, rfl, rfl⟩
    simp only [List.cons_append, List.nil_append]
    rw [hW]
    simp only
    refine GL_v rfl (rv_mv (v := .tuple [.slice A2 n2 k2, .int .i64 e].toArray) vw) ?_
    refine GL_v rfl (rv_ext vw rfl) ?_
    refine GL_v rfl (rv_ext vw rfl) ?_
    refine GL_v rfl (rv_as (v := .slice _ _ _) vw) ?_
    refine GL_v rfl (rv_as (v := .int .i64 _) vw) ?_
    refine GL_nil ?_
    refine GC_seq ?_
    refine GC_region ?_
    refine GL_v rfl (rv_mv (v := .bool _) vw) ?_
    refine GL_v rfl (rv_mv (v := .bool _) vw) ?_
    refine GL_g rfl rfl gvt (rv_mv (v := .int .i64 _) vw) ?_
    refine GL_g rfl rfl gvt (rv_mv (v := .int .i64 _) vw) ?_
    refine GL_g rfl rfl gvt (rv_eql vwg vwg) ?_
    refine GL_v rfl (rv_and vw vwg) ?_
    refine GL_v rfl (rv_mv (v := .bool _) vw) ?_
    refine GL_g rfl rfl gvt (rv_mv (v := .slice _ _ _) vw) ?_
    refine GL_g rfl rfl gvt (rv_mv (v := .slice _ _ _) vw) ?_
    refine GL_callG rfl rfl gvt cb21 (fun _ => rSameB_ct A1 A2 n1 n2 k1 k2 bs bs) (fun q => by show [gd _ _, gd _ _] = _; rw [vwg q, vwg q]) (fun _ => sb) ?_
    refine GL_v rfl (rv_and vw vwg) ?_
    refine GL_v rfl (rv_as (v := .bool _) vw) ?_
    refine GL_nil ?_
    refine GC_ret ?_
    exact fin1 (v := .bool (true && decide (e = e) && decide (bs = bs))) (.inr rfl) rfl rfl .nil (T' := []) .nil (by simp)
end Go.Bus
