/- Part of the proof: Smbap. No condition. -/
import Derived.Test.YtlfjioigkojjdaaGreatUBEvtW
import Derived.Test.YtlfjioigkojjdaaGreatUBSmP
import Derived.Test.YtlfjioigkojjdaaGreatUBMbap
set_option linter.unusedVariables false
set_option linter.unusedSimpArgs false
set_option maxRecDepth 100000
set_option maxHeartbeats 8000000
namespace Go.Bus
open Go Go.Proofs
abbrev smB (B : Nat) (dir : Int) (A : Option Addr) (n k : Nat) (skip : Nat) : Res := blk B [.int .i64 dir, .slice A n k, .int .i64 skip] 94
abbrev smH (A : Option Addr) (n k : Nat) (h : List UInt8) : Res := own 5 1 A n k (bytesV h)
def SmOut (B : Nat) (dir : Int) (o : List EventD × Sm) (v : Value) (S' T' : List Res) : Prop := ∃ Av nv kv xs A n k, v = .slice Av nv kv ∧ xs.map EvX.d = o.1 ∧ S' = [smB B dir A n k o.2.skip, smH A n k o.2.held] ∧ T' = [row 25 Av nv kv (evsV xs), msgsR xs]
theorem smNew0_ct (dir : Int) (hd : dir ≠ 0 ∧ dir ≠ 1) : CtD PG 36 [.int .i64 dir] [] [] (.pointer none) [] [] := by
 refine Ct_of Tryz.func36 rfl 12 rfl (Nat.le_of_ble_eq_true rfl) fun w0 M N => ?_
 refine GC_seq ?_
 refine GC_region ?_
 refine GL_v rfl (rv_as (v := .pointer _) vw) ?_
 refine GL_nil ?_
 refine GC_seq ?_
 refine GC_seq ?_
 refine GC_region ?_
 refine GL_v rfl (rv_mv (v := .int .i64 _) vw) ?_
 refine GL_v rfl (rv_neq vw vw) ?_
 refine GL_v rfl (rv_mv (v := .bool _) vw) ?_
 refine GL_g rfl rfl gvt (rv_mv (v := .int .i64 _) vw) ?_
 refine GL_g rfl rfl gvt (rv_neq vwg vw) ?_
 refine GL_v rfl (rv_and vw vwg) ?_
 refine GL_nil ?_
 refine GC_cond rfl (fun h0 => ?_) (fun h0 => ?_)
 ·
  refine GC_seq ?_
  refine GC_region ?_
  refine GL_v rfl (rv_as (v := .pointer _) vw) ?_
  refine GL_nil ?_
  refine GC_ret ?_
  exact fin1 (.inr rfl) rfl rfl .nil .nil ⟨rfl, rfl, rfl⟩
 ·
  exact absurd hd (by have := h0; simpa using this)
theorem smNew1_ct (dir : Int) (hd : ¬ (dir ≠ 0 ∧ dir ≠ 1)) : Ct PG 36 [.int .i64 dir] [] [] (fun v S' T' => ∃ B, v = .pointer (some ⟨B, 0, none⟩) ∧ S' = [smB B dir none 0 0 0] ∧ T' = []) := by
 refine Ct_of Tryz.func36 rfl 12 rfl (Nat.le_of_ble_eq_true rfl) fun w0 M N => ?_
 refine GC_seq ?_
 refine GC_region ?_
 refine GL_v rfl (rv_as (v := .pointer _) vw) ?_
 refine GL_nil ?_
 refine GC_seq ?_
 refine GC_seq ?_
 refine GC_region ?_
 refine GL_v rfl (rv_mv (v := .int .i64 _) vw) ?_
 refine GL_v rfl (rv_neq vw vw) ?_
 refine GL_v rfl (rv_mv (v := .bool _) vw) ?_
 refine GL_g rfl rfl gvt (rv_mv (v := .int .i64 _) vw) ?_
 refine GL_g rfl rfl gvt (rv_neq vwg vw) ?_
 refine GL_v rfl (rv_and vw vwg) ?_
 refine GL_nil ?_
 refine GC_cond rfl (fun h0 => ?_) (fun h0 => ?_)
 ·
  exact absurd (by have := h0; simpa using this) hd
 ·
  refine GC_skip ?_
  refine GC_seq ?_
  refine GC_region ?_
  refine GL_v rfl (rv_mv (v := .int .i64 _) vw) ?_
  refine GL_v rfl (rv_bld (z' := [.int .i64 _, .slice none 0 0, .int .i64 0]) z94 l94 (fun _ => rfl)) ?_
  refine GL_boxA rfl rfl (fun b11 => ?_)
  refine GL_v rfl (rv_as (v := .pointer _) vw) ?_
  refine GL_nil ?_
  refine GC_ret ?_
  exact fin1 (.inr rfl) rfl rfl (.cons .here .nil) .nil ⟨_, rfl, rfl, rfl⟩
theorem smHeld_ct (B : Nat) (dir : Int) (sk : Nat) (A : Option Addr) (n k : Nat) : CtD PG 39 [.pointer (some ⟨B, 0, none⟩)] [smB B dir A n k sk] [] (.int .i64 n) [smB B dir A n k sk] [] := by
 refine Ct_of Tryz.func39 rfl 8 rfl (Nat.le_of_ble_eq_true rfl) fun w0 M N => ?_
 refine GC_seq ?_
 refine GC_region ?_
 refine GL_v rfl (rv_as (v := .int .i64 _) vw) ?_
 refine GL_nil ?_
 refine GC_seq ?_
 refine GC_region ?_
 refine GL_v rfl (rv_mv (v := .pointer _) vw) ?_
 refine GL_v rfl (rv_nil vw) ?_
 refine GL_v rfl (rv_fa fa94_1 vw) ?_
 refine GL_v rfl (rv_ld Tryz.underlying22 rfl vw) ?_
 refine GL_v rfl (rv_len el22 vw) ?_
 refine GL_v rfl (rv_as (v := .int .i64 _) vw) ?_
 refine GL_nil ?_
 refine GC_ret ?_
 exact fin1 (.inr rfl) rfl rfl (.cons .here .nil) .nil ⟨rfl, rfl, rfl⟩
theorem smSize_ct (B : Nat) (dir : Int) (sk : Nat) (A : Option Addr) (n k : Nat) (h : List UInt8) (h6 : 6 ≤ h.length) : CtD PG 135 [.pointer (some ⟨B, 0, none⟩)] [smB B dir A n k sk, smH A n k h] [] (.int .i64 (sizeN h)) [smB B dir A n k sk, smH A n k h] [] := by
 refine Ct_of Tryz.func135 rfl 19 rfl (Nat.le_of_ble_eq_true rfl) fun w0 M N => ?_
 refine GC_row A fun hr => ?_
 have hl : h.length = n := by have := hr.1; simpa [bytesV] using this
 have hA : A ≠ none := hr.2.2.2.2 (by omega) (by decide)
 have q4 := (h[4]'(by omega)).toNat_lt
 have q5 := (h[5]'(by omega)).toNat_lt
 have hsz : sizeN h = 256 * (h[4]'(by omega)).toNat + (h[5]'(by omega)).toNat := by unfold sizeN; rw [at8_get (by omega), at8_get (by omega)]
 refine GC_seq ?_
 refine GC_region ?_
 refine GL_v rfl (rv_as (v := .int .i64 _) vw) ?_
 refine GL_nil ?_
 refine GC_seq ?_
 refine GC_draw 17 ([smB B dir A n k sk, smH A n k h]) mixed ?_
 refine GA_v (i := 0) rfl rfl rfl (by kernel_rfl) (rv_mv (v := .pointer _) vw) ?_
 refine GA_v (i := 1) rfl rfl rfl (by kernel_rfl) (rv_nil vw) ?_
 refine GA_v (i := 2) rfl rfl rfl (by kernel_rfl) (rv_fa fa94_1 vw) ?_
 refine GA_v (i := 3) rfl rfl rfl (by kernel_rfl) (rv_ld Tryz.underlying22 rfl vw) ?_
 refine GA_v (i := 4) rfl rfl rfl (by kernel_rfl) (rv_ix (i := 4) el22 vw vw (fun _ => rfl) (fun _ => by omega) (fun _ => hA)) ?_
 refine GA_v (i := 5) rfl rfl rfl (by kernel_rfl) (rv_ldE (v := b8 (h[4]'(by omega))) Tryz.underlying5 rfl vw (fun _ => bytesV_at _)) ?_
 refine GA_v (i := 6) rfl rfl rfl (by kernel_rfl) (rv_cnv (r := ((h[4]'(by omega)).toNat : Int)) Tryz.underlying5 Tryz.underlying3 vw (fun _ => IntWalk.i64_in _ (by omega))) ?_
 refine GA_v (i := 7) rfl rfl rfl (by kernel_rfl) (rv_shl (r := ((256 * (h[4]'(by omega)).toNat : Nat) : Int)) vw vw (fun _ => by decide) (fun _ => by rw [show (2 : Int) ^ (min (8 : Int).toNat IntKind.i64.bits) = 256 from rfl, IntWalk.i64_in _ (by omega)]; omega)) ?_
 refine GA_v (i := 8) rfl rfl rfl (by kernel_rfl) (rv_mv (v := .pointer _) vw) ?_
 refine GA_v (i := 9) rfl rfl rfl (by kernel_rfl) (rv_nil vw) ?_
 refine GA_v (i := 10) rfl rfl rfl (by kernel_rfl) (rv_fa fa94_1 vw) ?_
 refine GA_v (i := 11) rfl rfl rfl (by kernel_rfl) (rv_ld Tryz.underlying22 rfl vw) ?_
 refine GA_v (i := 12) rfl rfl rfl (by kernel_rfl) (rv_ix (i := 5) el22 vw vw (fun _ => rfl) (fun _ => by omega) (fun _ => hA)) ?_
 refine GA_v (i := 13) rfl rfl rfl (by kernel_rfl) (rv_ldE (v := b8 (h[5]'(by omega))) Tryz.underlying5 rfl vw (fun _ => bytesV_at _)) ?_
 refine GA_v (i := 14) rfl rfl rfl (by kernel_rfl) (rv_cnv (r := ((h[5]'(by omega)).toNat : Int)) Tryz.underlying5 Tryz.underlying3 vw (fun _ => IntWalk.i64_in _ (by omega))) ?_
 refine GA_v (i := 15) rfl rfl rfl (by kernel_rfl) (rv_bit (r := .int .i64 ((256 * (h[4]'(by omega)).toNat + (h[5]'(by omega)).toNat : Nat) : Int)) (.inr (.inl rfl)) vw vw (fun _ w => run_or64 w _ _ q4 q5)) ?_
 refine GA_v (i := 16) rfl rfl rfl (by kernel_rfl) (rv_as (v := .int .i64 _) vw) ?_
 refine GA_nil (by kernel_rfl) ?_
 refine GC_ret ?_
 exact fin1 (v := .int .i64 ((256 * (h[4]'(by omega)).toNat + (h[5]'(by omega)).toNat : Nat) : Int)) (.inr rfl) rfl rfl (.cons .here (.cons .here .nil)) .nil ⟨by rw [hsz], rfl, rfl⟩
theorem smRefuse_ct (B : Nat) (dir e : Int) (sk : Nat) (A : Option Addr) (n k : Nat) (h : List UInt8) (h6 : 6 ≤ h.length) : Ct PG 185 [.pointer (some ⟨B, 0, none⟩), .int .i64 e] [smB B dir A n k sk, smH A n k h] [] (SmOut B dir ([⟨e, {}⟩], ⟨[], sizeN h⟩)) := by
 refine Ct_of Tryz.func185 rfl 16 rfl (Nat.le_of_ble_eq_true rfl) fun w0 M N => ?_
 refine GC_seq ?_
 refine GC_region ?_
 refine GL_v rfl (rv_as (v := .slice _ _ _) vw) ?_
 refine GL_nil ?_
 refine GC_seq ?_
 refine GC_region ?_
 refine GL_v rfl (rv_mv (v := .pointer _) vw) ?_
 refine GL_v rfl (rv_mv (v := .pointer _) vw) ?_
 refine GL_callD rfl cb135 (smSize_ct B dir sk A n k h h6) rfl (.cons .here (.cons .here .nil)) .nil ?_
 refine GL_v rfl (rv_nil vw) ?_
 refine GL_v rfl (rv_fa fa94_2 vw) ?_
 refine GL_st (u := .int .i64 _) rfl rfl c3 rfl ?_
 refine GL_nil ?_
 refine GC_seq ?_
 refine GC_region ?_
 refine GL_v rfl (rv_mv (v := .pointer _) vw) ?_
 refine GL_v rfl (rv_nil vw) ?_
 refine GL_v rfl (rv_fa fa94_1 vw) ?_
 refine GL_st (u := .slice _ _ _) rfl rfl c22 rfl ?_
 refine GL_nil ?_
 refine GC_seq ?_
 refine GC_region ?_
 refine GL_v rfl (rv_mv (v := .int .i64 _) vw) ?_
 refine GL_v rfl (rv_bld (z' := EvX.cells ⟨e, 0, 0, { m := {} }⟩) z89 l89 (fun _ => ev_fill0 rfl)) ?_
 refine GL_bs (l := evsV [⟨e, 0, 0, { m := {} }⟩]) rfl el53 z89 rfl rfl (evs_bs rfl rfl) (fun b15 => ?_)
 refine GL_shift (.cons .here .nil) (blk_own (n := 1) (sz := 25) rfl (by decide)) ?_
 refine GL_shift (.cons .here .nil) own_toRow ?_
 refine GL_shift .nil (msg0 {}) ?_
 refine GL_shift .nil (msgs_one (y := ⟨e, 0, 0, { m := {} }⟩) (List.mem_cons_self ..)) ?_
 refine GL_shift .nil (nil_own (t := 5) (sz := 1)) ?_
 refine GL_v rfl (rv_as (v := .slice _ _ _) vw) ?_
 refine GL_nil ?_
 refine GC_ret ?_
 exact fin1 (.inr rfl) rfl rfl (.cons (.there .here) (.cons .here .nil)) (T' := [row 25 (some ⟨b15, 0, none⟩) 1 1 (evsV [⟨e, 0, 0, { m := {} }⟩]), msgsR [⟨e, 0, 0, { m := {} }⟩]]) sb ⟨_, 1, 1, [⟨e, 0, 0, { m := {} }⟩], none, 0, 0, rfl, rfl, rfl, rfl⟩
theorem smLong_ct (B : Nat) (dir : Int) (sk : Nat) (A : Option Addr) (n k : Nat) (h : List UInt8) (h6 : 6 ≤ h.length) : Ct PG 136 [.pointer (some ⟨B, 0, none⟩)] [smB B dir A n k sk, smH A n k h] [] (SmOut B dir ([⟨3, {}⟩], ⟨[], sizeN h⟩)) := by
 refine Ct_of Tryz.func136 rfl 5 rfl (Nat.le_of_ble_eq_true rfl) fun w0 M N => ?_
 refine GC_seq ?_
 refine GC_region ?_
 refine GL_v rfl (rv_as (v := .slice _ _ _) vw) ?_
 refine GL_nil ?_
 refine GC_seq ?_
 refine GC_region ?_
 refine GL_v rfl (rv_mv (v := .pointer _) vw) ?_
 refine GL_call rfl cb185 (smRefuse_ct B dir 3 sk A n k h h6) rfl (.cons .here (.cons .here .nil)) .nil ?_
 rintro _ _ _ ⟨Av, nv, kv, xs, A2, n2, k2, rfl, hx, rfl, rfl⟩
 simp only [List.cons_append, List.nil_append]
 refine GL_v rfl (rv_as (v := .slice _ _ _) vw) ?_
 refine GL_nil ?_
 refine GC_ret ?_
 exact fin1 (.inr rfl) rfl rfl (.cons .here (.cons .here .nil)) sb ⟨Av, nv, kv, xs, A2, n2, k2, rfl, hx, rfl, rfl⟩
theorem smSmall_ct (B : Nat) (dir : Int) (sk : Nat) (A : Option Addr) (n k : Nat) (h : List UInt8) (h6 : 6 ≤ h.length) : Ct PG 137 [.pointer (some ⟨B, 0, none⟩)] [smB B dir A n k sk, smH A n k h] [] (SmOut B dir ([⟨5, {}⟩], ⟨[], sizeN h⟩)) := by
 refine Ct_of Tryz.func137 rfl 5 rfl (Nat.le_of_ble_eq_true rfl) fun w0 M N => ?_
 refine GC_seq ?_
 refine GC_region ?_
 refine GL_v rfl (rv_as (v := .slice _ _ _) vw) ?_
 refine GL_nil ?_
 refine GC_seq ?_
 refine GC_region ?_
 refine GL_v rfl (rv_mv (v := .pointer _) vw) ?_
 refine GL_call rfl cb185 (smRefuse_ct B dir 5 sk A n k h h6) rfl (.cons .here (.cons .here .nil)) .nil ?_
 rintro _ _ _ ⟨Av, nv, kv, xs, A2, n2, k2, rfl, hx, rfl, rfl⟩
 simp only [List.cons_append, List.nil_append]
 refine GL_v rfl (rv_as (v := .slice _ _ _) vw) ?_
 refine GL_nil ?_
 refine GC_ret ?_
 exact fin1 (.inr rfl) rfl rfl (.cons .here (.cons .here .nil)) sb ⟨Av, nv, kv, xs, A2, n2, k2, rfl, hx, rfl, rfl⟩
theorem smWhole_ct (B : Nat) (dir : Int) (sk : Nat) (A : Option Addr) (n k : Nat) (h : List UInt8) (hn : n ≤ 35184372088832) : Ct PG 138 [.pointer (some ⟨B, 0, none⟩)] [smB B dir A n k sk, smH A n k h] [] (SmOut B dir ([evOf (P17 dir h)], ⟨[], sk⟩)) := by
 refine Ct_of Tryz.func138 rfl 24 rfl (Nat.le_of_ble_eq_true rfl) fun w0 M N => ?_
 refine GC_shift (.cons (.there .here) .nil) own_toRow ?_
 refine GC_seq ?_
 refine GC_region ?_
 refine GL_v rfl (rv_as (v := .slice _ _ _) vw) ?_
 refine GL_nil ?_
 refine GC_seq ?_
 refine GC_draw 15 ([smB B dir A n k sk, row 1 A n k (bytesV h)]) mixed ?_
 refine GA_v (i := 0) rfl rfl rfl (by kernel_rfl) (rv_mv (v := .pointer _) vw) ?_
 refine GA_v (i := 1) rfl rfl rfl (by kernel_rfl) (rv_nil vw) ?_
 refine GA_v (i := 2) rfl rfl rfl (by kernel_rfl) (rv_fa fa94_0 vw) ?_
 refine GA_v (i := 3) rfl rfl rfl (by kernel_rfl) (rv_ld Tryz.underlying3 rfl vw) ?_
 refine GA_v (i := 4) rfl rfl rfl (by kernel_rfl) (rv_mv (v := .pointer _) vw) ?_
 refine GA_v (i := 5) rfl rfl rfl (by kernel_rfl) (rv_nil vw) ?_
 refine GA_v (i := 6) rfl rfl rfl (by kernel_rfl) (rv_fa fa94_1 vw) ?_
 refine GA_v (i := 7) rfl rfl rfl (by kernel_rfl) (rv_ld Tryz.underlying22 rfl vw) ?_
 refine GA_two 8 12 rfl rfl rfl rfl (by kernel_rfl) ?_ ?_
 ·
  refine GL_call rfl cb23 (P17_ct dir A n k h hn) rfl .nil sb ?_
  rintro _ _ _ ⟨u, t, x, rfl, hx, rfl, rfl⟩
  simp only [List.cons_append, List.nil_append]
  obtain ⟨fd, e, hP⟩ : ∃ m e, P17 dir h = (m, e) := ⟨_, _, rfl⟩
  rw [hP] at hx ⊢
  simp only at hx ⊢
  refine GL_nil ⟨inferInstance, ?_⟩
  refine GA_v (i := 9) rfl rfl rfl (by kernel_rfl) (rv_mv (v := .tuple [.agg (frCells u t x).toArray, .int .i64 e].toArray) vw) ?_
  refine GA_v (i := 10) rfl rfl rfl (by kernel_rfl) (rv_ext vw rfl) ?_
  refine GA_v (i := 11) rfl rfl rfl (by kernel_rfl) (rv_ext vw rfl) ?_
  refine GA_one 12 rfl rfl (by kernel_rfl) ?_
  refine GL_alloc rfl z44 (fun b3 => ?_)
  refine GL_nil ⟨inferInstance, ?_⟩
  refine GA_one 13 rfl rfl (by kernel_rfl) ?_
  refine GL_stA (l' := frCells u t x) rfl rfl c44 (frCells_one _ _ _) (by rfl) ?_
  refine GL_nil ⟨inferInstance, ?_⟩
  refine GA_v (i := 14) rfl rfl rfl (by kernel_rfl) (rv_as (v := .int .i64 _) vw) ?_
  refine GA_nil (by kernel_rfl) ?_
  refine GC_seq ?_
  refine GC_region ?_
  refine GL_v rfl (rv_mv (v := .pointer _) vw) ?_
  refine GL_v rfl (rv_nil vw) ?_
  refine GL_v rfl (rv_fa fa94_1 vw) ?_
  refine GL_st (u := .slice _ _ _) rfl rfl c22 rfl ?_
  refine GL_nil ?_
  refine GC_seq ?_
  refine GC_region ?_
  refine GL_v rfl (rv_mv (v := .int .i64 _) vw) ?_
  refine GL_v rfl (rv_ldA (l := frCells u t x) a44 vw rfl) ?_
  refine GL_v rfl (rv_bld (z' := EvX.cells ⟨e, u, t, x⟩) z89 l89 (fun _ => ev_fill rfl rfl rfl)) ?_
  refine GL_bs (l := evsV [⟨e, u, t, x⟩]) rfl el53 z89 rfl rfl (evs_bs rfl rfl) (fun b23 => ?_)
  refine GL_shift (.cons .here .nil) (blk_own (n := 1) (sz := 25) rfl (by decide)) ?_
  refine GL_shift (.cons .here .nil) own_toRow ?_
  refine GL_shift .nil (msgs_one (y := ⟨e, u, t, x⟩) (List.mem_cons_of_mem _ (List.mem_cons_self ..))) ?_
  refine GL_shift .nil (nil_own (t := 5) (sz := 1)) ?_
  refine GL_v rfl (rv_as (v := .slice _ _ _) vw) ?_
  refine GL_nil ?_
  refine GC_ret ?_
  exact fin1 (.inr rfl) rfl rfl (.cons (.there (.there .here)) (.cons .here .nil)) (T' := [row 25 (some ⟨b23, 0, none⟩) 1 1 (evsV [⟨e, u, t, x⟩]), msgsR [⟨e, u, t, x⟩]]) sb ⟨_, 1, 1, [⟨e, u, t, x⟩], none, 0, 0, rfl, by simp only [evOf, EvX.d, List.map_cons, List.map_nil, ← hx], rfl, rfl⟩
 ·
  refine GL_alloc rfl z44 (fun b3 => ?_)
  refine GL_nil ⟨inferInstance, ?_⟩
  refine GA_one 8 rfl rfl (by kernel_rfl) ?_
  refine GL_call rfl cb23 (P17_ct dir A n k h hn) rfl .nil sb ?_
  rintro _ _ _ ⟨u, t, x, rfl, hx, rfl, rfl⟩
  simp only [List.cons_append, List.nil_append]
  obtain ⟨fd, e, hP⟩ : ∃ m e, P17 dir h = (m, e) := ⟨_, _, rfl⟩
  rw [hP] at hx ⊢
  simp only at hx ⊢
  refine GL_nil ⟨inferInstance, ?_⟩
  refine GA_v (i := 9) rfl rfl rfl (by kernel_rfl) (rv_mv (v := .tuple [.agg (frCells u t x).toArray, .int .i64 e].toArray) vw) ?_
  refine GA_v (i := 10) rfl rfl rfl (by kernel_rfl) (rv_ext vw rfl) ?_
  refine GA_v (i := 11) rfl rfl rfl (by kernel_rfl) (rv_ext vw rfl) ?_
  refine GA_one 13 rfl rfl (by kernel_rfl) ?_
  refine GL_stA (l' := frCells u t x) rfl rfl c44 (frCells_one _ _ _) (by rfl) ?_
  refine GL_nil ⟨inferInstance, ?_⟩
  refine GA_v (i := 14) rfl rfl rfl (by kernel_rfl) (rv_as (v := .int .i64 _) vw) ?_
  refine GA_nil (by kernel_rfl) ?_
  refine GC_seq ?_
  refine GC_region ?_
  refine GL_v rfl (rv_mv (v := .pointer _) vw) ?_
  refine GL_v rfl (rv_nil vw) ?_
  refine GL_v rfl (rv_fa fa94_1 vw) ?_
  refine GL_st (u := .slice _ _ _) rfl rfl c22 rfl ?_
  refine GL_nil ?_
  refine GC_seq ?_
  refine GC_region ?_
  refine GL_v rfl (rv_mv (v := .int .i64 _) vw) ?_
  refine GL_v rfl (rv_ldA (l := frCells u t x) a44 vw rfl) ?_
  refine GL_v rfl (rv_bld (z' := EvX.cells ⟨e, u, t, x⟩) z89 l89 (fun _ => ev_fill rfl rfl rfl)) ?_
  refine GL_bs (l := evsV [⟨e, u, t, x⟩]) rfl el53 z89 rfl rfl (evs_bs rfl rfl) (fun b23 => ?_)
  refine GL_shift (.cons .here .nil) (blk_own (n := 1) (sz := 25) rfl (by decide)) ?_
  refine GL_shift (.cons .here .nil) own_toRow ?_
  refine GL_shift .nil (msgs_one (y := ⟨e, u, t, x⟩) (List.mem_cons_of_mem _ (List.mem_cons_self ..))) ?_
  refine GL_shift .nil (nil_own (t := 5) (sz := 1)) ?_
  refine GL_v rfl (rv_as (v := .slice _ _ _) vw) ?_
  refine GL_nil ?_
  refine GC_ret ?_
  exact fin1 (.inr rfl) rfl rfl (.cons (.there (.there .here)) (.cons .here .nil)) (T' := [row 25 (some ⟨b23, 0, none⟩) 1 1 (evsV [⟨e, u, t, x⟩]), msgsR [⟨e, u, t, x⟩]]) sb ⟨_, 1, 1, [⟨e, u, t, x⟩], none, 0, 0, rfl, by simp only [evOf, EvX.d, List.map_cons, List.map_nil, ← hx], rfl, rfl⟩
def nextV (B : Nat) (h : List UInt8) : Value :=
 if h.length < 6 then .nilFunc else if 254 < sizeN h then .func (.func 136) #[.pointer (some ⟨B, 0, none⟩)] #[]
 else if sizeN h < 2 then .func (.func 137) #[.pointer (some ⟨B, 0, none⟩)] #[]
 else if h.length = 6 + sizeN h then .func (.func 138) #[.pointer (some ⟨B, 0, none⟩)] #[] else .nilFunc
theorem smNext_ct (B : Nat) (dir : Int) (sk : Nat) (A : Option Addr) (n k : Nat) (h : List UInt8) (hn : n ≤ 35184372088832) : CtD PG 80 [.pointer (some ⟨B, 0, none⟩)] [smB B dir A n k sk, smH A n k h] [] (nextV B h) [smB B dir A n k sk, smH A n k h] [] := by
 refine Ct_of Tryz.func80 rfl 34 rfl (Nat.le_of_ble_eq_true rfl) fun w0 M N => ?_
 refine GC_row A fun hr => ?_
 have hl : h.length = n := by have := hr.1; simpa [bytesV] using this
 have hsz := sizeN_le h
 obtain ⟨v, hv⟩ : ∃ v, nextV B h = v := ⟨_, rfl⟩
 rw [hv]
 unfold nextV at hv
 refine GC_seq ?_
 refine GC_region ?_
 refine GL_v rfl (rv_as (v := .nilFunc) vw) ?_
 refine GL_nil ?_
 refine GC_seq ?_
 refine GC_block ?_
 refine GC_seq ?_
 refine GC_region ?_
 refine GL_v rfl (rv_mv (v := .pointer _) vw) ?_
 refine GL_v rfl (rv_nil vw) ?_
 refine GL_v rfl (rv_fa fa94_1 vw) ?_
 refine GL_v rfl (rv_ld Tryz.underlying22 rfl vw) ?_
 refine GL_v rfl (rv_len el22 vw) ?_
 refine GL_v rfl (rv_lss vw vw) ?_
 refine GL_v rfl (rv_as (v := .bool _) vw) ?_
 refine GL_nil ?_
 refine GC_cond rfl (fun h0 => ?_) (fun h0 => ?_)
 ·
  have g : h.length < 6 := by have := h0; simp at this; omega
  rw [if_pos g] at hv
  subst hv
  refine GC_seq ?_
  refine GC_region ?_
  refine GL_v rfl (rv_as (v := .nilFunc) vw) ?_
  refine GL_nil ?_
  refine GC_ret ?_
  exact fin1 (.inr rfl) rfl rfl (.cons .here (.cons .here .nil)) .nil ⟨rfl, rfl, rfl⟩
 ·
  have g : ¬ h.length < 6 := by have := h0; simp at this; omega
  rw [if_neg g] at hv
  refine GC_seq ?_
  refine GC_region ?_
  refine GL_v rfl (rv_mv (v := .pointer _) vw) ?_
  refine GL_callD rfl cb135 (smSize_ct B dir sk A n k h (by omega)) rfl (.cons .here (.cons .here .nil)) .nil ?_
  refine GL_v rfl (rv_gtr vw vw) ?_
  refine GL_v rfl (rv_as (v := .bool _) vw) ?_
  refine GL_nil ?_
  refine GC_cond rfl (fun h1 => ?_) (fun h1 => ?_)
  ·
   have g2 : 254 < sizeN h := by have := h1; simp at this; omega
   rw [if_pos g2] at hv
   subst hv
   refine GC_seq ?_
   refine GC_region ?_
   refine GL_v rfl (rv_mv (v := .pointer _) vw) ?_
   refine GL_v rfl (rv_mfE (la := [.pointer (some ⟨B, 0, none⟩)]) (lb := []) rfl rfl) ?_
   refine GL_v rfl (rv_as (v := .func _ _ _) vw) ?_
   refine GL_nil ?_
   refine GC_ret ?_
   exact fin1 (.inr rfl) rfl rfl (.cons .here (.cons .here .nil)) .nil ⟨rfl, rfl, rfl⟩
  ·
   have g2 : ¬ 254 < sizeN h := by have := h1; simp at this; omega
   rw [if_neg g2] at hv
   refine GC_seq ?_
   refine GC_region ?_
   refine GL_v rfl (rv_mv (v := .pointer _) vw) ?_
   refine GL_callD rfl cb135 (smSize_ct B dir sk A n k h (by omega)) rfl (.cons .here (.cons .here .nil)) .nil ?_
   refine GL_v rfl (rv_lss vw vw) ?_
   refine GL_v rfl (rv_as (v := .bool _) vw) ?_
   refine GL_nil ?_
   refine GC_cond rfl (fun h2 => ?_) (fun h2 => ?_)
   ·
    have g3 : sizeN h < 2 := by have := h2; simp at this; omega
    rw [if_pos g3] at hv
    subst hv
    refine GC_seq ?_
    refine GC_region ?_
    refine GL_v rfl (rv_mv (v := .pointer _) vw) ?_
    refine GL_v rfl (rv_mfE (la := [.pointer (some ⟨B, 0, none⟩)]) (lb := []) rfl rfl) ?_
    refine GL_v rfl (rv_as (v := .func _ _ _) vw) ?_
    refine GL_nil ?_
    refine GC_ret ?_
    exact fin1 (.inr rfl) rfl rfl (.cons .here (.cons .here .nil)) .nil ⟨rfl, rfl, rfl⟩
   ·
    have g3 : ¬ sizeN h < 2 := by have := h2; simp at this; omega
    rw [if_neg g3] at hv
    refine GC_seq ?_
    refine GC_draw 10 ([smB B dir A n k sk, smH A n k h]) mixed ?_
    refine GA_v (i := 0) rfl rfl rfl (by kernel_rfl) (rv_mv (v := .pointer _) vw) ?_
    refine GA_v (i := 1) rfl rfl rfl (by kernel_rfl) (rv_nil vw) ?_
    refine GA_v (i := 2) rfl rfl rfl (by kernel_rfl) (rv_fa fa94_1 vw) ?_
    refine GA_v (i := 3) rfl rfl rfl (by kernel_rfl) (rv_ld Tryz.underlying22 rfl vw) ?_
    refine GA_v (i := 4) rfl rfl rfl (by kernel_rfl) (rv_len el22 vw) ?_
    refine GA_v (i := 5) rfl rfl rfl (by kernel_rfl) (rv_mv (v := .pointer _) vw) ?_
    refine GA_one 6 rfl rfl (by kernel_rfl) ?_
    refine GL_callD rfl cb135 (smSize_ct B dir sk A n k h (by omega)) rfl (.cons .here (.cons .here .nil)) .nil ?_
    refine GL_nil ⟨inferInstance, ?_⟩
    refine GA_v (i := 7) rfl rfl rfl (by kernel_rfl) (rv_add (r := ((6 + sizeN h : Nat) : Int)) vw vw (fun _ => by rw [IntWalk.i64_in _ (by omega)]; omega)) ?_
    refine GA_v (i := 8) rfl rfl rfl (by kernel_rfl) (rv_eql vw vw) ?_
    refine GA_v (i := 9) rfl rfl rfl (by kernel_rfl) (rv_as (v := .bool _) vw) ?_
    refine GA_nil (by kernel_rfl) ?_
    refine GC_cond rfl (fun h3 => ?_) (fun h3 => ?_)
    ·
     have g4 : h.length = 6 + sizeN h := by have := h3; simp at this; omega
     rw [if_pos g4] at hv
     subst hv
     refine GC_seq ?_
     refine GC_region ?_
     refine GL_v rfl (rv_mv (v := .pointer _) vw) ?_
     refine GL_v rfl (rv_mfE (la := [.pointer (some ⟨B, 0, none⟩)]) (lb := []) rfl rfl) ?_
     refine GL_v rfl (rv_as (v := .func _ _ _) vw) ?_
     refine GL_nil ?_
     refine GC_ret ?_
     exact fin1 (.inr rfl) rfl rfl (.cons .here (.cons .here .nil)) .nil ⟨rfl, rfl, rfl⟩
    ·
     have g4 : ¬ h.length = 6 + sizeN h := by have := h3; simp at this; omega
     rw [if_neg g4] at hv
     subst hv
     refine GC_skip ?_
     refine GC_seq ?_
     refine GC_region ?_
     refine GL_v rfl (rv_as (v := .nilFunc) vw) ?_
     refine GL_nil ?_
     refine GC_ret ?_
     exact fin1 (.inr rfl) rfl rfl (.cons .here (.cons .here .nil)) .nil ⟨rfl, rfl, rfl⟩
theorem next_call (B : Nat) (dir : Int) (sk : Nat) (A : Option Addr) (n k : Nat) (h : List UInt8) (hn : n ≤ 35184372088832) : (nextV B h = .nilFunc ∧ smN dir ⟨h, sk⟩ = ([], ⟨h, sk⟩)) ∨ ∃ f, nextV B h = .func (.func f) #[.pointer (some ⟨B, 0, none⟩)] #[] ∧ Cb PG f ∧ Ct PG f [.pointer (some ⟨B, 0, none⟩)] [smB B dir A n k sk, smH A n k h] [] (SmOut B dir (smN dir ⟨h, sk⟩)) := by
 unfold nextV smN
 by_cases g : h.length < 6
 · exact .inl ⟨if_pos g, if_pos g⟩
 simp only [if_neg g]
 by_cases g2 : 254 < sizeN h
 · simp only [if_pos g2]; exact .inr ⟨_, rfl, cb136, smLong_ct B dir sk A n k h (by omega)⟩
 simp only [if_neg g2]
 by_cases g3 : sizeN h < 2
 · simp only [if_pos g3]; exact .inr ⟨_, rfl, cb137, smSmall_ct B dir sk A n k h (by omega)⟩
 simp only [if_neg g3]
 by_cases g4 : h.length = 6 + sizeN h
 · simp only [if_pos g4]; exact .inr ⟨_, rfl, cb138, smWhole_ct B dir sk A n k h hn⟩
 · simp only [if_neg g4]; exact .inl (by simp)
theorem smFeed_ct (B : Nat) (dir : Int) (s0 : Sm) (A A2 : Option Addr) (n k m k2 : Nat) (p : List UInt8) (hn : n ≤ 100000) (hm : m ≤ 100000) (hsk : s0.skip ≤ 65535) : Ct PG 37 [.pointer (some ⟨B, 0, none⟩), .slice A2 m k2] [smB B dir A n k s0.skip, smH A n k s0.held] [row 1 A2 m k2 (bytesV p)] (SmOut B dir (smF dir s0 p)) := by
 refine Ct_of Tryz.func37 rfl 47 rfl (Nat.le_of_ble_eq_true rfl) fun w0 M N => ?_
 refine GC_row A fun hr1 => ?_
 refine GC_row A2 fun hr2 => ?_
 have hl1 : s0.held.length = n := by have := hr1.1; simpa [bytesV] using this
 have hl2 : p.length = m := by have := hr2.1; simpa [bytesV] using this
 refine GC_shift .nil (nil_own (t := 89) (sz := 25)) ?_
 refine GC_shift .nil msgs_nil ?_
 refine GC_seq ?_
 refine GC_region ?_
 refine GL_v rfl (rv_as (v := .slice _ _ _) vw) ?_
 refine GL_nil ?_
 refine GC_seq ?_
 refine GC_region ?_
 refine GL_v rfl (rv_as (v := .slice _ _ _) vw) ?_
 refine GL_nil ?_
 refine GC_seq ?_
 refine GC_seq ?_
 refine GC_region ?_
 refine GL_v rfl (rv_mv (v := .slice _ _ _) vw) ?_
 refine GL_v rfl (rv_len el22 vw) ?_
 refine GL_v rfl (rv_mv (v := .int .i64 _) vw) ?_
 refine GL_nil ?_
 refine GC_block ?_
 refine GC_loop (fun (i : Nat) E S T => i ≤ m ∧ ∃ xs st Ae ne ke Ah nh kh, SmAcc dir s0 (p.take (i)) xs st ∧ At E [(0, .pointer (some ⟨B, 0, none⟩)), (5, .slice Ae ne ke), (9, .slice A2 m k2), (10, .int .i64 m), (11, .int .i64 i)] ∧ S = [own 89 25 Ae ne ke (evsV xs), smB B dir Ah nh kh st.skip, smH Ah nh kh st.held] ∧ T = [msgsR xs, row 1 A2 m k2 (bytesV p)]) (fun i => m - i) 0 ⟨Nat.zero_le _, [], s0, none, 0, 0, A, n, k, SmAcc.nil hsk, ⟨rfl, rfl, rfl, rfl, rfl, trivial⟩, rfl, rfl⟩ ?_
 rintro i E S T ⟨hi, xs, st, Ae, ne, ke, Ah, nh, kh, hacc, hE, rfl, rfl⟩
 obtain ⟨E0, rfl⟩ := hE.ex
 refine GC_seq ?_
 refine GC_region ?_
 refine GL_v rfl (rv_lss vw vw) ?_
 refine GL_nil ?_
 refine GC_seq ?_
 refine GC_cond rfl (fun h0 => ?_) (fun h0 => ?_)
 ·
  have hlt : i < m := by have := h0; simp at this; omega
  have hip : i < p.length := by omega
  have hA2 : A2 ≠ none := hr2.2.2.2.2 (by omega) (by decide)
  have htk := take_snoc p i hip
  refine GC_row Ah fun hr3 => ?_
  have hl3 : st.held.length = nh := by have := hr3.1; simpa [bytesV] using this
  refine GC_row Ae fun hr4 => ?_
  have hl4 : xs.length = ne := by have := hr4.1; rw [evsV_len] at this; omega
  have hb1 := hacc.2.2.1
  have hb2 := hacc.2.2.2.1
  have hb3 := hacc.2.2.2.2
  rw [List.length_take] at hb1 hb2
  obtain ⟨c, hc⟩ : ∃ c, c = p[i]'hip := ⟨_, rfl⟩
  rw [← hc] at htk
  refine GC_skip ?_
  refine GC_seq ?_
  refine GC_cutM (fun E S T => ∃ xs st Ae ne ke Ah nh kh, SmAcc dir s0 (p.take (i + 1)) xs st ∧ At E [(0, .pointer (some ⟨B, 0, none⟩)), (5, .slice Ae ne ke), (9, .slice A2 m k2), (10, .int .i64 m), (11, .int .i64 i)] ∧ S = [own 89 25 Ae ne ke (evsV xs), smB B dir Ah nh kh st.skip, smH Ah nh kh st.held] ∧ T = [msgsR xs, row 1 A2 m k2 (bytesV p)]) ?_ ?_
  ·
   refine GC_block ?_
   refine GC_seq ?_
   refine GC_region ?_
   refine GL_v rfl (rv_ix (i := i) el22 vw vw (fun _ => rfl) (fun _ => hlt) (fun _ => hA2)) ?_
   refine GL_v rfl (rv_ldE (v := b8 c) Tryz.underlying5 rfl vw (fun _ => by rw [Nat.mul_one, hc]; exact bytesV_at _)) ?_
   refine GL_v rfl (rv_as (v := b8 c) vw) ?_
   refine GL_nil ?_
   refine GC_seq ?_
   refine GC_seq ?_
   refine GC_region ?_
   refine GL_v rfl (rv_mv (v := .pointer _) vw) ?_
   refine GL_v rfl (rv_nil vw) ?_
   refine GL_v rfl (rv_fa fa94_2 vw) ?_
   refine GL_v rfl (rv_ld Tryz.underlying3 rfl vw) ?_
   refine GL_v rfl (rv_gtr vw vw) ?_
   refine GL_nil ?_
   refine GC_cond rfl (fun h1 => ?_) (fun h1 => ?_)
   ·
    have hs : 0 < st.skip := by have := h1; simp at this; omega
    refine GC_seq ?_
    refine GC_region ?_
    refine GL_v rfl (rv_mv (v := .pointer _) vw) ?_
    refine GL_v rfl (rv_nil vw) ?_
    refine GL_v rfl (rv_fa fa94_2 vw) ?_
    refine GL_v rfl (rv_ld Tryz.underlying3 rfl vw) ?_
    refine GL_v rfl (rv_sub (r := ((st.skip - 1 : Nat) : Int)) vw vw (fun _ => by rw [IntWalk.i64_in _ (by omega)]; omega)) ?_
    refine GL_v rfl (rv_nil vw) ?_
    refine GL_v rfl (rv_fa fa94_2 vw) ?_
    refine GL_st (u := .int .i64 _) rfl rfl c3 rfl ?_
    refine GL_nil ?_
    refine GC_exit ?_
    show Weak _ _ _ _
    exact weak (.cons .here (.cons .here (.cons .here .nil))) sb ⟨xs, ⟨st.held, st.skip - 1⟩, Ae, ne, ke, Ah, nh, kh, by rw [htk]; exact hacc.skipped hs c, ⟨rfl, rfl, rfl, rfl, rfl, trivial⟩, rfl, rfl⟩
   ·
    have hs : ¬ 0 < st.skip := by have := h1; simp at this; omega
    refine GC_skip ?_
    refine GC_seq ?_
    refine GC_region ?_
    refine GL_v rfl (rv_mv (v := .pointer _) vw) ?_
    refine GL_v rfl (rv_mv (v := .pointer _) vw) ?_
    refine GL_v rfl (rv_nil vw) ?_
    refine GL_v rfl (rv_fa fa94_1 vw) ?_
    refine GL_v rfl (rv_ld Tryz.underlying22 rfl vw) ?_
    refine GL_v rfl (rv_mv (v := b8 c) vw) ?_
    refine GL_bs (l := bytesV [c]) rfl el22 z5 rfl rfl rfl (fun b33 => ?_)
    refine GL_app (m := 1) rfl el22 rfl rfl pW rfl (bytesV_one _) (by omega) (by simp [maxLen]; omega) (fun A3 k3 => ?_)
    rw [← bytesV_append]
    refine GL_v rfl (rv_nil vw) ?_
    refine GL_v rfl (rv_fa fa94_1 vw) ?_
    refine GL_st (u := .slice _ _ _) rfl rfl c22 rfl ?_
    refine GL_nil ?_
    refine GC_drop (.cons (.there (.there .here)) (.cons (.there (.there .here)) (.cons .here .nil))) ?_
    have hcall := next_call B dir st.skip A3 (nh + 1) k3 (st.held ++ [c]) (by omega)
    have hnc := smNext_ct B dir st.skip A3 (nh + 1) k3 (st.held ++ [c]) (by omega)
    obtain ⟨fv, hfv⟩ : ∃ fv, nextV B (st.held ++ [c]) = fv := ⟨_, rfl⟩
    rw [hfv] at hcall hnc
    have hfn : fv = .nilFunc ∨ ∃ f a b, fv = .func f a b := by
     rcases hcall with h | ⟨f, h, _⟩
     · exact .inl h.1
     · exact .inr ⟨_, _, _, h⟩
    refine GC_seq ?_
    refine GC_region ?_
    refine GL_v rfl (rv_mv (v := .pointer _) vw) ?_
    refine GL_callD rfl cb80 hnc rfl (.cons (.there .here) (.cons (.there .here) .nil)) .nil ?_
    refine GL_v rfl (rv_as (v := fv) vw) ?_
    refine GL_nil ?_
    refine GC_seq ?_
    refine GC_region ?_
    refine GL_v rfl (rv_mv (v := fv) vw) ?_
    refine GL_v rfl (rv_neFn Tryz.underlying58 vw hfn) ?_
    refine GL_nil ?_
    refine GC_cond rfl (fun h2 => ?_) (fun h2 => ?_)
    ·
     obtain ⟨f, rfl, hcb, hct⟩ : ∃ f, fv = .func (.func f) #[.pointer (some ⟨B, 0, none⟩)] #[] ∧ Cb PG f ∧ Ct PG f [.pointer (some ⟨B, 0, none⟩)] [smB B dir A3 (nh + 1) k3 st.skip, smH A3 (nh + 1) k3 (st.held ++ [c])] [] (SmOut B dir (smN dir ⟨st.held ++ [c], st.skip⟩)) := by
      rcases hcall with h | h
      · have z := h2
        rw [h.1] at z; cases z
      · exact h
     refine GC_region ?_
     refine GL_v rfl (rv_mv (v := .slice _ _ _) vw) ?_
     refine GL_v rfl (rv_mv (v := .func (.func f) #[.pointer (some ⟨B, 0, none⟩)] #[]) vw) ?_
     refine GL_callC (first := [.pointer (some ⟨B, 0, none⟩)]) (cap := []) rfl rfl hcb rfl hct (.cons .here (.cons .here .nil)) .nil ?_
     rintro _ _ _ ⟨Av, nv, kv, ys, A4, n4, k4, rfl, hy, rfl, rfl⟩
     simp only [List.cons_append, List.nil_append]
     have hacc2 := hacc.taken hs c hy
     refine GL_row Av fun hr5 => ?_
     have hl5 : ys.length = nv := by have := hr5.1; rw [evsV_len] at this; omega
     have hb5 : ys.length ≤ 1 := by have := congrArg List.length hy; rw [List.length_map] at this; rw [this]; exact (smN_few dir _).1
     obtain ⟨s2, hs2⟩ : ∃ s2, (smN dir ⟨st.held ++ [c], st.skip⟩).2 = s2 := ⟨_, rfl⟩
     rw [hs2] at hacc2 ⊢
     refine GL_app (m := nv) rfl el53 rfl rfl pW (by rw [evsV_len, hl5]) (evsV_one _) (by omega) (by simp [maxLen]; omega) (fun A5 k5 => ?_)
     rw [← evsV_append]
     refine GL_shift .nil (msgs_append (a := xs) (b := ys) (by simp) (by simp)) ?_
     refine GL_v rfl (rv_as (v := .slice _ _ _) vw) ?_
     refine GL_nil ?_
     show Weak _ _ _ _
     exact weak (T' := [msgsR (xs ++ ys), row 1 A2 m k2 (bytesV p)]) (.cons .here (.cons .here (.cons .here .nil))) sb ⟨xs ++ ys, s2, A5, ne + nv, k5, A4, n4, k4, by rw [htk]; exact hacc2, ⟨rfl, rfl, rfl, rfl, rfl, trivial⟩, rfl, rfl⟩
    ·
     have hnn : smN dir ⟨st.held ++ [c], st.skip⟩ = ([], ⟨st.held ++ [c], st.skip⟩) := by
      rcases hcall with h | ⟨f, h, _⟩
      · exact h.2
      · have z := h2
        rw [h] at z; cases z
     have hacc2 := hacc.taken (ys := []) hs c (by rw [hnn]; rfl)
     rw [hnn, List.append_nil] at hacc2
     refine GC_skip ?_
     show Weak _ _ _ _
     exact weak (T' := [msgsR xs, row 1 A2 m k2 (bytesV p)]) (.cons (.there (.there .here)) (.cons .here (.cons .here .nil))) sb ⟨xs, ⟨st.held ++ [c], st.skip⟩, Ae, ne, ke, A3, nh + 1, k3, by rw [htk]; exact hacc2, ⟨rfl, rfl, rfl, rfl, rfl, trivial⟩, rfl, rfl⟩
  ·
   rintro E S T ⟨S1, r1, T1, hS, hT, hM⟩
   refine GC_drop hS (GC_dropT hT ?_)
   clear hS hT
   revert hM
   rintro ⟨xs1, st1, Ae1, ne1, ke1, Ah1, nh1, kh1, hacc1, hE1, rfl, rfl⟩
   obtain ⟨E1, rfl⟩ := hE1.ex
   refine GC_region ?_
   refine GL_v rfl (rv_add (r := ((i + 1 : Nat) : Int)) vw vw (fun _ => by rw [IntWalk.i64_in _ (by omega)]; omega)) ?_
   refine GL_v rfl (rv_mv (v := .int .i64 _) vw) ?_
   refine GL_nil ?_
   exact ⟨i + 1, ⟨by omega, xs1, st1, Ae1, ne1, ke1, Ah1, nh1, kh1, hacc1, ⟨rfl, rfl, rfl, rfl, rfl, trivial⟩, rfl, rfl⟩, by omega⟩
 ·
  obtain rfl : i = m := by have := h0; simp at this; omega
  rw [List.take_of_length_le (by omega)] at hacc
  refine GC_shift (.cons .here .nil) own_toRow ?_
  refine GC_exit ?_
  refine GC_seq ?_
  refine GC_region ?_
  refine GL_v rfl (rv_mv (v := .slice _ _ _) vw) ?_
  refine GL_v rfl (rv_as (v := .slice _ _ _) vw) ?_
  refine GL_nil ?_
  refine GC_ret ?_
  exact fin1 (.inr rfl) rfl rfl (.cons .here (.cons .here .nil)) (T' := [row 25 Ae ne ke (evsV xs), msgsR xs]) sb ⟨Ae, ne, ke, xs, Ah, nh, kh, rfl, hacc.1, by rw [← hacc.2.1], rfl⟩
end Go.Bus
