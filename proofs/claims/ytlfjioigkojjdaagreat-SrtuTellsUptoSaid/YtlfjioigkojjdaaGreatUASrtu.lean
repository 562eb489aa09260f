/- Part of the proof: Srtu. No condition. -/
import Derived.Test.YtlfjioigkojjdaaGreatUAEvtW
import Derived.Test.YtlfjioigkojjdaaGreatUARtu
set_option linter.unusedVariables false
set_option linter.unusedSimpArgs false
set_option maxRecDepth 100000
set_option maxHeartbeats 8000000
namespace Go.Bus
open Go Go.Proofs
abbrev srB (B : Nat) (dir : Int) (A : Option Addr) (n k : Nat) (off : Bool) : Res := blk B [.int .i64 dir, .slice A n k, .bool off] 91
def SrOut (B : Nat) (dir : Int) (o : List EventD × Sr) (v : Value) (S' T' : List Res) : Prop := ∃ Av nv kv xs A n k, v = .slice Av nv kv ∧ xs.map EvX.d = o.1 ∧ S' = [srB B dir A n k o.2.off] ∧ T' = [row 25 Av nv kv (evsV xs), msgsR xs, row 1 A n k (bytesV o.2.held)]
theorem srNew0_ct (dir : Int) (hd : dir ≠ 0 ∧ dir ≠ 1) : CtD PG 29 [.int .i64 dir] [] [] (.pointer none) [] [] := by
 refine Ct_of Tryz.func29 rfl 12 rfl (Nat.le_of_ble_eq_true rfl) fun w0 M N => ?_
 refine GC_seq ?_
 refine GC_region ?_
 refine GL_v rfl (rv_as (v := .pointer _) vw) ?_
 refine GL_nil ?_
 refine GC_seq ?_
 refine GC_seq ?_
 refine GC_region ?_
 refine GL_v rfl (rv_mv (v := .int .i64 _) vw) ?_
 refine GL_v rfl (rv_neq vw vw) ?_
 refine GL_v rfl (rv_mv (v := .bool _) vw) ?_
 refine GL_g rfl rfl gvt (rv_mv (v := .int .i64 _) vw) ?_
 refine GL_g rfl rfl gvt (rv_neq vwg vw) ?_
 refine GL_v rfl (rv_and vw vwg) ?_
 refine GL_nil ?_
 refine GC_cond rfl (fun h0 => ?_) (fun h0 => ?_)
 ·
  refine GC_seq ?_
  refine GC_region ?_
  refine GL_v rfl (rv_as (v := .pointer _) vw) ?_
  refine GL_nil ?_
  refine GC_ret ?_
  exact fin1 (.inr rfl) rfl rfl .nil .nil ⟨rfl, rfl, rfl⟩
 ·
  exact absurd hd (by have := h0; simpa using this)
theorem srNew1_ct (dir : Int) (hd : ¬ (dir ≠ 0 ∧ dir ≠ 1)) : Ct PG 29 [.int .i64 dir] [] [] (fun v S' T' => ∃ B, v = .pointer (some ⟨B, 0, none⟩) ∧ S' = [srB B dir none 0 0 false] ∧ T' = []) := by
 refine Ct_of Tryz.func29 rfl 12 rfl (Nat.le_of_ble_eq_true rfl) fun w0 M N => ?_
 refine GC_seq ?_
 refine GC_region ?_
 refine GL_v rfl (rv_as (v := .pointer _) vw) ?_
 refine GL_nil ?_
 refine GC_seq ?_
 refine GC_seq ?_
 refine GC_region ?_
 refine GL_v rfl (rv_mv (v := .int .i64 _) vw) ?_
 refine GL_v rfl (rv_neq vw vw) ?_
 refine GL_v rfl (rv_mv (v := .bool _) vw) ?_
 refine GL_g rfl rfl gvt (rv_mv (v := .int .i64 _) vw) ?_
 refine GL_g rfl rfl gvt (rv_neq vwg vw) ?_
 refine GL_v rfl (rv_and vw vwg) ?_
 refine GL_nil ?_
 refine GC_cond rfl (fun h0 => ?_) (fun h0 => ?_)
 ·
  exact absurd (by have := h0; simpa using this) hd
 ·
  refine GC_skip ?_
  refine GC_seq ?_
  refine GC_region ?_
  refine GL_v rfl (rv_mv (v := .int .i64 _) vw) ?_
  refine GL_v rfl (rv_bld (z' := [.int .i64 _, .slice none 0 0, .bool false]) z91 l91 (fun _ => rfl)) ?_
  refine GL_boxA rfl rfl (fun b11 => ?_)
  refine GL_v rfl (rv_as (v := .pointer _) vw) ?_
  refine GL_nil ?_
  refine GC_ret ?_
  exact fin1 (.inr rfl) rfl rfl (.cons .here .nil) .nil ⟨_, rfl, rfl, rfl⟩
theorem srHeld_ct (B : Nat) (dir : Int) (off : Bool) (A : Option Addr) (n k : Nat) : CtD PG 33 [.pointer (some ⟨B, 0, none⟩)] [srB B dir A n k off] [] (.int .i64 n) [srB B dir A n k off] [] := by
 refine Ct_of Tryz.func33 rfl 8 rfl (Nat.le_of_ble_eq_true rfl) fun w0 M N => ?_
 refine GC_seq ?_
 refine GC_region ?_
 refine GL_v rfl (rv_as (v := .int .i64 _) vw) ?_
 refine GL_nil ?_
 refine GC_seq ?_
 refine GC_region ?_
 refine GL_v rfl (rv_mv (v := .pointer _) vw) ?_
 refine GL_v rfl (rv_nil vw) ?_
 refine GL_v rfl (rv_fa fa91_1 vw) ?_
 refine GL_v rfl (rv_ld Tryz.underlying22 rfl vw) ?_
 refine GL_v rfl (rv_len el22 vw) ?_
 refine GL_v rfl (rv_as (v := .int .i64 _) vw) ?_
 refine GL_nil ?_
 refine GC_ret ?_
 exact fin1 (.inr rfl) rfl rfl (.cons .here .nil) .nil ⟨rfl, rfl, rfl⟩
theorem srFeed_ct (B : Nat) (dir : Int) (off : Bool) (A A2 : Option Addr) (n k m k2 : Nat) (held p : List UInt8) (hh : n ≤ 256) (hm : m ≤ 35184372088832) : Ct PG 32 [.pointer (some ⟨B, 0, none⟩), .slice A2 m k2] [srB B dir A n k off] [row 1 A n k (bytesV held), row 1 A2 m k2 (bytesV p)] (SrOut B dir (srFeed ⟨held, off⟩ p)) := by
 refine Ct_of Tryz.func32 rfl 53 rfl (Nat.le_of_ble_eq_true rfl) fun w0 M N => ?_
 refine GC_row A fun hr1 => ?_
 refine GC_row A2 fun hr2 => ?_
 have hl1 : held.length = n := by have := hr1.1; simpa [bytesV] using this
 have hl2 : p.length = m := by have := hr2.1; simpa [bytesV] using this
 obtain ⟨pp, hpp⟩ : ∃ pp, srFeed ⟨held, off⟩ p = pp := ⟨_, rfl⟩
 rw [hpp]
 simp only [srFeed] at hpp
 obtain ⟨j, hj⟩ : ∃ j, j = min m (256 - n) := ⟨_, rfl⟩
 refine GC_seq ?_
 refine GC_region ?_
 refine GL_v rfl (rv_as (v := .slice _ _ _) vw) ?_
 refine GL_nil ?_
 refine GC_seq ?_
 refine GC_seq ?_
 refine GC_region ?_
 refine GL_v rfl (rv_mv (v := .pointer _) vw) ?_
 refine GL_v rfl (rv_nil vw) ?_
 refine GL_v rfl (rv_fa fa91_2 vw) ?_
 refine GL_v rfl (rv_ld Tryz.underlying4 rfl vw) ?_
 refine GL_nil ?_
 refine GC_cond rfl (fun h0 => ?_) (fun h0 => ?_)
 ·
  have ho : off = true := h0
  subst ho
  rw [if_pos rfl] at hpp
  obtain rfl := hpp
  refine GC_seq ?_
  refine GC_region ?_
  refine GL_v rfl (rv_as (v := .slice _ _ _) vw) ?_
  refine GL_nil ?_
  refine GC_shift .nil msgs_nil ?_
  refine GC_shift .nil (nil_row (sz := 25)) ?_
  refine GC_ret ?_
  exact fin1 (.inr rfl) rfl rfl (.cons .here .nil) (T' := [row 25 none 0 0 [], msgsR [], row 1 A n k (bytesV held)]) sb ⟨none, 0, 0, [], A, n, k, rfl, rfl, rfl, rfl⟩
 ·
  have ho : off = false := h0
  subst ho
  rw [if_neg (by simp)] at hpp
  refine GC_skip ?_
  refine GC_seq ?_
  refine GC_region ?_
  refine GL_v rfl (rv_mv (v := .slice _ _ _) vw) ?_
  refine GL_v rfl (rv_len el22 vw) ?_
  refine GL_v rfl (rv_mv (v := .pointer _) vw) ?_
  refine GL_v rfl (rv_nil vw) ?_
  refine GL_v rfl (rv_fa fa91_1 vw) ?_
  refine GL_v rfl (rv_ld Tryz.underlying22 rfl vw) ?_
  refine GL_v rfl (rv_len el22 vw) ?_
  refine GL_v rfl (rv_sub (r := 256 - (n : Int)) vw vw (fun _ => IntWalk.i64_in _ (by omega))) ?_
  refine GL_v rfl (rv_min vw vw) ?_
  rw [show (if (256 - (n : Int)) < (m : Int) then (256 - (n : Int)) else (m : Int)) = (j : Int) by rw [hj]; split <;> omega]
  refine GL_v rfl (rv_as (v := .int .i64 _) vw) ?_
  refine GL_nil ?_
  refine GC_shift .nil (row_take (h := j) (by simp : row 1 A2 m k2 (bytesV p) ∈ _) (by omega) (by decide)) ?_
  have e1 : (bytesV p).take (j * 1) = bytesV (p.take j) := by simp [bytesV, List.map_take]
  rw [e1]
  refine GC_seq ?_
  refine GC_draw 20 ([srB B dir A n k false, row 1 A n k (bytesV held)]) mixed ?_
  refine GA_v (i := 0) rfl rfl rfl (by kernel_rfl) (rv_mv (v := .pointer _) vw) ?_
  refine GA_v (i := 1) rfl rfl rfl (by kernel_rfl) (rv_mv (v := .pointer _) vw) ?_
  refine GA_v (i := 2) rfl rfl rfl (by kernel_rfl) (rv_nil vw) ?_
  refine GA_v (i := 3) rfl rfl rfl (by kernel_rfl) (rv_fa fa91_1 vw) ?_
  refine GA_v (i := 4) rfl rfl rfl (by kernel_rfl) (rv_ld Tryz.underlying22 rfl vw) ?_
  refine GA_v (i := 5) rfl rfl rfl (by kernel_rfl) (rv_mv (v := .pointer _) vw) ?_
  refine GA_v (i := 6) rfl rfl rfl (by kernel_rfl) (rv_nil vw) ?_
  refine GA_v (i := 7) rfl rfl rfl (by kernel_rfl) (rv_fa fa91_1 vw) ?_
  refine GA_v (i := 8) rfl rfl rfl (by kernel_rfl) (rv_ld Tryz.underlying22 rfl vw) ?_
  refine GA_v (i := 9) rfl rfl rfl (by kernel_rfl) (rv_len el22 vw) ?_
  refine GA_v (i := 10) rfl rfl rfl (by kernel_rfl) (rv_mv (v := .pointer _) vw) ?_
  refine GA_v (i := 11) rfl rfl rfl (by kernel_rfl) (rv_nil vw) ?_
  refine GA_v (i := 12) rfl rfl rfl (by kernel_rfl) (rv_fa fa91_1 vw) ?_
  refine GA_v (i := 13) rfl rfl rfl (by kernel_rfl) (rv_ld Tryz.underlying22 rfl vw) ?_
  refine GA_v (i := 14) rfl rfl rfl (by kernel_rfl) (rv_len el22 vw) ?_
  refine GA_v (i := 15) rfl rfl rfl (by kernel_rfl) (rv_slM (h := n) (m := n) el22 vw vw vw (fun _ => rfl) (fun _ => rfl) (fun _ => ⟨Nat.le_refl _, hr1.2.1⟩)) ?_
  refine GA_v (i := 16) rfl rfl rfl (by kernel_rfl) (rv_mv (v := .slice _ _ _) vw) ?_
  refine GA_v (i := 17) rfl rfl rfl (by kernel_rfl) (rv_mv (v := .int .i64 _) vw) ?_
  refine GA_v (i := 18) rfl rfl rfl (by kernel_rfl) (rv_slH (h := j) el22 vw vw (fun _ => rfl) (fun _ => by have := hr2.2.1; omega)) ?_
  refine GA_one 19 rfl rfl (by kernel_rfl) ?_
  refine GL_appC (m := j) rfl el22 rfl rfl (List.mem_cons_of_mem _ (List.mem_cons_self ..)) (by rw [bytesV_length]; simp; omega) (by omega) (by simp [maxLen]; omega) (fun A3 k3 => ?_)
  rw [← bytesV_append]
  refine GL_nil ⟨inferInstance, ?_⟩
  refine GA_free (by kernel_rfl) ?_
  refine GA_w (i := 20) rfl rfl rfl (by kernel_rfl) (rv_nil vw) ?_
  refine GA_w (i := 21) rfl rfl rfl (by kernel_rfl) (rv_fa fa91_1 vw) ?_
  refine GA_last 22 rfl (by kernel_rfl) ?_
  refine GL_st (u := .slice _ _ _) rfl rfl c22 rfl ?_
  refine GL_nil ?_
  refine GA_nil (by kernel_rfl) ?_
  refine GC_seq ?_
  refine GC_seq ?_
  refine GC_region ?_
  refine GL_v rfl (rv_mv (v := .int .i64 _) vw) ?_
  refine GL_v rfl (rv_mv (v := .slice _ _ _) vw) ?_
  refine GL_v rfl (rv_len el22 vw) ?_
  refine GL_v rfl (rv_eql vw vw) ?_
  refine GL_nil ?_
  refine GC_cond rfl (fun h1 => ?_) (fun h1 => ?_)
  ·
   have hjm : j = m := by have := h1; simp at this; omega
   rw [if_pos (by omega)] at hpp
   obtain rfl := hpp
   rw [List.take_of_length_le (by omega)]
   refine GC_seq ?_
   refine GC_region ?_
   refine GL_v rfl (rv_as (v := .slice _ _ _) vw) ?_
   refine GL_nil ?_
   refine GC_shift .nil msgs_nil ?_
   refine GC_shift .nil (nil_row (sz := 25)) ?_
   refine GC_ret ?_
   exact fin1 (.inr rfl) rfl rfl (.cons .here .nil) (T' := [row 25 none 0 0 [], msgsR [], row 1 A3 (n + j) k3 (bytesV (held ++ p))]) sb ⟨none, 0, 0, [], A3, n + j, k3, rfl, rfl, rfl, rfl⟩
  ·
   have hjm : j ≠ m := by have := h1; simp at this; omega
   rw [if_neg (by omega)] at hpp
   obtain rfl := hpp
   refine GC_skip ?_
   refine GC_seq ?_
   refine GC_region ?_
   refine GL_v rfl (rv_mv (v := .pointer _) vw) ?_
   refine GL_v rfl (rv_mv (v := .pointer _) vw) ?_
   refine GL_v rfl (rv_nil vw) ?_
   refine GL_v rfl (rv_fa fa91_1 vw) ?_
   refine GL_st (u := .slice _ _ _) rfl rfl c22 rfl ?_
   refine GL_v rfl (rv_nil vw) ?_
   refine GL_v rfl (rv_fa fa91_2 vw) ?_
   refine GL_st (u := .bool _) rfl rfl c4 rfl ?_
   refine GL_nil ?_
   refine GC_seq ?_
   refine GC_region ?_
   refine GL_v rfl (rv_bld (z' := EvX.cells ⟨3, 0, 0, { m := {} }⟩) z89 l89 (fun _ => ev_fill0 rfl)) ?_
   refine GL_bs (l := evsV [⟨3, 0, 0, { m := {} }⟩]) rfl el53 z89 rfl rfl (evs_bs rfl rfl) (fun b52 => ?_)
   refine GL_shift (.cons .here .nil) (blk_own (n := 1) (sz := 25) rfl (by decide)) ?_
   refine GL_shift (.cons .here .nil) own_toRow ?_
   refine GL_shift .nil (msg0 {}) ?_
   refine GL_shift .nil (msgs_one (y := ⟨3, 0, 0, { m := {} }⟩) (List.mem_cons_self ..)) ?_
   refine GL_shift .nil (nil_row (sz := 1)) ?_
   refine GL_v rfl (rv_as (v := .slice _ _ _) vw) ?_
   refine GL_nil ?_
   refine GC_ret ?_
   exact fin1 (.inr rfl) rfl rfl (.cons .here .nil) (T' := [row 25 (some ⟨b52, 0, none⟩) 1 1 (evsV [⟨3, 0, 0, { m := {} }⟩]), msgsR [⟨3, 0, 0, { m := {} }⟩], row 1 none 0 0 []]) sb ⟨_, 1, 1, [⟨3, 0, 0, { m := {} }⟩], none, 0, 0, rfl, rfl, rfl, rfl⟩
theorem srTick_ct (B : Nat) (dir : Int) (off : Bool) (A : Option Addr) (n k : Nat) (held : List UInt8) (hn : n ≤ 35184372088832) : Ct PG 34 [.pointer (some ⟨B, 0, none⟩)] [srB B dir A n k off] [row 1 A n k (bytesV held)] (SrOut B dir (srTick dir ⟨held, off⟩)) := by
 refine Ct_of Tryz.func34 rfl 32 rfl (Nat.le_of_ble_eq_true rfl) fun w0 M N => ?_
 refine GC_row A fun hr1 => ?_
 have hl1 : held.length = n := by have := hr1.1; simpa [bytesV] using this
 refine GC_shift .nil (nil_row (sz := 1)) ?_
 refine GC_seq ?_
 refine GC_region ?_
 refine GL_v rfl (rv_as (v := .slice _ _ _) vw) ?_
 refine GL_nil ?_
 refine GC_seq ?_
 refine GC_region ?_
 refine GL_v rfl (rv_mv (v := .pointer _) vw) ?_
 refine GL_v rfl (rv_nil vw) ?_
 refine GL_v rfl (rv_fa fa91_1 vw) ?_
 refine GL_v rfl (rv_ld Tryz.underlying22 rfl vw) ?_
 refine GL_v rfl (rv_as (v := .slice _ _ _) vw) ?_
 refine GL_nil ?_
 refine GC_seq ?_
 refine GC_region ?_
 refine GL_v rfl (rv_mv (v := .pointer _) vw) ?_
 refine GL_v rfl (rv_mv (v := .pointer _) vw) ?_
 refine GL_v rfl (rv_nil vw) ?_
 refine GL_v rfl (rv_fa fa91_1 vw) ?_
 refine GL_st (u := .slice _ _ _) rfl rfl c22 rfl ?_
 refine GL_v rfl (rv_nil vw) ?_
 refine GL_v rfl (rv_fa fa91_2 vw) ?_
 refine GL_st (u := .bool _) rfl rfl c4 rfl ?_
 refine GL_nil ?_
 refine GC_seq ?_
 refine GC_seq ?_
 refine GC_region ?_
 refine GL_v rfl (rv_mv (v := .slice _ _ _) vw) ?_
 refine GL_v rfl (rv_len el22 vw) ?_
 refine GL_v rfl (rv_eql vw vw) ?_
 refine GL_nil ?_
 refine GC_cond rfl (fun h0 => ?_) (fun h0 => ?_)
 ·
  have h0 : held = [] := by have q := h0; simp at q; exact List.eq_nil_of_length_eq_zero (by omega)
  subst h0
  refine GC_seq ?_
  refine GC_region ?_
  refine GL_v rfl (rv_as (v := .slice _ _ _) vw) ?_
  refine GL_nil ?_
  refine GC_shift .nil msgs_nil ?_
  refine GC_shift .nil (nil_row (sz := 25)) ?_
  refine GC_ret ?_
  exact fin1 (.inr rfl) rfl rfl (.cons .here .nil) (T' := [row 25 none 0 0 [], msgsR [], row 1 none 0 0 []]) sb ⟨none, 0, 0, [], none, 0, 0, rfl, rfl, rfl, rfl⟩
 ·
  have h0 : held ≠ [] := by have q := h0; simp at q; intro z; rw [z] at hl1; simp at hl1; omega
  refine GC_skip ?_
  refine GC_seq ?_
  refine GC_region ?_
  refine GL_v rfl (rv_mv (v := .pointer _) vw) ?_
  refine GL_v rfl (rv_nil vw) ?_
  refine GL_v rfl (rv_fa fa91_0 vw) ?_
  refine GL_v rfl (rv_ld Tryz.underlying3 rfl vw) ?_
  refine GL_v rfl (rv_mv (v := .slice _ _ _) vw) ?_
  refine GL_call rfl cb41 (P15_ct dir A n k held hn) rfl .nil sb ?_
  rintro _ _ _ ⟨u, t, x, rfl, hx, rfl, rfl⟩
  simp only [List.cons_append, List.nil_append]
  obtain ⟨fd, e, hP⟩ : ∃ m e, P15 dir held = (m, e) := ⟨_, _, rfl⟩
  rw [hP] at hx ⊢
  simp only at hx ⊢
  refine GL_v rfl (rv_mv (v := .tuple [.agg (frCells u t x).toArray, .int .i64 e].toArray) vw) ?_
  refine GL_v rfl (rv_ext vw rfl) ?_
  refine GL_v rfl (rv_ext vw rfl) ?_
  refine GL_alloc rfl z44 (fun b4 => ?_)
  refine GL_stA (l' := frCells u t x) rfl rfl c44 (frCells_one _ _ _) (by rfl) ?_
  refine GL_v rfl (rv_as (v := .int .i64 _) vw) ?_
  refine GL_nil ?_
  refine GC_seq ?_
  refine GC_region ?_
  refine GL_v rfl (rv_mv (v := .int .i64 _) vw) ?_
  refine GL_v rfl (rv_ldA (l := frCells u t x) a44 vw rfl) ?_
  refine GL_v rfl (rv_bld (z' := EvX.cells ⟨e, u, t, x⟩) z89 l89 (fun _ => ev_fill rfl rfl rfl)) ?_
  refine GL_bs (l := evsV [⟨e, u, t, x⟩]) rfl el53 z89 rfl rfl (evs_bs rfl rfl) (fun b30 => ?_)
  refine GL_shift (.cons .here .nil) (blk_own (n := 1) (sz := 25) rfl (by decide)) ?_
  refine GL_shift (.cons .here .nil) own_toRow ?_
  refine GL_shift .nil (msgs_one (y := ⟨e, u, t, x⟩) (List.mem_cons_of_mem _ (List.mem_cons_self ..))) ?_
  refine GL_v rfl (rv_as (v := .slice _ _ _) vw) ?_
  refine GL_nil ?_
  refine GC_ret ?_
  exact fin1 (.inr rfl) rfl rfl (.cons (.there .here) .nil) (T' := [row 25 (some ⟨b30, 0, none⟩) 1 1 (evsV [⟨e, u, t, x⟩]), msgsR [⟨e, u, t, x⟩], row 1 none 0 0 []]) sb ⟨_, 1, 1, [⟨e, u, t, x⟩], none, 0, 0, rfl, by simp only [srTick, if_neg h0, hP, evOf, EvX.d, List.map_cons, List.map_nil, ← hx], rfl, rfl⟩
theorem rOf19_ct (dir : Int) (A : Option Addr) (n k : Nat) (b : List UInt8) (q : Bool) (hn : n ≤ 35184372088832) : Ct PG 30 [.int .i64 dir, .slice A n k, .bool q] [] [row 1 A n k (bytesV b)] (EvOut (of19 dir b q)) := by
 refine Ct_of Tryz.func30 rfl 31 rfl (Nat.le_of_ble_eq_true rfl) fun w0 M N => ?_
 refine GC_row A fun hr1 => ?_
 have hl1 : b.length = n := by have := hr1.1; simpa [bytesV] using this
 obtain ⟨pp, hpp⟩ : ∃ pp, of19 dir b q = pp := ⟨_, rfl⟩
 rw [hpp]
 simp only [of19] at hpp
 refine GC_seq ?_
 refine GC_region ?_
 refine GL_v rfl (rv_as (v := .slice _ _ _) vw) ?_
 refine GL_nil ?_
 refine GC_seq ?_
 refine GC_seq ?_
 refine GC_region ?_
 refine GL_v rfl (rv_mv (v := .slice _ _ _) vw) ?_
 refine GL_v rfl (rv_len el22 vw) ?_
 refine GL_v rfl (rv_gtr vw vw) ?_
 refine GL_nil ?_
 refine GC_cond rfl (fun h0 => ?_) (fun h0 => ?_)
 ·
  have g : 256 < b.length := by have := h0; simp at this; omega
  rw [if_pos g] at hpp
  obtain rfl := hpp
  refine GC_seq ?_
  refine GC_region ?_
  refine GL_v rfl (rv_bld (z' := EvX.cells ⟨3, 0, 0, { m := {} }⟩) z89 l89 (fun _ => ev_fill0 rfl)) ?_
  refine GL_bs (l := evsV [⟨3, 0, 0, { m := {} }⟩]) rfl el53 z89 rfl rfl (evs_bs rfl rfl) (fun b52 => ?_)
  refine GL_shift (.cons .here .nil) (blk_own (n := 1) (sz := 25) rfl (by decide)) ?_
  refine GL_shift (.cons .here .nil) own_toRow ?_
  refine GL_shift .nil (msg0 {}) ?_
  refine GL_shift .nil (msgs_one (y := ⟨3, 0, 0, { m := {} }⟩) (List.mem_cons_self ..)) ?_
  refine GL_v rfl (rv_as (v := .slice _ _ _) vw) ?_
  refine GL_nil ?_
  refine GC_ret ?_
  exact fin1 (.inr rfl) rfl rfl .nil (T' := [row 25 (some ⟨b52, 0, none⟩) 1 1 (evsV [⟨3, 0, 0, { m := {} }⟩]), msgsR [⟨3, 0, 0, { m := {} }⟩]]) sb ⟨_, 1, 1, [⟨3, 0, 0, { m := {} }⟩], rfl, rfl, rfl, rfl⟩
 ·
  have g : ¬ 256 < b.length := by have := h0; simp at this; omega
  rw [if_neg g] at hpp
  refine GC_skip ?_
  refine GC_seq ?_
  refine GC_seq ?_
  refine GC_region ?_
  refine GL_v rfl (rv_mv (v := .slice _ _ _) vw) ?_
  refine GL_v rfl (rv_len el22 vw) ?_
  refine GL_v rfl (rv_eql vw vw) ?_
  refine GL_v rfl (rv_mv (v := .bool _) vw) ?_
  refine GL_g rfl rfl gvf (rv_mv (v := .bool _) vw) ?_
  refine GL_g rfl rfl gvf (rv_not vwg) ?_
  refine GL_v rfl (rv_or vw vwg) ?_
  refine GL_nil ?_
  refine GC_cond rfl (fun h1 => ?_) (fun h1 => ?_)
  ·
   have g2 : b = [] ∨ q = false := by
    have z := h1
    simp at z
    rcases z with z | z
    · exact .inl (List.eq_nil_of_length_eq_zero (by omega))
    · exact .inr z
   rw [if_pos g2] at hpp
   obtain rfl := hpp
   refine GC_seq ?_
   refine GC_region ?_
   refine GL_v rfl (rv_as (v := .slice _ _ _) vw) ?_
   refine GL_nil ?_
   refine GC_shift .nil msgs_nil ?_
   refine GC_shift .nil (nil_row (sz := 25)) ?_
   refine GC_ret ?_
   exact fin1 (.inr rfl) rfl rfl .nil (T' := [row 25 none 0 0 [], msgsR []]) sb ⟨none, 0, 0, [], rfl, rfl, rfl, rfl⟩
  ·
   have g2 : ¬ (b = [] ∨ q = false) := by
    have z := h1
    simp at z
    rintro (y | y)
    · rw [y] at hl1; simp at hl1; omega
    · rw [y] at z; simp at z
   rw [if_neg g2] at hpp
   refine GC_skip ?_
   refine GC_seq ?_
   refine GC_region ?_
   refine GL_v rfl (rv_mv (v := .int .i64 _) vw) ?_
   refine GL_v rfl (rv_mv (v := .slice _ _ _) vw) ?_
   refine GL_call rfl cb42 (rP15_ct dir A n k b hn) rfl .nil sb ?_
   rintro _ _ _ ⟨u, t, x, rfl, hx, rfl, rfl⟩
   simp only [List.cons_append, List.nil_append]
   obtain ⟨fd, e, hP⟩ : ∃ m e, P15 dir b = (m, e) := ⟨_, _, rfl⟩
   rw [hP] at hx hpp ⊢
   simp only at hx ⊢
   refine GL_v rfl (rv_mv (v := .tuple [.agg (frCells u t x).toArray, .int .i64 e].toArray) vw) ?_
   refine GL_v rfl (rv_ext vw rfl) ?_
   refine GL_v rfl (rv_ext vw rfl) ?_
   refine GL_alloc rfl z44 (fun b7 => ?_)
   refine GL_stA (l' := frCells u t x) rfl rfl c44 (frCells_one _ _ _) (by rfl) ?_
   refine GL_v rfl (rv_as (v := .int .i64 _) vw) ?_
   refine GL_nil ?_
   refine GC_seq ?_
   refine GC_region ?_
   refine GL_v rfl (rv_mv (v := .int .i64 _) vw) ?_
   refine GL_v rfl (rv_ldA (l := frCells u t x) a44 vw rfl) ?_
   refine GL_v rfl (rv_bld (z' := EvX.cells ⟨e, u, t, x⟩) z89 l89 (fun _ => ev_fill rfl rfl rfl)) ?_
   refine GL_bs (l := evsV [⟨e, u, t, x⟩]) rfl el53 z89 rfl rfl (evs_bs rfl rfl) (fun b30 => ?_)
   refine GL_shift (.cons .here .nil) (blk_own (n := 1) (sz := 25) rfl (by decide)) ?_
   refine GL_shift (.cons .here .nil) own_toRow ?_
   refine GL_shift .nil (msgs_one (y := ⟨e, u, t, x⟩) (List.mem_cons_of_mem _ (List.mem_cons_self ..))) ?_
   refine GL_v rfl (rv_as (v := .slice _ _ _) vw) ?_
   refine GL_nil ?_
   refine GC_ret ?_
   exact fin1 (.inr rfl) rfl rfl .nil (T' := [row 25 (some ⟨b30, 0, none⟩) 1 1 (evsV [⟨e, u, t, x⟩]), msgsR [⟨e, u, t, x⟩]]) sb ⟨_, 1, 1, [⟨e, u, t, x⟩], rfl, by rw [← hpp]; simp only [evOf, EvX.d, List.map_cons, List.map_nil, ← hx], rfl, rfl⟩
end Go.Bus
