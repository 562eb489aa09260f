/- Part of the proof: Coils. No condition. -/
import Derived.Test.YtlfjioigkojjdaaGreatUBCurk
set_option linter.unusedVariables false
set_option linter.unusedSimpArgs false
set_option maxRecDepth 100000
set_option maxHeartbeats 4000000
namespace Go.Bus
open Go Go.Proofs
abbrev mub (B : Nat) (x : MsgX) : Res := blk B x.cells 30
def FormOut (B B2 : Nat) (p : MsgD × Cu) (v : Value) (S' T' : List Res) : Prop := ∃ x r1 s1 e1 A1 n1 k1, p = (x.m, ⟨r1, s1, e1⟩) ∧ n1 ≤ 35184372088832 ∧ v = .tuple #[] ∧ S' = [cub B A1 n1 k1 s1 e1, mub B2 x] ∧ T' = [row 1 A1 n1 k1 (bytesV r1), msgR x]
theorem span_ct (B B2 n k : Nat) (A : Option Addr) (r : List UInt8) (s : Bool) (e : Int) (code : UInt8) (most : Int) (hn : n ≤ 35184372088832) : Ct PG 190 [.agg [.pointer (some ⟨B, 0, none⟩), .pointer (some ⟨B2, 0, none⟩)].toArray, .int .u16 most] [cub B A n k s e, mub B2 { m := { code := code } }] [row 1 A n k (bytesV r)]
 (fun v S' T' => ∃ a j r1 s1 e1 A1 n1 k1, spanC most ⟨r, s, e⟩ = (a, j, ⟨r1, s1, e1⟩) ∧ n1 ≤ 35184372088832 ∧ v = .tuple #[] ∧ S' = [cub B A1 n1 k1 s1 e1, mub B2 { m := { code := code, addr := a, count := j } }] ∧ T' = [row 1 A1 n1 k1 (bytesV r1)]) := by
 refine Ct_of Tryz.func190 rfl 51 rfl (Nat.le_of_ble_eq_true rfl) fun w0 M N => ?_
 have e0 : MsgX.cells { m := { code := code } } = [b8 code, .int .u8 0, .int .u16 0, .int .u16 0, .int .u16 0, .int .u16 0, .int .u16 0, .int .u16 0, .int .u16 0, .int .u16 0, .int .u16 0, .int .u16 0, .slice none 0 0, .slice none 0 0, .slice none 0 0, .slice none 0 0, .int .u8 0, .int .u8 0, .int .u8 0, .int .u8 0, .int .u8 0, .slice none 0 0] := rfl
 unfold mub; rw [e0]
 refine GC_seq ?_
 refine GC_region ?_
 refine GL_boxA rfl rfl (fun b2 => ?_)
 refine GL_nil ?_
 refine GC_seq ?_
 refine GC_draw 8 ([blk b2 [.pointer (some ⟨B, 0, none⟩), .pointer (some ⟨B2, 0, none⟩)] 149]) mixed ?_
 refine GA_v (i := 0) rfl rfl rfl (by kernel_rfl) (rv_fa fa149_1 vw) ?_
 refine GA_v (i := 1) rfl rfl rfl (by kernel_rfl) (rv_ld Tryz.underlying115 rfl vw) ?_
 refine GA_v (i := 2) rfl rfl rfl (by kernel_rfl) (rv_fa fa149_0 vw) ?_
 refine GA_v (i := 3) rfl rfl rfl (by kernel_rfl) (rv_ld Tryz.underlying80 rfl vw) ?_
 refine GA_one 4 rfl rfl (by kernel_rfl) ?_
 refine GL_call rfl cb73 (Word_k B n k A r s e hn) rfl pB sR ?_
 rintro _ _ _ ⟨a, r1, s1, e1, A1, n1, k1, hc1, hn1, rfl, rfl, rfl⟩
 simp only [List.cons_append, List.nil_append]
 refine GL_nil ⟨inferInstance, ?_⟩
 refine GA_v (i := 5) rfl rfl rfl (by kernel_rfl) (rv_nil vw) ?_
 refine GA_v (i := 6) rfl rfl rfl (by kernel_rfl) (rv_fa fa30_2 vw) ?_
 refine GA_one 7 rfl rfl (by kernel_rfl) ?_
 refine GL_st (u := w16 a) rfl rfl c24 rfl ?_
 refine GL_nil ⟨inferInstance, ?_⟩
 refine GA_nil (by kernel_rfl) ?_
 refine GC_seq ?_
 refine GC_draw 8 ([blk b2 [.pointer (some ⟨B, 0, none⟩), .pointer (some ⟨B2, 0, none⟩)] 149]) mixed ?_
 refine GA_v (i := 0) rfl rfl rfl (by kernel_rfl) (rv_fa fa149_1 vw) ?_
 refine GA_v (i := 1) rfl rfl rfl (by kernel_rfl) (rv_ld Tryz.underlying115 rfl vw) ?_
 refine GA_v (i := 2) rfl rfl rfl (by kernel_rfl) (rv_fa fa149_0 vw) ?_
 refine GA_v (i := 3) rfl rfl rfl (by kernel_rfl) (rv_ld Tryz.underlying80 rfl vw) ?_
 refine GA_one 4 rfl rfl (by kernel_rfl) ?_
 refine GL_call rfl cb73 (Word_k B n1 k1 A1 r1 s1 e1 hn1) rfl pB sR ?_
 rintro _ _ _ ⟨j, r2, s2, e2, A2, n2, k2, hc2, hn2, rfl, rfl, rfl⟩
 simp only [List.cons_append, List.nil_append]
 refine GL_nil ⟨inferInstance, ?_⟩
 refine GA_v (i := 5) rfl rfl rfl (by kernel_rfl) (rv_nil vw) ?_
 refine GA_v (i := 6) rfl rfl rfl (by kernel_rfl) (rv_fa fa30_3 vw) ?_
 refine GA_one 7 rfl rfl (by kernel_rfl) ?_
 refine GL_st (u := w16 j) rfl rfl c24 rfl ?_
 refine GL_nil ⟨inferInstance, ?_⟩
 refine GA_nil (by kernel_rfl) ?_
 refine GC_seq ?_
 refine GC_draw 18 ([blk b2 [.pointer (some ⟨B, 0, none⟩), .pointer (some ⟨B2, 0, none⟩)] 149, blk B2 [b8 code, .int .u8 0, w16 a, w16 j, .int .u16 0, .int .u16 0, .int .u16 0, .int .u16 0, .int .u16 0, .int .u16 0, .int .u16 0, .int .u16 0, .slice none 0 0, .slice none 0 0, .slice none 0 0, .slice none 0 0, .int .u8 0, .int .u8 0, .int .u8 0, .int .u8 0, .int .u8 0, .slice none 0 0] 30]) mixed ?_
 refine GA_v (i := 0) rfl rfl rfl (by kernel_rfl) (rv_fa fa149_0 vw) ?_
 refine GA_v (i := 1) rfl rfl rfl (by kernel_rfl) (rv_ld Tryz.underlying80 rfl vw) ?_
 refine GA_v (i := 2) rfl rfl rfl (by kernel_rfl) (rv_fa fa149_1 vw) ?_
 refine GA_v (i := 3) rfl rfl rfl (by kernel_rfl) (rv_ld Tryz.underlying115 rfl vw) ?_
 refine GA_v (i := 4) rfl rfl rfl (by kernel_rfl) (rv_nil vw) ?_
 refine GA_v (i := 5) rfl rfl rfl (by kernel_rfl) (rv_fa fa30_3 vw) ?_
 refine GA_v (i := 6) rfl rfl rfl (by kernel_rfl) (rv_ld Tryz.underlying24 rfl vw) ?_
 refine GA_v (i := 7) rfl rfl rfl (by kernel_rfl) (rv_geq vw vw) ?_
 refine GA_v (i := 8) rfl rfl rfl (by kernel_rfl) (rv_mv (v := .bool _) vw) ?_
 refine GA_g (i := 9) rfl rfl rfl (by kernel_rfl) rfl gvt (rv_fa fa149_1 vw) ?_
 refine GA_g (i := 10) rfl rfl rfl (by kernel_rfl) rfl gvt (rv_ld Tryz.underlying115 rfl vwg) ?_
 refine GA_g (i := 11) rfl rfl rfl (by kernel_rfl) rfl gvt (rv_nil vwg) ?_
 refine GA_g (i := 12) rfl rfl rfl (by kernel_rfl) rfl gvt (rv_fa fa30_3 vwg) ?_
 refine GA_g (i := 13) rfl rfl rfl (by kernel_rfl) rfl gvt (rv_ld Tryz.underlying24 rfl vwg) ?_
 refine GA_g (i := 14) rfl rfl rfl (by kernel_rfl) rfl gvt (rv_mv (v := .int .u16 _) vw) ?_
 refine GA_g (i := 15) rfl rfl rfl (by kernel_rfl) rfl gvt (rv_leq vwg vwg) ?_
 refine GA_v (i := 16) rfl rfl rfl (by kernel_rfl) (rv_and vw vwg) ?_
 refine GA_one 17 rfl rfl (by kernel_rfl) ?_
 refine GL_call rfl cb133 (Need_k B n2 k2 A2 r2 s2 e2 (decide ((1 : Int) ≤ j.toNat) && decide ((j.toNat : Int) ≤ most)) 5) rfl pB .nil ?_
 rintro _ _ _ ⟨e3, hc3, rfl, rfl, rfl⟩
 simp only [List.cons_append, List.nil_append]
 refine GL_nil ⟨inferInstance, ?_⟩
 refine GA_nil (by kernel_rfl) ?_
 refine GC_draw 15 ([blk b2 [.pointer (some ⟨B, 0, none⟩), .pointer (some ⟨B2, 0, none⟩)] 149, blk B2 [b8 code, .int .u8 0, w16 a, w16 j, .int .u16 0, .int .u16 0, .int .u16 0, .int .u16 0, .int .u16 0, .int .u16 0, .int .u16 0, .int .u16 0, .slice none 0 0, .slice none 0 0, .slice none 0 0, .slice none 0 0, .int .u8 0, .int .u8 0, .int .u8 0, .int .u8 0, .int .u8 0, .slice none 0 0] 30]) mixed ?_
 refine GA_v (i := 0) rfl rfl rfl (by kernel_rfl) (rv_fa fa149_0 vw) ?_
 refine GA_v (i := 1) rfl rfl rfl (by kernel_rfl) (rv_ld Tryz.underlying80 rfl vw) ?_
 refine GA_v (i := 2) rfl rfl rfl (by kernel_rfl) (rv_fa fa149_1 vw) ?_
 refine GA_v (i := 3) rfl rfl rfl (by kernel_rfl) (rv_ld Tryz.underlying115 rfl vw) ?_
 refine GA_v (i := 4) rfl rfl rfl (by kernel_rfl) (rv_nil vw) ?_
 refine GA_v (i := 5) rfl rfl rfl (by kernel_rfl) (rv_fa fa30_2 vw) ?_
 refine GA_v (i := 6) rfl rfl rfl (by kernel_rfl) (rv_ld Tryz.underlying24 rfl vw) ?_
 refine GA_v (i := 7) rfl rfl rfl (by kernel_rfl) (rv_fa fa149_1 vw) ?_
 refine GA_v (i := 8) rfl rfl rfl (by kernel_rfl) (rv_ld Tryz.underlying115 rfl vw) ?_
 refine GA_v (i := 9) rfl rfl rfl (by kernel_rfl) (rv_nil vw) ?_
 refine GA_v (i := 10) rfl rfl rfl (by kernel_rfl) (rv_fa fa30_3 vw) ?_
 refine GA_v (i := 11) rfl rfl rfl (by kernel_rfl) (rv_ld Tryz.underlying24 rfl vw) ?_
 refine GA_v (i := 12) rfl rfl rfl (by kernel_rfl) (rv_cnv (r := (j.toNat : Int)) Tryz.underlying24 Tryz.underlying3 vw (fun _ => IntWalk.i64_in _ (by have := j.toNat_lt; omega))) ?_
 refine GA_one 13 rfl rfl (by kernel_rfl) ?_
 refine GL_callD rfl cb220 (Within_ct a j.toNat) rfl .nil .nil ?_
 refine GL_nil ⟨inferInstance, ?_⟩
 refine GA_one 14 rfl rfl (by kernel_rfl) ?_
 refine GL_call rfl cb133 (Need_k B n2 k2 A2 r2 s2 e3 (within a j.toNat) 7) rfl pB .nil ?_
 rintro _ _ _ ⟨e4, hc4, rfl, rfl, rfl⟩
 simp only [List.cons_append, List.nil_append]
 refine GL_nil ⟨inferInstance, ?_⟩
 refine GA_nil (by kernel_rfl) ?_
 exact fin0 (.inl rfl) rfl pB2 sb ⟨a, j, r2, s2, e4, A2, n2, k2, by simp only [spanC, hc1, hc2, hc3, hc4], hn2, rfl, rfl, rfl⟩
theorem asksRead_ct (B B2 n k : Nat) (A : Option Addr) (r : List UInt8) (s : Bool) (e : Int) (code : UInt8) (hn : n ≤ 35184372088832) : Ct PG 154 [.agg [.pointer (some ⟨B, 0, none⟩), .pointer (some ⟨B2, 0, none⟩)].toArray] [cub B A n k s e, mub B2 { m := { code := code } }] [row 1 A n k (bytesV r)] (FormOut B B2 (asksS { code := code } ⟨r, s, e⟩)) := by
 refine Ct_of Tryz.func154 rfl 4 rfl (Nat.le_of_ble_eq_true rfl) fun w0 M N => ?_
 refine GC_seq ?_
 refine GC_region ?_
 refine GL_boxA rfl rfl (fun b1 => ?_)
 refine GL_nil ?_
 refine GC_region ?_
 refine GL_v rfl (rv_ldA a149 vw rfl) ?_
 refine GL_call rfl cb190 (span_ct B B2 n k A r s e code 2000 hn) rfl pB2 sR ?_
 rintro _ _ _ ⟨a, j, r1, s1, e1, A1, n1, k1, hc1, hn1, rfl, rfl, rfl⟩
 simp only [List.cons_append, List.nil_append]
 refine GL_shift .nil (msg0 { code := code, addr := a, count := j }) ?_
 refine GL_nil ?_
 exact fin0 (.inl rfl) rfl pB2 sb ⟨{ m := { code := code, addr := a, count := j } }, r1, s1, e1, A1, n1, k1, by simp only [asksS, hc1], hn1, rfl, rfl, rfl⟩
theorem done_ct (B B2 n k : Nat) (A : Option Addr) (r : List UInt8) (s : Bool) (e : Int) (code : UInt8) (hn : n ≤ 35184372088832) : Ct PG 158 [.agg [.pointer (some ⟨B, 0, none⟩), .pointer (some ⟨B2, 0, none⟩)].toArray] [cub B A n k s e, mub B2 { m := { code := code } }] [row 1 A n k (bytesV r)] (FormOut B B2 (doneS { code := code } ⟨r, s, e⟩)) := by
 refine Ct_of Tryz.func158 rfl 4 rfl (Nat.le_of_ble_eq_true rfl) fun w0 M N => ?_
 refine GC_seq ?_
 refine GC_region ?_
 refine GL_boxA rfl rfl (fun b1 => ?_)
 refine GL_nil ?_
 refine GC_region ?_
 refine GL_v rfl (rv_ldA a149 vw rfl) ?_
 refine GL_call rfl cb190 (span_ct B B2 n k A r s e code 1968 hn) rfl pB2 sR ?_
 rintro _ _ _ ⟨a, j, r1, s1, e1, A1, n1, k1, hc1, hn1, rfl, rfl, rfl⟩
 simp only [List.cons_append, List.nil_append]
 refine GL_shift .nil (msg0 { code := code, addr := a, count := j }) ?_
 refine GL_nil ?_
 exact fin0 (.inl rfl) rfl pB2 sb ⟨{ m := { code := code, addr := a, count := j } }, r1, s1, e1, A1, n1, k1, by simp only [doneS, hc1], hn1, rfl, rfl, rfl⟩
theorem told_ct (B B2 n k : Nat) (A : Option Addr) (r : List UInt8) (s : Bool) (e : Int) (code : UInt8) (hn : n ≤ 35184372088832) : Ct PG 155 [.agg [.pointer (some ⟨B, 0, none⟩), .pointer (some ⟨B2, 0, none⟩)].toArray] [cub B A n k s e, mub B2 { m := { code := code } }] [row 1 A n k (bytesV r)] (FormOut B B2 (toldS { code := code } ⟨r, s, e⟩)) := by
 refine Ct_of Tryz.func155 rfl 24 rfl (Nat.le_of_ble_eq_true rfl) fun w0 M N => ?_
 have e0 : MsgX.cells { m := { code := code } } = [b8 code, .int .u8 0, .int .u16 0, .int .u16 0, .int .u16 0, .int .u16 0, .int .u16 0, .int .u16 0, .int .u16 0, .int .u16 0, .int .u16 0, .int .u16 0, .slice none 0 0, .slice none 0 0, .slice none 0 0, .slice none 0 0, .int .u8 0, .int .u8 0, .int .u8 0, .int .u8 0, .int .u8 0, .slice none 0 0] := rfl
 unfold mub; rw [e0]
 refine GC_seq ?_
 refine GC_region ?_
 refine GL_boxA rfl rfl (fun b1 => ?_)
 refine GL_nil ?_
 refine GC_seq ?_
 refine GC_region ?_
 refine GL_v rfl (rv_fa fa149_0 vw) ?_
 refine GL_v rfl (rv_ld Tryz.underlying80 rfl vw) ?_
 refine GL_call rfl cb74 (Byte_k B n k A r s e hn) rfl pB sR ?_
 rintro _ _ _ ⟨a, r1, s1, e1, A1, n1, k1, hc1, hn1, rfl, rfl, rfl⟩
 simp only [List.cons_append, List.nil_append]
 refine GL_v rfl (rv_as (v := .int .u8 _) vw) ?_
 refine GL_nil ?_
 refine GC_seq ?_
 refine GC_region ?_
 refine GL_v rfl (rv_fa fa149_0 vw) ?_
 refine GL_v rfl (rv_ld Tryz.underlying80 rfl vw) ?_
 refine GL_v rfl (rv_mv (v := .int .u8 _) vw) ?_
 refine GL_v rfl (rv_geq vw vw) ?_
 refine GL_v rfl (rv_mv (v := .bool _) vw) ?_
 refine GL_g rfl rfl gvt (rv_mv (v := .int .u8 _) vw) ?_
 refine GL_g rfl rfl gvt (rv_leq vwg vw) ?_
 refine GL_v rfl (rv_and vw vwg) ?_
 refine GL_call rfl cb133 (Need_k B n1 k1 A1 r1 s1 e1 (decide ((1 : Int) ≤ a.toNat) && decide ((a.toNat : Int) ≤ 250)) 5) rfl pB .nil ?_
 rintro _ _ _ ⟨e2, hc2, rfl, rfl, rfl⟩
 simp only [List.cons_append, List.nil_append]
 refine GL_nil ?_
 refine GC_draw 10 ([blk b1 [.pointer (some ⟨B, 0, none⟩), .pointer (some ⟨B2, 0, none⟩)] 149]) mixed ?_
 refine GA_v (i := 0) rfl rfl rfl (by kernel_rfl) (rv_fa fa149_1 vw) ?_
 refine GA_v (i := 1) rfl rfl rfl (by kernel_rfl) (rv_ld Tryz.underlying115 rfl vw) ?_
 refine GA_v (i := 2) rfl rfl rfl (by kernel_rfl) (rv_fa fa149_0 vw) ?_
 refine GA_v (i := 3) rfl rfl rfl (by kernel_rfl) (rv_ld Tryz.underlying80 rfl vw) ?_
 refine GA_v (i := 4) rfl rfl rfl (by kernel_rfl) (rv_mv (v := .int .u8 _) vw) ?_
 refine GA_v (i := 5) rfl rfl rfl (by kernel_rfl) (rv_cnv (r := (a.toNat : Int)) Tryz.underlying5 Tryz.underlying3 vw (fun _ => IntWalk.i64_in _ (by have := a.toNat_lt; omega))) ?_
 refine GA_one 6 rfl rfl (by kernel_rfl) ?_
 refine GL_call rfl cb75 (Bytes_k B n1 k1 A1 r1 s1 e2 a.toNat hn1) rfl pB sR ?_
 rintro _ _ _ ⟨v, r3, s3, e3, A3, n3, k3, Ax3, nx3, kx3, hc3, hn3, hnx3, rfl, rfl, rfl⟩
 simp only [List.cons_append, List.nil_append]
 refine GL_shift .nil (msgData { code := code, data := v } ⟨Ax3, nx3, kx3⟩) ?_
 refine GL_nil ⟨inferInstance, ?_⟩
 refine GA_v (i := 7) rfl rfl rfl (by kernel_rfl) (rv_nil vw) ?_
 refine GA_v (i := 8) rfl rfl rfl (by kernel_rfl) (rv_fa fa30_14 vw) ?_
 refine GA_one 9 rfl rfl (by kernel_rfl) ?_
 refine GL_st (u := .slice _ _ _) rfl rfl c22 rfl ?_
 refine GL_nil ⟨inferInstance, ?_⟩
 refine GA_nil (by kernel_rfl) ?_
 exact fin0 (.inl rfl) rfl pB2 sb ⟨{ m := { code := code, data := v }, d := ⟨Ax3, nx3, kx3⟩ }, r3, s3, e3, A3, n3, k3, by simp only [toldS, hc1, hc2, hc3], hn3, rfl, rfl, rfl⟩
theorem sets_ct (B B2 n k : Nat) (A : Option Addr) (r : List UInt8) (s : Bool) (e : Int) (code : UInt8) (hn : n ≤ 35184372088832) : Ct PG 156 [.agg [.pointer (some ⟨B, 0, none⟩), .pointer (some ⟨B2, 0, none⟩)].toArray] [cub B A n k s e, mub B2 { m := { code := code } }] [row 1 A n k (bytesV r)] (FormOut B B2 (setsS { code := code } ⟨r, s, e⟩)) := by
 refine Ct_of Tryz.func156 rfl 33 rfl (Nat.le_of_ble_eq_true rfl) fun w0 M N => ?_
 have e0 : MsgX.cells { m := { code := code } } = [b8 code, .int .u8 0, .int .u16 0, .int .u16 0, .int .u16 0, .int .u16 0, .int .u16 0, .int .u16 0, .int .u16 0, .int .u16 0, .int .u16 0, .int .u16 0, .slice none 0 0, .slice none 0 0, .slice none 0 0, .slice none 0 0, .int .u8 0, .int .u8 0, .int .u8 0, .int .u8 0, .int .u8 0, .slice none 0 0] := rfl
 unfold mub; rw [e0]
 refine GC_seq ?_
 refine GC_region ?_
 refine GL_boxA rfl rfl (fun b1 => ?_)
 refine GL_nil ?_
 refine GC_seq ?_
 refine GC_draw 8 ([blk b1 [.pointer (some ⟨B, 0, none⟩), .pointer (some ⟨B2, 0, none⟩)] 149]) mixed ?_
 refine GA_v (i := 0) rfl rfl rfl (by kernel_rfl) (rv_fa fa149_1 vw) ?_
 refine GA_v (i := 1) rfl rfl rfl (by kernel_rfl) (rv_ld Tryz.underlying115 rfl vw) ?_
 refine GA_v (i := 2) rfl rfl rfl (by kernel_rfl) (rv_fa fa149_0 vw) ?_
 refine GA_v (i := 3) rfl rfl rfl (by kernel_rfl) (rv_ld Tryz.underlying80 rfl vw) ?_
 refine GA_one 4 rfl rfl (by kernel_rfl) ?_
 refine GL_call rfl cb73 (Word_k B n k A r s e hn) rfl pB sR ?_
 rintro _ _ _ ⟨a, r1, s1, e1, A1, n1, k1, hc1, hn1, rfl, rfl, rfl⟩
 simp only [List.cons_append, List.nil_append]
 refine GL_nil ⟨inferInstance, ?_⟩
 refine GA_v (i := 5) rfl rfl rfl (by kernel_rfl) (rv_nil vw) ?_
 refine GA_v (i := 6) rfl rfl rfl (by kernel_rfl) (rv_fa fa30_2 vw) ?_
 refine GA_one 7 rfl rfl (by kernel_rfl) ?_
 refine GL_st (u := w16 a) rfl rfl c24 rfl ?_
 refine GL_nil ⟨inferInstance, ?_⟩
 refine GA_nil (by kernel_rfl) ?_
 refine GC_seq ?_
 refine GC_draw 8 ([blk b1 [.pointer (some ⟨B, 0, none⟩), .pointer (some ⟨B2, 0, none⟩)] 149]) mixed ?_
 refine GA_v (i := 0) rfl rfl rfl (by kernel_rfl) (rv_fa fa149_1 vw) ?_
 refine GA_v (i := 1) rfl rfl rfl (by kernel_rfl) (rv_ld Tryz.underlying115 rfl vw) ?_
 refine GA_v (i := 2) rfl rfl rfl (by kernel_rfl) (rv_fa fa149_0 vw) ?_
 refine GA_v (i := 3) rfl rfl rfl (by kernel_rfl) (rv_ld Tryz.underlying80 rfl vw) ?_
 refine GA_one 4 rfl rfl (by kernel_rfl) ?_
 refine GL_call rfl cb73 (Word_k B n1 k1 A1 r1 s1 e1 hn1) rfl pB sR ?_
 rintro _ _ _ ⟨j, r2, s2, e2, A2, n2, k2, hc2, hn2, rfl, rfl, rfl⟩
 simp only [List.cons_append, List.nil_append]
 refine GL_nil ⟨inferInstance, ?_⟩
 refine GA_v (i := 5) rfl rfl rfl (by kernel_rfl) (rv_nil vw) ?_
 refine GA_v (i := 6) rfl rfl rfl (by kernel_rfl) (rv_fa fa30_4 vw) ?_
 refine GA_one 7 rfl rfl (by kernel_rfl) ?_
 refine GL_st (u := w16 j) rfl rfl c24 rfl ?_
 refine GL_nil ⟨inferInstance, ?_⟩
 refine GA_nil (by kernel_rfl) ?_
 refine GC_draw 17 ([blk b1 [.pointer (some ⟨B, 0, none⟩), .pointer (some ⟨B2, 0, none⟩)] 149, blk B2 [b8 code, .int .u8 0, w16 a, .int .u16 0, w16 j, .int .u16 0, .int .u16 0, .int .u16 0, .int .u16 0, .int .u16 0, .int .u16 0, .int .u16 0, .slice none 0 0, .slice none 0 0, .slice none 0 0, .slice none 0 0, .int .u8 0, .int .u8 0, .int .u8 0, .int .u8 0, .int .u8 0, .slice none 0 0] 30]) mixed ?_
 refine GA_v (i := 0) rfl rfl rfl (by kernel_rfl) (rv_fa fa149_0 vw) ?_
 refine GA_v (i := 1) rfl rfl rfl (by kernel_rfl) (rv_ld Tryz.underlying80 rfl vw) ?_
 refine GA_v (i := 2) rfl rfl rfl (by kernel_rfl) (rv_fa fa149_1 vw) ?_
 refine GA_v (i := 3) rfl rfl rfl (by kernel_rfl) (rv_ld Tryz.underlying115 rfl vw) ?_
 refine GA_v (i := 4) rfl rfl rfl (by kernel_rfl) (rv_nil vw) ?_
 refine GA_v (i := 5) rfl rfl rfl (by kernel_rfl) (rv_fa fa30_4 vw) ?_
 refine GA_v (i := 6) rfl rfl rfl (by kernel_rfl) (rv_ld Tryz.underlying24 rfl vw) ?_
 refine GA_v (i := 7) rfl rfl rfl (by kernel_rfl) (rv_eql vw vw) ?_
 refine GA_v (i := 8) rfl rfl rfl (by kernel_rfl) (rv_mv (v := .bool _) vw) ?_
 refine GA_g (i := 9) rfl rfl rfl (by kernel_rfl) rfl gvf (rv_fa fa149_1 vw) ?_
 refine GA_g (i := 10) rfl rfl rfl (by kernel_rfl) rfl gvf (rv_ld Tryz.underlying115 rfl vwg) ?_
 refine GA_g (i := 11) rfl rfl rfl (by kernel_rfl) rfl gvf (rv_nil vwg) ?_
 refine GA_g (i := 12) rfl rfl rfl (by kernel_rfl) rfl gvf (rv_fa fa30_4 vwg) ?_
 refine GA_g (i := 13) rfl rfl rfl (by kernel_rfl) rfl gvf (rv_ld Tryz.underlying24 rfl vwg) ?_
 refine GA_g (i := 14) rfl rfl rfl (by kernel_rfl) rfl gvf (rv_eql vwg vw) ?_
 refine GA_v (i := 15) rfl rfl rfl (by kernel_rfl) (rv_or vw vwg) ?_
 refine GA_one 16 rfl rfl (by kernel_rfl) ?_
 refine GL_call rfl cb133 (Need_k B n2 k2 A2 r2 s2 e2 (decide ((j.toNat : Int) = 0) || decide ((j.toNat : Int) = 65280)) 6) rfl pB .nil ?_
 rintro _ _ _ ⟨e3, hc3, rfl, rfl, rfl⟩
 simp only [List.cons_append, List.nil_append]
 refine GL_shift .nil (msg0 { code := code, addr := a, value := j }) ?_
 refine GL_nil ⟨inferInstance, ?_⟩
 refine GA_nil (by kernel_rfl) ?_
 exact fin0 (.inl rfl) rfl pB2 sb ⟨{ m := { code := code, addr := a, value := j } }, r2, s2, e3, A2, n2, k2, by simp only [setsS, hc1, hc2, hc3], hn2, rfl, rfl, rfl⟩
theorem done_k (B B2 n k : Nat) (A : Option Addr) (r : List UInt8) (s : Bool) (e : Int) (code : UInt8) (hn : n ≤ 35184372088832) : Ct PG 158 [.agg [.pointer (some ⟨B, 0, none⟩), .pointer (some ⟨B2, 0, none⟩)].toArray] [cub B A n k s e, mub B2 { m := { code := code } }] [row 1 A n k (bytesV r)]
 (fun v S' T' => ∃ a j r1 s1 e1 A1 n1 k1, spanC 1968 ⟨r, s, e⟩ = (a, j, ⟨r1, s1, e1⟩) ∧ n1 ≤ 35184372088832 ∧ v = .tuple #[] ∧ S' = [cub B A1 n1 k1 s1 e1, mub B2 { m := { code := code, addr := a, count := j } }] ∧ T' = [row 1 A1 n1 k1 (bytesV r1)]) := by
 refine Ct_of Tryz.func158 rfl 4 rfl (Nat.le_of_ble_eq_true rfl) fun w0 M N => ?_
 refine GC_seq ?_
 refine GC_region ?_
 refine GL_boxA rfl rfl (fun b1 => ?_)
 refine GL_nil ?_
 refine GC_region ?_
 refine GL_v rfl (rv_ldA a149 vw rfl) ?_
 refine GL_call rfl cb190 (span_ct B B2 n k A r s e code 1968 hn) rfl pB2 sR ?_
 rintro _ _ _ ⟨a, j, r1, s1, e1, A1, n1, k1, hc1, hn1, rfl, rfl, rfl⟩
 simp only [List.cons_append, List.nil_append]
 refine GL_nil ?_
 exact fin0 (.inl rfl) rfl pB2 sb ⟨a, j, r1, s1, e1, A1, n1, k1, hc1, hn1, rfl, rfl, rfl⟩
theorem setsMany_ct (B B2 n0 k0 : Nat) (A0 : Option Addr) (r0 : List UInt8) (s0 : Bool) (e0 : Int) (code : UInt8) (hn0 : n0 ≤ 35184372088832) : Ct PG 157 [.agg [.pointer (some ⟨B, 0, none⟩), .pointer (some ⟨B2, 0, none⟩)].toArray] [cub B A0 n0 k0 s0 e0, mub B2 { m := { code := code } }] [row 1 A0 n0 k0 (bytesV r0)] (FormOut B B2 (manyS { code := code } ⟨r0, s0, e0⟩)) := by
 refine Ct_of Tryz.func157 rfl 46 rfl (Nat.le_of_ble_eq_true rfl) fun w0 M N => ?_
 refine GC_seq ?_
 refine GC_region ?_
 refine GL_boxA rfl rfl (fun b1 => ?_)
 refine GL_nil ?_
 refine GC_seq ?_
 refine GC_region ?_
 refine GL_v rfl (rv_ldA a149 vw rfl) ?_
 refine GL_call rfl cb158 (done_k B B2 n0 k0 A0 r0 s0 e0 code hn0) rfl pB2 sR ?_
 rintro _ _ _ ⟨a, j, r, s, e, A, n, k, hs, hn, rfl, rfl, rfl⟩
 simp only [List.cons_append, List.nil_append]
 have e00 : MsgX.cells { m := { code := code, addr := a, count := j } } = [b8 code, .int .u8 0, w16 a, w16 j, .int .u16 0, .int .u16 0, .int .u16 0, .int .u16 0, .int .u16 0, .int .u16 0, .int .u16 0, .int .u16 0, .slice none 0 0, .slice none 0 0, .slice none 0 0, .slice none 0 0, .int .u8 0, .int .u8 0, .int .u8 0, .int .u8 0, .int .u8 0, .slice none 0 0] := rfl
 unfold mub; rw [e00]
 have hj := j.toNat_lt
 refine GL_nil ?_
 refine GC_seq ?_
 refine GC_region ?_
 refine GL_v rfl (rv_fa fa149_0 vw) ?_
 refine GL_v rfl (rv_ld Tryz.underlying80 rfl vw) ?_
 refine GL_call rfl cb74 (Byte_k B n k A r s e hn) rfl pB sR ?_
 rintro _ _ _ ⟨q, r1, s1, e1, A1, n1, k1, hc1, hn1, rfl, rfl, rfl⟩
 simp only [List.cons_append, List.nil_append]
 have hq := q.toNat_lt
 refine GL_v rfl (rv_cnv (r := (q.toNat : Int)) Tryz.underlying5 Tryz.underlying3 vw (fun _ => IntWalk.i64_in _ (by omega))) ?_
 refine GL_v rfl (rv_as (v := .int .i64 _) vw) ?_
 refine GL_nil ?_
 refine GC_seq ?_
 refine GC_draw 12 ([blk b1 [.pointer (some ⟨B, 0, none⟩), .pointer (some ⟨B2, 0, none⟩)] 149, blk B2 [b8 code, .int .u8 0, w16 a, w16 j, .int .u16 0, .int .u16 0, .int .u16 0, .int .u16 0, .int .u16 0, .int .u16 0, .int .u16 0, .int .u16 0, .slice none 0 0, .slice none 0 0, .slice none 0 0, .slice none 0 0, .int .u8 0, .int .u8 0, .int .u8 0, .int .u8 0, .int .u8 0, .slice none 0 0] 30]) mixed ?_
 refine GA_v (i := 0) rfl rfl rfl (by kernel_rfl) (rv_fa fa149_0 vw) ?_
 refine GA_v (i := 1) rfl rfl rfl (by kernel_rfl) (rv_ld Tryz.underlying80 rfl vw) ?_
 refine GA_v (i := 2) rfl rfl rfl (by kernel_rfl) (rv_mv (v := .int .i64 _) vw) ?_
 refine GA_v (i := 3) rfl rfl rfl (by kernel_rfl) (rv_fa fa149_1 vw) ?_
 refine GA_v (i := 4) rfl rfl rfl (by kernel_rfl) (rv_ld Tryz.underlying115 rfl vw) ?_
 refine GA_v (i := 5) rfl rfl rfl (by kernel_rfl) (rv_nil vw) ?_
 refine GA_v (i := 6) rfl rfl rfl (by kernel_rfl) (rv_fa fa30_3 vw) ?_
 refine GA_v (i := 7) rfl rfl rfl (by kernel_rfl) (rv_ld Tryz.underlying24 rfl vw) ?_
 refine GA_v (i := 8) rfl rfl rfl (by kernel_rfl) (rv_cnv (r := (j.toNat : Int)) Tryz.underlying24 Tryz.underlying3 vw (fun _ => IntWalk.i64_in _ (by omega))) ?_
 refine GA_one 9 rfl rfl (by kernel_rfl) ?_
 refine GL_callD rfl cb191 (Many_ct j.toNat (by omega)) rfl .nil .nil ?_
 refine GL_nil ⟨inferInstance, ?_⟩
 refine GA_v (i := 10) rfl rfl rfl (by kernel_rfl) (rv_eql vw vw) ?_
 refine GA_one 11 rfl rfl (by kernel_rfl) ?_
 refine GL_call rfl cb133 (Need_k B n1 k1 A1 r1 s1 e1 (decide ((q.toNat : Int) = manyI j.toNat)) 5) rfl pB .nil ?_
 rintro _ _ _ ⟨e2, hc2, rfl, rfl, rfl⟩
 simp only [List.cons_append, List.nil_append]
 refine GL_nil ⟨inferInstance, ?_⟩
 refine GA_nil (by kernel_rfl) ?_
 refine GC_seq ?_
 refine GC_draw 16 ([blk b1 [.pointer (some ⟨B, 0, none⟩), .pointer (some ⟨B2, 0, none⟩)] 149, blk B2 [b8 code, .int .u8 0, w16 a, w16 j, .int .u16 0, .int .u16 0, .int .u16 0, .int .u16 0, .int .u16 0, .int .u16 0, .int .u16 0, .int .u16 0, .slice none 0 0, .slice none 0 0, .slice none 0 0, .slice none 0 0, .int .u8 0, .int .u8 0, .int .u8 0, .int .u8 0, .int .u8 0, .slice none 0 0] 30]) mixed ?_
 refine GA_v (i := 0) rfl rfl rfl (by kernel_rfl) (rv_fa fa149_0 vw) ?_
 refine GA_v (i := 1) rfl rfl rfl (by kernel_rfl) (rv_ld Tryz.underlying80 rfl vw) ?_
 refine GA_v (i := 2) rfl rfl rfl (by kernel_rfl) (rv_mv (v := .int .i64 _) vw) ?_
 refine GA_v (i := 4) rfl rfl rfl (by kernel_rfl) (rv_fa fa149_1 vw) ?_
 refine GA_v (i := 5) rfl rfl rfl (by kernel_rfl) (rv_ld Tryz.underlying115 rfl vw) ?_
 refine GA_v (i := 6) rfl rfl rfl (by kernel_rfl) (rv_nil vw) ?_
 refine GA_v (i := 7) rfl rfl rfl (by kernel_rfl) (rv_fa fa30_3 vw) ?_
 refine GA_v (i := 8) rfl rfl rfl (by kernel_rfl) (rv_ld Tryz.underlying24 rfl vw) ?_
 refine GA_v (i := 9) rfl rfl rfl (by kernel_rfl) (rv_cnv (r := (j.toNat : Int)) Tryz.underlying24 Tryz.underlying3 vw (fun _ => IntWalk.i64_in _ (by omega))) ?_
 refine GA_one 3 rfl rfl (by kernel_rfl) ?_
 refine GL_call rfl cb75 (Bytes_k B n1 k1 A1 r1 s1 e2 q.toNat hn1) rfl pB sR ?_
 rintro _ _ _ ⟨v, r3, s3, e3, A3, n3, k3, Ax3, nx3, kx3, hc3, hn3, hnx3, rfl, rfl, rfl⟩
 simp only [List.cons_append, List.nil_append]
 refine GL_nil ⟨inferInstance, ?_⟩
 refine GA_one 10 rfl rfl (by kernel_rfl) ?_
 refine GL_call rfl cb192 (Unpack_ct Ax3 nx3 kx3 v j.toNat (by omega) hnx3) rfl .nil sR ?_
 rintro _ _ _ ⟨Ab, nb, kb, rfl, rfl, rfl⟩
 simp only [List.cons_append, List.nil_append]
 obtain ⟨l, ok, hu⟩ : ∃ l ok, unpackS v j.toNat = (l, ok) := ⟨_, _, rfl⟩
 rw [hu]
 simp only
 refine GL_nil ⟨inferInstance, ?_⟩
 refine GA_v (i := 11) rfl rfl rfl (by kernel_rfl) (rv_as (v := .tuple [.slice Ab nb kb, .bool ok].toArray) vw) ?_
 refine GA_v (i := 12) rfl rfl rfl (by kernel_rfl) (rv_ext vw rfl) ?_
 refine GA_v (i := 13) rfl rfl rfl (by kernel_rfl) (rv_ext vw rfl) ?_
 refine GA_v (i := 14) rfl rfl rfl (by kernel_rfl) (rv_as (v := .slice _ _ _) vw) ?_
 refine GA_v (i := 15) rfl rfl rfl (by kernel_rfl) (rv_as (v := .bool _) vw) ?_
 refine GA_nil (by kernel_rfl) ?_
 refine GC_seq ?_
 refine GC_region ?_
 refine GL_v rfl (rv_fa fa149_0 vw) ?_
 refine GL_v rfl (rv_ld Tryz.underlying80 rfl vw) ?_
 refine GL_v rfl (rv_mv (v := .bool _) vw) ?_
 refine GL_call rfl cb133 (Need_k B n3 k3 A3 r3 s3 e3 ok 6) rfl pB .nil ?_
 rintro _ _ _ ⟨e4, hc4, rfl, rfl, rfl⟩
 simp only [List.cons_append, List.nil_append]
 refine GL_nil ?_
 refine GC_region ?_
 refine GL_v rfl (rv_fa fa149_1 vw) ?_
 refine GL_v rfl (rv_ld Tryz.underlying115 rfl vw) ?_
 refine GL_v rfl (rv_mv (v := .slice _ _ _) vw) ?_
 refine GL_v rfl (rv_nil vw) ?_
 refine GL_v rfl (rv_fa fa30_13 vw) ?_
 refine GL_st (u := .slice Ab nb kb) rfl rfl c26 rfl ?_
 refine GL_shift .nil (msgBits { code := code, addr := a, count := j, bits := l } ⟨Ab, nb, kb⟩) ?_
 refine GL_nil ?_
 exact fin0 (.inl rfl) rfl pB2 sb ⟨{ m := { code := code, addr := a, count := j, bits := l }, b := ⟨Ab, nb, kb⟩ }, r3, s3, e4, A3, n3, k3, by simp only [manyS, doneS, hs, manyB, hc1, hc2, hc3, hc4, hu], hn3, rfl, rfl, rfl⟩
def FormV (B B2 : Nat) (code : UInt8) (F : MsgD → Cu → MsgD × Cu) (fv : Value) : Prop := ∃ f caps caps2, fv = .func (.func f) caps.toArray caps2.toArray ∧ Cb PG f ∧ ∀ n k A r s e, n ≤ 35184372088832 → Ct PG f (caps ++ caps2) [cub B A n k s e, mub B2 { m := { code := code } }] [row 1 A n k (bytesV r)] (FormOut B B2 (F { code := code } ⟨r, s, e⟩))
def boundF (f : FuncId) (B B2 : Nat) : Value := .func (.func f) [.agg [.pointer (some ⟨B, 0, none⟩), .pointer (some ⟨B2, 0, none⟩)].toArray].toArray [].toArray
def coilsMap (B B2 : Nat) : List (Int × Value) :=
 [(1, .agg [boundF 154 B B2, boundF 155 B B2].toArray), (2, .agg [boundF 154 B B2, boundF 155 B B2].toArray), (5, .agg [boundF 156 B B2, boundF 156 B B2].toArray), (15, .agg [boundF 157 B B2, boundF 158 B B2].toArray)]
theorem two_case {d : Nat} (h : d < 2) : d = 0 ∨ d = 1 := by omega
theorem coils_cases (B B2 : Nat) (code : UInt8) : ∃ f0 f1 b, lookD code.toNat (coilsMap B B2) (.agg [.nilFunc, .nilFunc].toArray) = .agg [f0, f1].toArray ∧ lookB code.toNat (coilsMap B B2) = b ∧ f0.oneCell' = true ∧ f1.oneCell' = true ∧ (b = false → ∀ d, form08 d code = none) ∧
 (b = true → ∀ d : Nat, d < 2 → ∃ F fv, form08 d code = some F ∧ [f0, f1][d * 1]? = some fv ∧ FormV B B2 code F fv) := by
 by_cases h1 : (code.toNat : Int) = 1
 · have h1' : code.toNat = 1 := by omega
   refine ⟨_, _, true, by simp only [coilsMap, lookD, look, h1, if_true]; rfl, by simp only [coilsMap, lookB, look, h1, if_true], rfl, rfl, (fun h => by cases h), fun _ d hd => ?_⟩
   rcases two_case hd with rfl | rfl
   · exact ⟨_, _, by simp [form08, h1'], rfl, _, _, _, rfl, cb154, fun n k A r s e hn => asksRead_ct B B2 n k A r s e code hn⟩
   · exact ⟨_, _, by simp [form08, h1'], rfl, _, _, _, rfl, cb155, fun n k A r s e hn => told_ct B B2 n k A r s e code hn⟩
 by_cases h2 : (code.toNat : Int) = 2
 · have h2' : code.toNat = 2 := by omega
   refine ⟨_, _, true, by simp only [coilsMap, lookD, look, h1, h2, if_true, if_false]; rfl, by simp only [coilsMap, lookB, look, h1, h2, if_true, if_false]; rfl, rfl, rfl, (fun h => by cases h), fun _ d hd => ?_⟩
   rcases two_case hd with rfl | rfl
   · exact ⟨_, _, by simp [form08, h2'], rfl, _, _, _, rfl, cb154, fun n k A r s e hn => asksRead_ct B B2 n k A r s e code hn⟩
   · exact ⟨_, _, by simp [form08, h2'], rfl, _, _, _, rfl, cb155, fun n k A r s e hn => told_ct B B2 n k A r s e code hn⟩
 by_cases h5 : (code.toNat : Int) = 5
 · have h5' : code.toNat = 5 := by omega
   refine ⟨_, _, true, by simp only [coilsMap, lookD, look, h1, h2, h5, if_true, if_false]; rfl, by simp only [coilsMap, lookB, look, h1, h2, h5, if_true, if_false]; rfl, rfl, rfl, (fun h => by cases h), fun _ d hd => ?_⟩
   rcases two_case hd with rfl | rfl
   · exact ⟨_, _, by simp [form08, h5'], rfl, _, _, _, rfl, cb156, fun n k A r s e hn => sets_ct B B2 n k A r s e code hn⟩
   · exact ⟨_, _, by simp [form08, h5'], rfl, _, _, _, rfl, cb156, fun n k A r s e hn => sets_ct B B2 n k A r s e code hn⟩
 by_cases h15 : (code.toNat : Int) = 15
 · have h15' : code.toNat = 15 := by omega
   refine ⟨_, _, true, by simp only [coilsMap, lookD, look, h1, h2, h5, h15, if_true, if_false]; rfl, by simp only [coilsMap, lookB, look, h1, h2, h5, h15, if_true, if_false]; rfl, rfl, rfl, (fun h => by cases h), fun _ d hd => ?_⟩
   rcases two_case hd with rfl | rfl
   · exact ⟨_, _, by simp [form08, h15'], rfl, _, _, _, rfl, cb157, fun n k A r s e hn => setsMany_ct B B2 n k A r s e code hn⟩
   · exact ⟨_, _, by simp [form08, h15'], rfl, _, _, _, rfl, cb158, fun n k A r s e hn => done_ct B B2 n k A r s e code hn⟩
 · refine ⟨.nilFunc, .nilFunc, false, by simp only [coilsMap, lookD, look, h1, h2, h5, h15, if_false], by simp only [coilsMap, lookB, look, h1, h2, h5, h15, if_false], rfl, rfl, fun _ d => ?_, fun h => by simp at h⟩
   have g1 : ¬ code.toNat = 1 := by omega
   have g2 : ¬ code.toNat = 2 := by omega
   have g5 : ¬ code.toNat = 5 := by omega
   have g15 : ¬ code.toNat = 15 := by omega
   simp [form08, g1, g2, g5, g15]
theorem finish_ok {m : MsgD} {r : List UInt8} {s : Bool} {e e1 : Int} (h : Cu.fin ⟨r, s, e⟩ = ⟨r, s, e1⟩) (h1 : e1 = 0) : finish (m, ⟨r, s, e⟩) = (m, 0) := by
 unfold finish; simp only [h, h1, if_true]
theorem finish_no {m : MsgD} {r : List UInt8} {s : Bool} {e e1 : Int} (h : Cu.fin ⟨r, s, e⟩ = ⟨r, s, e1⟩) (h1 : ¬ e1 = 0) : finish (m, ⟨r, s, e⟩) = ({}, e1) := by
 unfold finish; simp only [h, h1, if_false]
theorem P08_ct (dir : Int) (code : UInt8) (A : Option Addr) (n k : Nat) (b : List UInt8) (hn : n ≤ 35184372088832) : Ct PG 98 [.int .i64 dir, b8 code, .slice A n k] [] [row 1 A n k (bytesV b)] (MsgOut (P08 dir code b)) := by
 refine Ct_of Tryz.func98 rfl 72 rfl (Nat.le_of_ble_eq_true rfl) fun w0 M N => ?_
 obtain ⟨p, hp⟩ : ∃ p, P08 dir code b = p := ⟨_, rfl⟩
 rw [hp]
 refine GC_seq ?_
 refine GC_region ?_
 refine GL_alloc rfl z30 (fun b6 => ?_)
 refine GL_v rfl (rv_as (v := .int .i64 _) vw) ?_
 refine GL_nil ?_
 refine GC_seq ?_
 refine GC_seq ?_
 refine GC_region ?_
 refine GL_v rfl (rv_mv (v := .int .i64 _) vw) ?_
 refine GL_v rfl (rv_neq vw vw) ?_
 refine GL_v rfl (rv_mv (v := .bool _) vw) ?_
 refine GL_g rfl rfl gvt (rv_mv (v := .int .i64 _) vw) ?_
 refine GL_g rfl rfl gvt (rv_neq vwg vw) ?_
 refine GL_v rfl (rv_and vw vwg) ?_
 refine GL_nil ?_
 refine GC_cond rfl (fun h0 => ?_) (fun h0 => ?_)
 ·
  have hd : dir ≠ 0 ∧ dir ≠ 1 := by simpa using h0
  have he : P08 dir code b = ({}, 1) := if_pos hd
  obtain rfl := hp.symm.trans he
  refine GC_seq ?_
  refine GC_region ?_
  refine GL_v rfl (rv_bld (z' := [.int .u8 0, .int .u8 0, .int .u16 0, .int .u16 0, .int .u16 0, .int .u16 0, .int .u16 0, .int .u16 0, .int .u16 0, .int .u16 0, .int .u16 0, .int .u16 0, .slice none 0 0, .slice none 0 0, .slice none 0 0, .slice none 0 0, .int .u8 0, .int .u8 0, .int .u8 0, .int .u8 0, .int .u8 0, .slice none 0 0]) z30 l30 (fun _ => rfl)) ?_
  refine GL_stA rfl rfl c30 (by simp [Value.oneCell']) (by rfl) ?_
  refine GL_v rfl (rv_as (v := .int .i64 _) vw) ?_
  refine GL_nil ?_
  refine GC_shift .nil (msg0 {}) ?_
  refine GC_ret ?_
  exact finA (T' := [msgR { m := {} }]) (.inr rfl) rfl rfl rfl inferInstance a30 rfl .nil sb ⟨{ m := {} }, rfl, rfl, rfl, rfl⟩
 ·
  have hd : ¬ (dir ≠ 0 ∧ dir ≠ 1) := by simpa using h0
  obtain ⟨d, rfl, hd2⟩ : ∃ d : Nat, dir = d ∧ d < 2 := ⟨dir.toNat, by omega, by omega⟩
  simp only [P08, parseBy, if_neg hd] at hp
  refine GC_skip ?_
  refine GC_seq ?_
  refine GC_region ?_
  refine GL_v rfl (rv_mv (v := b8 code) vw) ?_
  refine GL_v rfl (rv_bld (z' := [.int .u8 _, .int .u8 0, .int .u16 0, .int .u16 0, .int .u16 0, .int .u16 0, .int .u16 0, .int .u16 0, .int .u16 0, .int .u16 0, .int .u16 0, .int .u16 0, .slice none 0 0, .slice none 0 0, .slice none 0 0, .slice none 0 0, .int .u8 0, .int .u8 0, .int .u8 0, .int .u8 0, .int .u8 0, .slice none 0 0]) z30 l30 (fun _ => rfl)) ?_
  refine GL_alloc rfl z30 (fun bb8 => ?_)
  refine GL_stA (l' := MsgX.cells { m := { code := code } }) rfl rfl c30 (MsgX.cells_one _) (by rfl) ?_
  refine GL_nil ?_
  refine GC_seq ?_
  refine GC_region ?_
  refine GL_v rfl (rv_mv (v := .slice _ _ _) vw) ?_
  refine GL_call rfl cb72 (New_k A n _ b hn) rfl .nil sR ?_
  rintro _ _ _ ⟨B, A1, n1, k1, hn1, rfl, rfl, rfl⟩
  simp only [List.cons_append, List.nil_append]
  refine GL_v rfl (rv_bld (z' := [.pointer _, .pointer _]) z149 l149 (fun _ => rfl)) ?_
  refine GL_alloc rfl z149 (fun b9 => ?_)
  refine GL_stA rfl rfl c149 (by simp [Value.oneCell']) (by rfl) ?_
  refine GL_nil ?_
  refine GC_seq ?_
  refine GC_region ?_
  refine GL_mkMap .u8 rfl (fun Bm => ?_)
  refine GL_v rfl (rv_ldA a149 vw rfl) ?_
  refine GL_v rfl (rv_mf) ?_
  refine GL_v rfl (rv_ldA a149 vw rfl) ?_
  refine GL_v rfl (rv_mf) ?_
  refine GL_v rfl (rv_bldArr (z' := [.func _ _ _, .func _ _ _]) z150 Tryz.underlying150 c1 (fun _ => rfl)) ?_
  refine GL_ins (dk := .u8) (v := .agg [boundF 154 B bb8, boundF 155 B bb8].toArray) Tryz.underlying151 Tryz.underlying5 rfl rfl rfl rfl ?_
  refine GL_v rfl (rv_ldA a149 vw rfl) ?_
  refine GL_v rfl (rv_mf) ?_
  refine GL_v rfl (rv_ldA a149 vw rfl) ?_
  refine GL_v rfl (rv_mf) ?_
  refine GL_v rfl (rv_bldArr (z' := [.func _ _ _, .func _ _ _]) z150 Tryz.underlying150 c1 (fun _ => rfl)) ?_
  refine GL_ins (dk := .u8) (v := .agg [boundF 154 B bb8, boundF 155 B bb8].toArray) Tryz.underlying151 Tryz.underlying5 rfl rfl rfl rfl ?_
  refine GL_v rfl (rv_ldA a149 vw rfl) ?_
  refine GL_v rfl (rv_mf) ?_
  refine GL_v rfl (rv_ldA a149 vw rfl) ?_
  refine GL_v rfl (rv_mf) ?_
  refine GL_v rfl (rv_bldArr (z' := [.func _ _ _, .func _ _ _]) z150 Tryz.underlying150 c1 (fun _ => rfl)) ?_
  refine GL_ins (dk := .u8) (v := .agg [boundF 156 B bb8, boundF 156 B bb8].toArray) Tryz.underlying151 Tryz.underlying5 rfl rfl rfl rfl ?_
  refine GL_v rfl (rv_ldA a149 vw rfl) ?_
  refine GL_v rfl (rv_mf) ?_
  refine GL_v rfl (rv_ldA a149 vw rfl) ?_
  refine GL_v rfl (rv_mf) ?_
  refine GL_v rfl (rv_bldArr (z' := [.func _ _ _, .func _ _ _]) z150 Tryz.underlying150 c1 (fun _ => rfl)) ?_
  refine GL_ins (dk := .u8) (v := .agg [boundF 157 B bb8, boundF 158 B bb8].toArray) Tryz.underlying151 Tryz.underlying5 rfl rfl rfl rfl ?_
  refine GL_v rfl (rv_mv (v := .map _) vw) ?_
  refine GL_v rfl (rv_as (v := .map _) vw) ?_
  refine GL_nil ?_
  have hcc := coils_cases B bb8 code
  obtain ⟨f0, hcc⟩ := hcc
  obtain ⟨f1, bb, hl1, hl2, ho1, ho2, hno, hyes⟩ := hcc
  refine GC_seq ?_
  refine GC_region ?_
  refine GL_v rfl (rv_mv (v := .map _) vw) ?_
  refine GL_v rfl (rv_mv (v := b8 code) vw) ?_
  refine GL_v rfl (rv_lookOk (dk := .u8) (z := .agg [.nilFunc, .nilFunc].toArray) (v := .agg [f0, f1].toArray) (b := bb) Tryz.underlying151 Tryz.underlying5 (fun _ => by kernel_rfl) vw vw hl1 hl2) ?_
  refine GL_v rfl (rv_mv (v := .tuple [.agg [f0, f1].toArray, .bool bb].toArray) vw) ?_
  refine GL_v rfl (rv_ext vw rfl) ?_
  refine GL_v rfl (rv_ext vw rfl) ?_
  refine GL_alloc rfl z150 (fun b11 => ?_)
  refine GL_stA (l' := [f0, f1]) rfl rfl c150 (by intro u hu; simp at hu; rcases hu with rfl | rfl; exact ho1; exact ho2) (by rfl) ?_
  refine GL_v rfl (rv_as (v := .bool _) vw) ?_
  refine GL_nil ?_
  refine GC_seq ?_
  refine GC_seq ?_
  refine GC_region ?_
  refine GL_v rfl (rv_mv (v := .bool _) vw) ?_
  refine GL_v rfl (rv_not vw) ?_
  refine GL_nil ?_
  refine GC_cond rfl (fun h1 => ?_) (fun h1 => ?_)
  ·
   have hb : bb = false := by simpa using h1
   rw [hno hb] at hp
   obtain rfl := hp
   refine GC_seq ?_
   refine GC_region ?_
   refine GL_v rfl (rv_bld (z' := [.int .u8 0, .int .u8 0, .int .u16 0, .int .u16 0, .int .u16 0, .int .u16 0, .int .u16 0, .int .u16 0, .int .u16 0, .int .u16 0, .int .u16 0, .int .u16 0, .slice none 0 0, .slice none 0 0, .slice none 0 0, .slice none 0 0, .int .u8 0, .int .u8 0, .int .u8 0, .int .u8 0, .int .u8 0, .slice none 0 0]) z30 l30 (fun _ => rfl)) ?_
   refine GL_stA rfl rfl c30 (by simp [Value.oneCell']) (by rfl) ?_
   refine GL_v rfl (rv_as (v := .int .i64 _) vw) ?_
   refine GL_nil ?_
   refine GC_shift .nil (msg0 {}) ?_
   refine GC_ret ?_
   exact finA (T' := [msgR { m := {} }]) (.inr rfl) rfl rfl rfl inferInstance a30 rfl .nil sb ⟨{ m := {} }, rfl, rfl, rfl, rfl⟩
  ·
   have hb : bb = true := by simpa using h1
   obtain ⟨F, fv, hF, hfv, f, caps, caps2, rfl, hcb, hct⟩ := hyes hb d hd2
   rw [hF] at hp
   simp only at hp
   refine GC_skip ?_
   refine GC_seq ?_
   refine GC_region ?_
   refine GL_v rfl (rv_mv (v := .int .i64 _) vw) ?_
   refine GL_v rfl (rv_ixA (i := d) Tryz.underlying150 c1 vw vw (fun _ => rfl) (fun _ => hd2)) ?_
   refine GL_v rfl (rv_ld (v := .func (.func f) caps.toArray caps2.toArray) (hv := ⟨hfv⟩) Tryz.underlying1 rfl vw) ?_
   refine GL_callC rfl rfl hcb (by show caps ++ [] ++ caps2 = caps ++ caps2; simp) (hct n1 k1 A1 b false 0 hn1) pB2 sR ?_
   rintro _ _ _ ⟨x, r, s, e, A9, n9, k9, hx, hn9, rfl, rfl, rfl⟩
   simp only [List.cons_append, List.nil_append]
   rw [hx] at hp
   refine GL_nil ?_
   refine GC_seq ?_
   refine GC_region ?_
   refine GL_v rfl (rv_fa fa149_0 vw) ?_
   refine GL_v rfl (rv_ld Tryz.underlying80 rfl vw) ?_
   refine GL_call rfl cb159 (End_k B n9 k9 A9 r s e) rfl pB sR ?_
   rintro _ _ _ ⟨e2, hc2, rfl, rfl, rfl⟩
   simp only [List.cons_append, List.nil_append]
   refine GL_nil ?_
   refine GC_seq ?_
   refine GC_seq ?_
   refine GC_region ?_
   refine GL_v rfl (rv_fa fa149_0 vw) ?_
   refine GL_v rfl (rv_ld Tryz.underlying80 rfl vw) ?_
   refine GL_callD rfl cb160 (Err_ct B n9 k9 A9 s e2) rfl pB .nil ?_
   refine GL_v rfl (rv_as (v := .int .i64 _) vw) ?_
   refine GL_nil ?_
   refine GC_seq ?_
   refine GC_region ?_
   refine GL_v rfl (rv_mv (v := .int .i64 _) vw) ?_
   refine GL_v rfl (rv_neq vw vw) ?_
   refine GL_nil ?_
   refine GC_cond rfl (fun h2 => ?_) (fun h2 => ?_)
   ·
    have he : ¬ e2 = 0 := by simpa using h2
    rw [finish_no hc2 he] at hp
    obtain rfl := hp
    refine GC_seq ?_
    refine GC_region ?_
    refine GL_v rfl (rv_bld (z' := [.int .u8 0, .int .u8 0, .int .u16 0, .int .u16 0, .int .u16 0, .int .u16 0, .int .u16 0, .int .u16 0, .int .u16 0, .int .u16 0, .int .u16 0, .int .u16 0, .slice none 0 0, .slice none 0 0, .slice none 0 0, .slice none 0 0, .int .u8 0, .int .u8 0, .int .u8 0, .int .u8 0, .int .u8 0, .slice none 0 0]) z30 l30 (fun _ => rfl)) ?_
    refine GL_v rfl (rv_mv (v := .int .i64 _) vw) ?_
    refine GL_stA rfl rfl c30 (by simp [Value.oneCell']) (by rfl) ?_
    refine GL_v rfl (rv_as (v := .int .i64 _) vw) ?_
    refine GL_nil ?_
    refine GC_shift .nil (msg0 {}) ?_
    refine GC_ret ?_
    exact finA (T' := [msgR { m := {} }]) (.inr rfl) rfl rfl rfl inferInstance a30 rfl .nil sb ⟨{ m := {} }, rfl, rfl, rfl, rfl⟩
   ·
    have he : e2 = 0 := by simpa using h2
    rw [finish_ok hc2 he] at hp
    obtain rfl := hp
    refine GC_skip ?_
    refine GC_seq ?_
    refine GC_region ?_
    refine GL_v rfl (rv_ldA a30 vw rfl) ?_
    refine GL_stA (l' := x.cells) rfl rfl c30 (MsgX.cells_one _) (by rfl) ?_
    refine GL_v rfl (rv_as (v := .int .i64 _) vw) ?_
    refine GL_nil ?_
    refine GC_ret ?_
    exact finA (T' := [msgR x]) (.inr rfl) rfl rfl rfl inferInstance a30 rfl .nil sb ⟨x, rfl, rfl, rfl, rfl⟩
theorem L08_ct (dir : Int) (x : MsgX) (hf : x.m.few) : Ct PG 161 [.int .i64 dir, .agg x.cells.toArray] [] [msgR x] (BytesO (L08 dir x.m)) := by
 refine Ct_of Tryz.func161 rfl 62 rfl (Nat.le_of_ble_eq_true rfl) fun w0 M N => ?_
 refine GC_msg x fun hx => ?_
 have hbits := hx.bits
 have hdata := hx.data
 obtain ⟨f1, f2, f3, f4, f5, f6, f7⟩ := hf
 obtain ⟨l, hl⟩ : ∃ l, L08 dir x.m = l := ⟨_, rfl⟩
 rw [hl]
 unfold L08 at hl
 refine GC_shift .nil (msg_bits (x := x)) ?_
 refine GC_shift .nil (msg_data (x := x)) ?_
 refine GC_seq ?_
 refine GC_region ?_
 refine GL_boxA (l := x.cells) rfl rfl (fun b3 => ?_)
 rw [x.cells_eq]
 refine GL_v rfl (rv_as (v := .slice _ _ _) vw) ?_
 refine GL_nil ?_
 refine GC_seq ?_
 refine GC_block ?_
 refine GC_seq ?_
 refine GC_region ?_
 refine GL_v rfl (rv_fa fa30_0 vw) ?_
 refine GL_v rfl (rv_ld Tryz.underlying5 rfl vw) ?_
 refine GL_v rfl (rv_eql vw vw) ?_
 refine GL_v rfl (rv_as (v := .bool _) vw) ?_
 refine GL_nil ?_
 refine GC_cond rfl (fun h0 => ?_) (fun h0 => ?_)
 ·
  have hc : x.m.code.toNat = 5 := by simp at h0; omega
  rw [if_pos hc] at hl
  subst hl
  refine GC_seq ?_
  refine GC_region ?_
  refine GL_v rfl (rv_fa fa30_2 vw) ?_
  refine GL_v rfl (rv_ld Tryz.underlying24 rfl vw) ?_
  refine GL_v rfl (rv_fa fa30_4 vw) ?_
  refine GL_v rfl (rv_ld Tryz.underlying24 rfl vw) ?_
  refine GL_bs (l := wordsV [x.m.addr, x.m.value]) rfl el25 z24 rfl rfl rfl (fun b14 => ?_)
  refine GL_shift (.cons .here .nil) (blk_own (n := 2) (sz := 1) rfl (by decide)) ?_
  refine GL_shift (.cons .here .nil) own_toRow ?_
  refine GL_call rfl cb77 (Put_ct _ 2 2 [x.m.addr, x.m.value] (by decide)) rfl .nil sb ?_
  rintro _ _ _ ⟨A2, k2, rfl, rfl, rfl⟩
  simp only [List.cons_append, List.nil_append]
  refine GL_shift (.cons .here .nil) own_toRow ?_
  refine GL_v rfl (rv_as (v := .slice _ _ _) vw) ?_
  refine GL_nil ?_
  refine GC_ret ?_
  exact fin1 (.inr rfl) rfl rfl .nil sb ⟨A2, _, k2, rfl, rfl, rfl⟩
 ·
  have hc : ¬ x.m.code.toNat = 5 := by simp at h0; omega
  rw [if_neg hc] at hl
  refine GC_seq ?_
  refine GC_region ?_
  refine GL_v rfl (rv_fa fa30_0 vw) ?_
  refine GL_v rfl (rv_ld Tryz.underlying5 rfl vw) ?_
  refine GL_v rfl (rv_eql vw vw) ?_
  refine GL_v rfl (rv_mv (v := .bool _) vw) ?_
  refine GL_g rfl rfl gvt (rv_mv (v := .int .i64 _) vw) ?_
  refine GL_g rfl rfl gvt (rv_eql vwg vw) ?_
  refine GL_v rfl (rv_and vw vwg) ?_
  refine GL_v rfl (rv_as (v := .bool _) vw) ?_
  refine GL_nil ?_
  refine GC_cond rfl (fun h1 => ?_) (fun h1 => ?_)
  ·
   have hc1 : x.m.code.toNat = 15 ∧ dir = 0 := by simp at h1; omega
   rw [if_pos hc1] at hl
   subst hl
   refine GC_seq ?_
   refine GC_region ?_
   refine GL_v rfl (rv_fa fa30_13 vw) ?_
   refine GL_v rfl (rv_ld Tryz.underlying26 rfl vw) ?_
   refine GL_call rfl cb193 (Pack_ct x.b.A x.b.n x.b.k x.m.bits (by omega)) rfl .nil sb ?_
   rintro _ _ _ ⟨Bp, rfl, rfl, rfl⟩
   simp only [List.cons_append, List.nil_append]
   refine GL_shift (.cons .here .nil) own_toRow ?_
   refine GL_v rfl (rv_as (v := .slice _ _ _) vw) ?_
   refine GL_nil ?_
   have hmn : many x.b.n ≤ x.b.n := by unfold many; omega
   have hpl : (packS x.m.bits).length = many x.b.n := by rw [packS_length, hbits]
   refine GC_seq ?_
   refine GC_region ?_
   refine GL_v rfl (rv_fa fa30_2 vw) ?_
   refine GL_v rfl (rv_ld Tryz.underlying24 rfl vw) ?_
   refine GL_v rfl (rv_fa fa30_3 vw) ?_
   refine GL_v rfl (rv_ld Tryz.underlying24 rfl vw) ?_
   refine GL_bs (l := wordsV [x.m.addr, x.m.count]) rfl el25 z24 rfl rfl rfl (fun b31 => ?_)
   refine GL_shift (.cons .here .nil) (blk_own (n := 2) (sz := 1) rfl (by decide)) ?_
   refine GL_shift (.cons .here .nil) own_toRow ?_
   refine GL_call rfl cb77 (Put_ct _ 2 2 [x.m.addr, x.m.count] (by decide)) rfl .nil sb ?_
   rintro _ _ _ ⟨A2, k2, rfl, rfl, rfl⟩
   simp only [List.cons_append, List.nil_append]
   refine GL_v rfl (rv_mv (v := .slice _ _ _) vw) ?_
   refine GL_v rfl (rv_len el22 vw) ?_
   refine GL_v rfl (rv_cnv (r := ((UInt8.ofNat (many x.b.n)).toNat : Int)) Tryz.underlying3 Tryz.underlying5 vw (fun _ => wrap8 _)) ?_
   refine GL_bs (l := bytesV [UInt8.ofNat (many x.b.n)]) rfl el22 z5 rfl rfl rfl (fun b36 => ?_)
   refine GL_app (m := 1) rfl el22 rfl rfl pW rfl (bytesV_one _) (by omega) (by simp [maxLen]) (fun A3 k3 => ?_)
   refine GL_v rfl (rv_mv (v := .slice _ _ _) vw) ?_
   refine GL_app (m := many x.b.n) rfl el22 rfl rfl pW (by rw [bytesV_length, hpl, Nat.mul_one]) (bytesV_one _) (by omega) (by simp [maxLen]; omega) (fun A4 k4 => ?_)
   rw [← bytesV_append, ← bytesV_append, hpl.symm, List.append_assoc]
   refine GL_shift (.cons .here .nil) own_toRow ?_
   refine GL_v rfl (rv_as (v := .slice _ _ _) vw) ?_
   refine GL_nil ?_
   refine GC_ret ?_
   exact fin1 (T' := [row 1 A4 (2 * 2 + 1 + (packS x.m.bits).length) k4 (bytesV (putW [x.m.addr, x.m.count] ++ ([UInt8.ofNat (packS x.m.bits).length] ++ packS x.m.bits)))]) (.inr rfl) rfl rfl .nil sb ⟨A4, _, k4, rfl, rfl, rfl⟩
  ·
   have hc1 : ¬ (x.m.code.toNat = 15 ∧ dir = 0) := by simp at h1; omega
   rw [if_neg hc1] at hl
   refine GC_seq ?_
   refine GC_region ?_
   refine GL_v rfl (rv_mv (v := .int .i64 _) vw) ?_
   refine GL_v rfl (rv_eql vw vw) ?_
   refine GL_v rfl (rv_mv (v := .bool _) vw) ?_
   refine GL_g rfl rfl gvt (rv_fa fa30_0 vw) ?_
   refine GL_g rfl rfl gvt (rv_ld Tryz.underlying5 rfl vwg) ?_
   refine GL_g rfl rfl gvt (rv_neq vwg vw) ?_
   refine GL_v rfl (rv_and vw vwg) ?_
   refine GL_v rfl (rv_as (v := .bool _) vw) ?_
   refine GL_nil ?_
   refine GC_cond rfl (fun h2 => ?_) (fun h2 => ?_)
   ·
    have hc2 : dir = 1 ∧ x.m.code.toNat ≠ 15 := by simp at h2; omega
    rw [if_pos hc2] at hl
    subst hl
    refine GC_seq ?_
    refine GC_region ?_
    refine GL_v rfl (rv_fa fa30_14 vw) ?_
    refine GL_v rfl (rv_ld Tryz.underlying22 rfl vw) ?_
    refine GL_v rfl (rv_len el22 vw) ?_
    refine GL_v rfl (rv_cnv (r := ((UInt8.ofNat x.d.n).toNat : Int)) Tryz.underlying3 Tryz.underlying5 vw (fun _ => wrap8 _)) ?_
    refine GL_bs (l := bytesV [UInt8.ofNat x.d.n]) rfl el22 z5 rfl rfl rfl (fun b52 => ?_)
    refine GL_shift (.cons .here .nil) (blk_own (n := 1) (sz := 1) rfl (by decide)) ?_
    refine GL_v rfl (rv_fa fa30_14 vw) ?_
    refine GL_v rfl (rv_ld Tryz.underlying22 rfl vw) ?_
    refine GL_app (m := x.d.n) rfl el22 rfl rfl pW (by rw [bytesV_length, hdata, Nat.mul_one]) (bytesV_one _) (by omega) (by simp [maxLen]; omega) (fun A4 k4 => ?_)
    rw [← bytesV_append]
    refine GL_shift (.cons .here .nil) own_toRow ?_
    refine GL_v rfl (rv_as (v := .slice _ _ _) vw) ?_
    refine GL_nil ?_
    refine GC_ret ?_
    exact fin1 (T' := [row 1 A4 (1 + x.d.n) k4 (bytesV ([UInt8.ofNat x.d.n] ++ x.m.data))]) (.inr rfl) rfl rfl .nil sb ⟨A4, _, k4, rfl, rfl, by first | (rw [hdata]; done) | (rw [hdata]; rfl)⟩
   ·
    have hc2 : ¬ (dir = 1 ∧ x.m.code.toNat ≠ 15) := by simp at h2; omega
    rw [if_neg hc2] at hl
    subst hl
    refine GC_skip ?_
    refine GC_seq ?_
    refine GC_region ?_
    refine GL_v rfl (rv_fa fa30_2 vw) ?_
    refine GL_v rfl (rv_ld Tryz.underlying24 rfl vw) ?_
    refine GL_v rfl (rv_fa fa30_3 vw) ?_
    refine GL_v rfl (rv_ld Tryz.underlying24 rfl vw) ?_
    refine GL_bs (l := wordsV [x.m.addr, x.m.count]) rfl el25 z24 rfl rfl rfl (fun b60 => ?_)
    refine GL_shift (.cons .here .nil) (blk_own (n := 2) (sz := 1) rfl (by decide)) ?_
    refine GL_shift (.cons .here .nil) own_toRow ?_
    refine GL_call rfl cb77 (Put_ct _ 2 2 [x.m.addr, x.m.count] (by decide)) rfl .nil sb ?_
    rintro _ _ _ ⟨A2, k2, rfl, rfl, rfl⟩
    simp only [List.cons_append, List.nil_append]
    refine GL_shift (.cons .here .nil) own_toRow ?_
    refine GL_v rfl (rv_as (v := .slice _ _ _) vw) ?_
    refine GL_nil ?_
    refine GC_ret ?_
    exact fin1 (.inr rfl) rfl rfl .nil sb ⟨A2, _, k2, rfl, rfl, rfl⟩
theorem L08_len (dir : Int) (m : MsgD) (hf : m.few) : (L08 dir m).length ≤ 1000000 := by
 obtain ⟨f1, f2, f3, f4, f5, f6, f7⟩ := hf
 have : many m.bits.length ≤ m.bits.length := by unfold many; omega
 unfold L08
 split
 · simp [putW]
 · split
   · simp [putW, packS_length]; omega
   · split
     · simp; omega
     · simp [putW]
theorem W08_ct (dir : Int) (x : MsgX) (hf : x.m.few) : Ct PG 99 [.int .i64 dir, .agg x.cells.toArray] [] [msgR x] (BytesOut (W08 dir x.m)) := by
 refine Ct_of Tryz.func99 rfl 29 rfl (Nat.le_of_ble_eq_true rfl) fun w0 M N => ?_
 refine GC_seq ?_
 refine GC_region ?_
 refine GL_boxA (l := x.cells) rfl rfl (fun b3 => ?_)
 refine GL_v rfl (rv_as (v := .slice _ _ _) vw) ?_
 refine GL_v rfl (rv_as (v := .int .i64 _) vw) ?_
 refine GL_nil ?_
 refine GC_seq ?_
 refine GC_region ?_
 refine GL_v rfl (rv_mv (v := .int .i64 _) vw) ?_
 refine GL_v rfl (rv_ldA (l := x.cells) a30 vw rfl) ?_
 refine GL_call rfl cb161 (L08_ct dir x hf) rfl .nil sb ?_
 rintro _ _ _ ⟨A, n, k, rfl, rfl, rfl⟩
 simp only [List.cons_append, List.nil_append]
 refine GL_row A fun hr => ?_
 have hn : (L08 dir x.m).length = n := by have := hr.1; simpa [bytesV] using this
 have hlen := L08_len dir x.m hf
 refine GL_v rfl (rv_as (v := .slice _ _ _) vw) ?_
 refine GL_nil ?_
 refine GC_seq ?_
 refine GC_region ?_
 refine GL_v rfl (rv_mv (v := .int .i64 _) vw) ?_
 refine GL_v rfl (rv_fa fa30_0 vw) ?_
 rw [x.cells_eq]
 refine GL_v rfl (rv_ld (v := b8 x.m.code) Tryz.underlying5 rfl vw) ?_
 refine GL_v rfl (rv_mv (v := .slice _ _ _) vw) ?_
 refine GL_call rfl cb98 (P08_ct dir x.m.code A n k (L08 dir x.m) (by omega)) rfl .nil sb ?_
 rintro _ _ _ ⟨y, rfl, hy, rfl, rfl⟩
 simp only [List.cons_append, List.nil_append]
 obtain ⟨p, e, hp⟩ : ∃ p e, P08 dir x.m.code (L08 dir x.m) = (p, e) := ⟨_, _, rfl⟩
 rw [hp] at hy ⊢
 simp only at hy ⊢
 refine GL_v rfl (rv_mv (v := .tuple [.agg y.cells.toArray, .int .i64 e].toArray) vw) ?_
 refine GL_v rfl (rv_ext vw rfl) ?_
 refine GL_v rfl (rv_ext vw rfl) ?_
 refine GL_alloc rfl z30 (fun b7 => ?_)
 refine GL_stA (l' := y.cells) rfl rfl c30 (MsgX.cells_one _) (by rfl) ?_
 rw [← x.cells_eq]
 refine GL_v rfl (rv_as (v := .int .i64 _) vw) ?_
 refine GL_nil ?_
 refine GC_seq ?_
 refine GC_seq ?_
 refine GC_region ?_
 refine GL_v rfl (rv_mv (v := .int .i64 _) vw) ?_
 refine GL_v rfl (rv_neq vw vw) ?_
 refine GL_v rfl (rv_mv (v := .bool _) vw) ?_
 refine GL_g rfl rfl gvf (rv_ldA (l := y.cells) a30 vw rfl) ?_
 refine GL_g rfl rfl gvf (rv_ldA (l := x.cells) a30 vw rfl) ?_
 refine GL_callG rfl rfl gvf cb125 (fun _ => SameP_ct y x) (fun q => by show [gd _ _, gd _ _] = _; rw [vwg q, vwg q]) (fun _ => sb) ?_
 refine GL_g rfl rfl gvf (rv_not vwg) ?_
 refine GL_v rfl (rv_or vw vwg) ?_
 refine GL_nil ?_
 refine GC_cond rfl (fun h0 => ?_) (fun h0 => ?_)
 ·
  have hh : ¬ (e = 0 ∧ p = x.m) := by
   rintro ⟨rfl, rfl⟩
   rw [hy] at h0; simp at h0
  have he : W08 dir x.m = ([], 1) := by unfold W08 writeBy; rw [hp]; exact if_neg hh
  rw [he]
  refine GC_seq ?_
  refine GC_region ?_
  refine GL_v rfl (rv_as (v := .slice _ _ _) vw) ?_
  refine GL_v rfl (rv_as (v := .int .i64 _) vw) ?_
  refine GL_nil ?_
  refine GC_shift .nil (nil_row (sz := 1)) ?_
  refine GC_ret ?_
  exact fin2 (T' := [row 1 none 0 0 []]) (.inr rfl) rfl rfl rfl .nil sb ⟨none, 0, 0, rfl, rfl, rfl⟩
 ·
  have hh : e = 0 ∧ p = x.m := by
   rw [hy] at h0; simpa using h0
  have he : W08 dir x.m = (L08 dir x.m, 0) := by unfold W08 writeBy; rw [hp]; exact if_pos hh
  rw [he]
  refine GC_skip ?_
  refine GC_seq ?_
  refine GC_region ?_
  refine GL_v rfl (rv_mv (v := .slice _ _ _) vw) ?_
  refine GL_v rfl (rv_as (v := .slice _ _ _) vw) ?_
  refine GL_v rfl (rv_as (v := .int .i64 _) vw) ?_
  refine GL_nil ?_
  refine GC_ret ?_
  exact fin2 (.inr rfl) rfl rfl rfl .nil sb ⟨A, n, k, rfl, rfl, rfl⟩
end Go.Bus
