/- Part of the proof: Regs. No condition. -/
import Derived.Test.YtlfjioigkojjdaaGreatUBCoils
set_option linter.unusedVariables false
set_option linter.unusedSimpArgs false
set_option maxRecDepth 100000
set_option maxHeartbeats 4000000
namespace Go.Bus
open Go Go.Proofs
theorem spanR_ct (B n k : Nat) (A : Option Addr) (r : List UInt8) (s : Bool) (e : Int) (a : UInt16) (most : Int) (hn : n ≤ 35184372088832) : Ct PG 195 [.pointer (some ⟨B, 0, none⟩), w16 a, .int .i64 most] [cub B A n k s e] [row 1 A n k (bytesV r)]
 (fun v S' T' => ∃ j r1 s1 e1 A1 n1 k1, spanN most a ⟨r, s, e⟩ = (j, ⟨r1, s1, e1⟩) ∧ n1 ≤ 35184372088832 ∧ v = .int .i64 j.toNat ∧ S' = [cub B A1 n1 k1 s1 e1] ∧ T' = [row 1 A1 n1 k1 (bytesV r1)]) := by
 refine Ct_of Tryz.func195 rfl 26 rfl (Nat.le_of_ble_eq_true rfl) fun w0 M N => ?_
 refine GC_seq ?_
 refine GC_region ?_
 refine GL_v rfl (rv_as (v := .int .i64 _) vw) ?_
 refine GL_nil ?_
 refine GC_seq ?_
 refine GC_region ?_
 refine GL_v rfl (rv_mv (v := .pointer _) vw) ?_
 refine GL_call rfl cb73 (Word_k B n k A r s e hn) rfl pB sR ?_
 rintro _ _ _ ⟨j, r1, s1, e1, A1, n1, k1, hc1, hn1, rfl, rfl, rfl⟩
 simp only [List.cons_append, List.nil_append]
 have hj := j.toNat_lt
 refine GL_v rfl (rv_cnv (r := (j.toNat : Int)) Tryz.underlying24 Tryz.underlying3 vw (fun _ => IntWalk.i64_in _ (by omega))) ?_
 refine GL_v rfl (rv_as (v := .int .i64 _) vw) ?_
 refine GL_nil ?_
 refine GC_seq ?_
 refine GC_region ?_
 refine GL_v rfl (rv_mv (v := .pointer _) vw) ?_
 refine GL_v rfl (rv_mv (v := .int .i64 _) vw) ?_
 refine GL_v rfl (rv_geq vw vw) ?_
 refine GL_v rfl (rv_mv (v := .bool _) vw) ?_
 refine GL_g rfl rfl gvt (rv_mv (v := .int .i64 _) vw) ?_
 refine GL_g rfl rfl gvt (rv_mv (v := .int .i64 _) vw) ?_
 refine GL_g rfl rfl gvt (rv_leq vwg vwg) ?_
 refine GL_v rfl (rv_and vw vwg) ?_
 refine GL_call rfl cb133 (Need_k B n1 k1 A1 r1 s1 e1 (decide ((1 : Int) ≤ j.toNat) && decide ((j.toNat : Int) ≤ most)) 5) rfl pB .nil ?_
 rintro _ _ _ ⟨e2, hc2, rfl, rfl, rfl⟩
 simp only [List.cons_append, List.nil_append]
 refine GL_nil ?_
 refine GC_seq ?_
 refine GC_region ?_
 refine GL_v rfl (rv_mv (v := .pointer _) vw) ?_
 refine GL_v rfl (rv_mv (v := w16 a) vw) ?_
 refine GL_v rfl (rv_mv (v := .int .i64 _) vw) ?_
 refine GL_callD rfl cb220 (Within_ct a j.toNat) rfl .nil .nil ?_
 refine GL_call rfl cb133 (Need_k B n1 k1 A1 r1 s1 e2 (within a j.toNat) 7) rfl pB .nil ?_
 rintro _ _ _ ⟨e3, hc3, rfl, rfl, rfl⟩
 simp only [List.cons_append, List.nil_append]
 refine GL_nil ?_
 refine GC_seq ?_
 refine GC_region ?_
 refine GL_v rfl (rv_mv (v := .int .i64 _) vw) ?_
 refine GL_v rfl (rv_as (v := .int .i64 _) vw) ?_
 refine GL_nil ?_
 refine GC_ret ?_
 exact fin1 (.inr rfl) rfl rfl pB sb ⟨j, r1, s1, e3, A1, n1, k1, by simp only [spanN, hc1, hc2, hc3], hn1, rfl, rfl, rfl⟩
theorem counted_ct (B n k : Nat) (A : Option Addr) (r : List UInt8) (s : Bool) (e : Int) (j : Nat) (hj : j < 65536) (hn : n ≤ 35184372088832) : Ct PG 200 [.pointer (some ⟨B, 0, none⟩), .int .i64 j] [cub B A n k s e] [row 1 A n k (bytesV r)]
 (fun v S' T' => ∃ l r1 s1 e1 A1 n1 k1 A2 n2 k2, countedS j ⟨r, s, e⟩ = (l, ⟨r1, s1, e1⟩) ∧ n1 ≤ 35184372088832 ∧ v = .slice A2 n2 k2 ∧ S' = [cub B A1 n1 k1 s1 e1] ∧ T' = [row 1 A1 n1 k1 (bytesV r1), row 1 A2 n2 k2 (wordsV l)]) := by
 refine Ct_of Tryz.func200 rfl 16 rfl (Nat.le_of_ble_eq_true rfl) fun w0 M N => ?_
 refine GC_seq ?_
 refine GC_region ?_
 refine GL_v rfl (rv_as (v := .slice _ _ _) vw) ?_
 refine GL_nil ?_
 refine GC_seq ?_
 refine GC_region ?_
 refine GL_v rfl (rv_mv (v := .pointer _) vw) ?_
 refine GL_v rfl (rv_mv (v := .pointer _) vw) ?_
 refine GL_call rfl cb74 (Byte_k B n k A r s e hn) rfl pB sR ?_
 rintro _ _ _ ⟨q, r1, s1, e1, A1, n1, k1, hc1, hn1, rfl, rfl, rfl⟩
 simp only [List.cons_append, List.nil_append]
 have hq := q.toNat_lt
 refine GL_v rfl (rv_cnv (r := (q.toNat : Int)) Tryz.underlying5 Tryz.underlying3 vw (fun _ => IntWalk.i64_in _ (by omega))) ?_
 refine GL_v rfl (rv_mv (v := .int .i64 _) vw) ?_
 refine GL_v rfl (rv_mul (r := 2 * (j : Int)) vw vw (fun _ => IntWalk.i64_in _ (by omega))) ?_
 refine GL_v rfl (rv_eql vw vw) ?_
 refine GL_call rfl cb133 (Need_k B n1 k1 A1 r1 s1 e1 (decide ((q.toNat : Int) = 2 * (j : Int))) 5) rfl pB .nil ?_
 rintro _ _ _ ⟨e2, hc2, rfl, rfl, rfl⟩
 simp only [List.cons_append, List.nil_append]
 refine GL_nil ?_
 refine GC_seq ?_
 refine GC_region ?_
 refine GL_v rfl (rv_mv (v := .pointer _) vw) ?_
 refine GL_v rfl (rv_mv (v := .int .i64 _) vw) ?_
 refine GL_call rfl cb132 (Words_k B n1 k1 A1 r1 s1 e2 j hn1) rfl pB sR ?_
 rintro _ _ _ ⟨l, r3, s3, e3, A3, n3, k3, Ax3, nx3, kx3, hc3, hn3, rfl, rfl, rfl⟩
 simp only [List.cons_append, List.nil_append]
 refine GL_v rfl (rv_as (v := .slice _ _ _) vw) ?_
 refine GL_nil ?_
 refine GC_ret ?_
 exact fin1 (.inr rfl) rfl rfl pB sb ⟨l, r3, s3, e3, A3, n3, k3, Ax3, nx3, kx3, by simp only [countedS, hc1, hc2, hc3], hn3, rfl, rfl, rfl⟩
theorem where_ct (B B2 Bc Bm n k : Nat) (A : Option Addr) (r : List UInt8) (s : Bool) (e : Int) (code : UInt8) (most : Int) (hn : n ≤ 35184372088832) : Ct PG 194 [.int .i64 most, .pointer (some ⟨Bc, 0, none⟩), .pointer (some ⟨Bm, 0, none⟩)] [cub B A n k s e, mub B2 { m := { code := code } }] [row 1 A n k (bytesV r), blk Bc [.pointer (some ⟨B, 0, none⟩)] 80, blk Bm [.pointer (some ⟨B2, 0, none⟩)] 115] 
 (fun v S' T' => ∃ a j r1 s1 e1 A1 n1 k1, spanC most ⟨r, s, e⟩ = (a, j, ⟨r1, s1, e1⟩) ∧ n1 ≤ 35184372088832 ∧ v = .tuple #[] ∧ S' = [cub B A1 n1 k1 s1 e1, mub B2 { m := { code := code, addr := a, count := j } }] ∧ T' = [row 1 A1 n1 k1 (bytesV r1)]) := by
 refine Ct_of Tryz.func194 rfl 20 rfl (Nat.le_of_ble_eq_true rfl) fun w0 M N => ?_
 have e00 : MsgX.cells { m := { code := code } } = [b8 code, .int .u8 0, .int .u16 0, .int .u16 0, .int .u16 0, .int .u16 0, .int .u16 0, .int .u16 0, .int .u16 0, .int .u16 0, .int .u16 0, .int .u16 0, .slice none 0 0, .slice none 0 0, .slice none 0 0, .slice none 0 0, .int .u8 0, .int .u8 0, .int .u8 0, .int .u8 0, .int .u8 0, .slice none 0 0] := rfl
 unfold mub; rw [e00]
 refine GC_seq ?_
 refine GC_draw 6 ([blk Bc [.pointer (some ⟨B, 0, none⟩)] 80, blk Bm [.pointer (some ⟨B2, 0, none⟩)] 115]) mixed ?_
 refine GA_v (i := 0) rfl rfl rfl (by kernel_rfl) (rv_ld Tryz.underlying115 rfl vw) ?_
 refine GA_v (i := 1) rfl rfl rfl (by kernel_rfl) (rv_ld Tryz.underlying80 rfl vw) ?_
 refine GA_one 2 rfl rfl (by kernel_rfl) ?_
 refine GL_call rfl cb73 (Word_k B n k A r s e hn) rfl pB sR ?_
 rintro _ _ _ ⟨a, r1, s1, e1, A1, n1, k1, hc1, hn1, rfl, rfl, rfl⟩
 simp only [List.cons_append, List.nil_append]
 refine GL_nil ⟨inferInstance, ?_⟩
 refine GA_v (i := 3) rfl rfl rfl (by kernel_rfl) (rv_nil vw) ?_
 refine GA_v (i := 4) rfl rfl rfl (by kernel_rfl) (rv_fa fa30_2 vw) ?_
 refine GA_one 5 rfl rfl (by kernel_rfl) ?_
 refine GL_st (u := w16 a) rfl rfl c24 rfl ?_
 refine GL_nil ⟨inferInstance, ?_⟩
 refine GA_nil (by kernel_rfl) ?_
 refine GC_draw 9 ([blk Bc [.pointer (some ⟨B, 0, none⟩)] 80, blk Bm [.pointer (some ⟨B2, 0, none⟩)] 115, blk B2 [b8 code, .int .u8 0, w16 a, .int .u16 0, .int .u16 0, .int .u16 0, .int .u16 0, .int .u16 0, .int .u16 0, .int .u16 0, .int .u16 0, .int .u16 0, .slice none 0 0, .slice none 0 0, .slice none 0 0, .slice none 0 0, .int .u8 0, .int .u8 0, .int .u8 0, .int .u8 0, .int .u8 0, .slice none 0 0] 30]) mixed ?_
 refine GA_v (i := 0) rfl rfl rfl (by kernel_rfl) (rv_ld Tryz.underlying115 rfl vw) ?_
 refine GA_v (i := 1) rfl rfl rfl (by kernel_rfl) (rv_ld Tryz.underlying80 rfl vw) ?_
 refine GA_v (i := 2) rfl rfl rfl (by kernel_rfl) (rv_ld Tryz.underlying115 rfl vw) ?_
 refine GA_v (i := 3) rfl rfl rfl (by kernel_rfl) (rv_nil vw) ?_
 refine GA_v (i := 4) rfl rfl rfl (by kernel_rfl) (rv_fa fa30_2 vw) ?_
 refine GA_v (i := 5) rfl rfl rfl (by kernel_rfl) (rv_ld Tryz.underlying24 rfl vw) ?_
 refine GA_v (i := 6) rfl rfl rfl (by kernel_rfl) (rv_mv (v := .int .i64 _) vw) ?_
 refine GA_one 7 rfl rfl (by kernel_rfl) ?_
 refine GL_call rfl cb195 (spanR_ct B n1 k1 A1 r1 s1 e1 a most hn1) rfl pB sR ?_
 rintro _ _ _ ⟨j, r2, s2, e2, A2, n2, k2, hsp, hn2, rfl, rfl, rfl⟩
 simp only [List.cons_append, List.nil_append]
 have hj := j.toNat_lt
 refine GL_nil ⟨inferInstance, ?_⟩
 refine GA_v (i := 8) rfl rfl rfl (by kernel_rfl) (rv_cnv (r := (j.toNat : Int)) Tryz.underlying3 Tryz.underlying24 vw (fun _ => IntWalk.u16_in _ (by omega))) ?_
 refine GA_free (by kernel_rfl) ?_
 refine GA_w (i := 9) rfl rfl rfl (by kernel_rfl) (rv_nil vw) ?_
 refine GA_w (i := 10) rfl rfl rfl (by kernel_rfl) (rv_fa fa30_3 vw) ?_
 refine GA_last 11 rfl (by kernel_rfl) ?_
 refine GL_st (u := w16 j) rfl rfl c24 rfl ?_
 refine GL_nil ?_
 refine GA_nil (by kernel_rfl) ?_
 exact fin0 (.inl rfl) rfl pB2 sb ⟨a, j, r2, s2, e2, A2, n2, k2, spanC_spanN hc1 hsp, hn2, rfl, rfl, rfl⟩
theorem f196_ct (B B2 Bc Bm n k : Nat) (A : Option Addr) (r : List UInt8) (s : Bool) (e : Int) (code : UInt8) (Bw : Nat) (hn : n ≤ 35184372088832) : Ct PG 196 [.pointer (some ⟨Bw, 0, none⟩)] [cub B A n k s e, mub B2 { m := { code := code } }] [row 1 A n k (bytesV r), blk Bc [.pointer (some ⟨B, 0, none⟩)] 80, blk Bm [.pointer (some ⟨B2, 0, none⟩)] 115, blk Bw [.func (.func 194) [].toArray [.pointer (some ⟨Bc, 0, none⟩), .pointer (some ⟨Bm, 0, none⟩)].toArray] 185] (FormOut B B2 (asksR 125 { code := code } ⟨r, s, e⟩)) := by
 refine Ct_of Tryz.func196 rfl 3 rfl (Nat.le_of_ble_eq_true rfl) fun w0 M N => ?_
 refine GC_region ?_
 refine GL_v rfl (rv_ld (v := .func (.func 194) [].toArray [.pointer (some ⟨Bc, 0, none⟩), .pointer (some ⟨Bm, 0, none⟩)].toArray) Tryz.underlying185 rfl vw) ?_
 refine GL_callC rfl rfl cb194 rfl (where_ct B B2 Bc Bm n k A r s e code 125 hn) pB2 sb ?_
 rintro _ _ _ ⟨a, j, r1, s1, e1, A1, n1, k1, hs, hn1, rfl, rfl, rfl⟩
 simp only [List.cons_append, List.nil_append]
 refine GL_shift .nil (msg0 { code := code, addr := a, count := j }) ?_
 refine GL_nil ?_
 exact fin0 (.inl rfl) rfl pB2 sb ⟨{ m := { code := code, addr := a, count := j } }, r1, s1, e1, A1, n1, k1, by simp only [asksR, hs], hn1, rfl, rfl, rfl⟩
theorem f197_ct (B B2 Bc Bm n k : Nat) (A : Option Addr) (r : List UInt8) (s : Bool) (e : Int) (code : UInt8) (hn : n ≤ 35184372088832) : Ct PG 197 [.pointer (some ⟨Bc, 0, none⟩), .pointer (some ⟨Bm, 0, none⟩)] [cub B A n k s e, mub B2 { m := { code := code } }] [row 1 A n k (bytesV r), blk Bc [.pointer (some ⟨B, 0, none⟩)] 80, blk Bm [.pointer (some ⟨B2, 0, none⟩)] 115] (FormOut B B2 (toldR { code := code } ⟨r, s, e⟩)) := by
 refine Ct_of Tryz.func197 rfl 26 rfl (Nat.le_of_ble_eq_true rfl) fun w0 M N => ?_
 have e00 : MsgX.cells { m := { code := code } } = [b8 code, .int .u8 0, .int .u16 0, .int .u16 0, .int .u16 0, .int .u16 0, .int .u16 0, .int .u16 0, .int .u16 0, .int .u16 0, .int .u16 0, .int .u16 0, .slice none 0 0, .slice none 0 0, .slice none 0 0, .slice none 0 0, .int .u8 0, .int .u8 0, .int .u8 0, .int .u8 0, .int .u8 0, .slice none 0 0] := rfl
 unfold mub; rw [e00]
 refine GC_seq ?_
 refine GC_region ?_
 refine GL_v rfl (rv_ld Tryz.underlying80 rfl vw) ?_
 refine GL_call rfl cb74 (Byte_k B n k A r s e hn) rfl pB sR ?_
 rintro _ _ _ ⟨q, r1, s1, e1, A1, n1, k1, hc1, hn1, rfl, rfl, rfl⟩
 simp only [List.cons_append, List.nil_append]
 have hq := q.toNat_lt
 refine GL_v rfl (rv_cnv (r := (q.toNat : Int)) Tryz.underlying5 Tryz.underlying3 vw (fun _ => IntWalk.i64_in _ (by omega))) ?_
 refine GL_v rfl (rv_as (v := .int .i64 _) vw) ?_
 refine GL_nil ?_
 refine GC_seq ?_
 refine GC_region ?_
 refine GL_v rfl (rv_ld Tryz.underlying80 rfl vw) ?_
 refine GL_v rfl (rv_mv (v := .int .i64 _) vw) ?_
 refine GL_v rfl (rv_rem (r := (q.toNat : Int) % 2) vw vw (fun _ => by decide) (fun _ => Int.tmod_eq_emod_of_nonneg (by omega))) ?_
 refine GL_v rfl (rv_eql vw vw) ?_
 refine GL_v rfl (rv_mv (v := .bool _) vw) ?_
 refine GL_g rfl rfl gvt (rv_mv (v := .int .i64 _) vw) ?_
 refine GL_g rfl rfl gvt (rv_geq vwg vw) ?_
 refine GL_v rfl (rv_and vw vwg) ?_
 refine GL_v rfl (rv_mv (v := .bool _) vw) ?_
 refine GL_g rfl rfl gvt (rv_mv (v := .int .i64 _) vw) ?_
 refine GL_g rfl rfl gvt (rv_leq vwg vw) ?_
 refine GL_v rfl (rv_and vw vwg) ?_
 refine GL_call rfl cb133 (Need_k B n1 k1 A1 r1 s1 e1 (decide ((q.toNat : Int) % 2 = 0) && decide ((2 : Int) ≤ q.toNat) && decide ((q.toNat : Int) ≤ 250)) 5) rfl pB .nil ?_
 rintro _ _ _ ⟨e2, hc2, rfl, rfl, rfl⟩
 simp only [List.cons_append, List.nil_append]
 refine GL_nil ?_
 refine GC_draw 8 ([blk Bc [.pointer (some ⟨B, 0, none⟩)] 80, blk Bm [.pointer (some ⟨B2, 0, none⟩)] 115]) mixed ?_
 refine GA_v (i := 0) rfl rfl rfl (by kernel_rfl) (rv_ld Tryz.underlying115 rfl vw) ?_
 refine GA_v (i := 1) rfl rfl rfl (by kernel_rfl) (rv_ld Tryz.underlying80 rfl vw) ?_
 refine GA_v (i := 2) rfl rfl rfl (by kernel_rfl) (rv_mv (v := .int .i64 _) vw) ?_
 refine GA_v (i := 3) rfl rfl rfl (by kernel_rfl) (rv_quo (r := (q.toNat : Int) / 2) vw vw (fun _ => by decide) (fun _ => by rw [Int.tdiv_eq_ediv_of_nonneg (by omega)]; exact IntWalk.i64_in _ (by omega))) ?_
 refine GA_one 4 rfl rfl (by kernel_rfl) ?_
 refine GL_call rfl cb132 (Words_k B n1 k1 A1 r1 s1 e2 ((q.toNat : Int) / 2) hn1) rfl pB sR ?_
 rintro _ _ _ ⟨l, r3, s3, e3, A3, n3, k3, Ax3, nx3, kx3, hc3, hn3, rfl, rfl, rfl⟩
 simp only [List.cons_append, List.nil_append]
 refine GL_shift .nil (msgWords { code := code, words := l } ⟨Ax3, nx3, kx3⟩) ?_
 refine GL_nil ⟨inferInstance, ?_⟩
 refine GA_v (i := 5) rfl rfl rfl (by kernel_rfl) (rv_nil vw) ?_
 refine GA_v (i := 6) rfl rfl rfl (by kernel_rfl) (rv_fa fa30_12 vw) ?_
 refine GA_one 7 rfl rfl (by kernel_rfl) ?_
 refine GL_st (u := .slice _ _ _) rfl rfl c25 rfl ?_
 refine GL_nil ⟨inferInstance, ?_⟩
 refine GA_nil (by kernel_rfl) ?_
 exact fin0 (.inl rfl) rfl pB2 sb ⟨{ m := { code := code, words := l }, w := ⟨Ax3, nx3, kx3⟩ }, r3, s3, e3, A3, n3, k3, by simp only [toldR, hc1, hc2, hc3], hn3, rfl, rfl, rfl⟩
theorem f198_ct (B B2 Bc Bm n k : Nat) (A : Option Addr) (r : List UInt8) (s : Bool) (e : Int) (code : UInt8) (hn : n ≤ 35184372088832) : Ct PG 198 [.pointer (some ⟨Bc, 0, none⟩), .pointer (some ⟨Bm, 0, none⟩)] [cub B A n k s e, mub B2 { m := { code := code } }] [row 1 A n k (bytesV r), blk Bc [.pointer (some ⟨B, 0, none⟩)] 80, blk Bm [.pointer (some ⟨B2, 0, none⟩)] 115] (FormOut B B2 (oneR { code := code } ⟨r, s, e⟩)) := by
 refine Ct_of Tryz.func198 rfl 12 rfl (Nat.le_of_ble_eq_true rfl) fun w0 M N => ?_
 have e00 : MsgX.cells { m := { code := code } } = [b8 code, .int .u8 0, .int .u16 0, .int .u16 0, .int .u16 0, .int .u16 0, .int .u16 0, .int .u16 0, .int .u16 0, .int .u16 0, .int .u16 0, .int .u16 0, .slice none 0 0, .slice none 0 0, .slice none 0 0, .slice none 0 0, .int .u8 0, .int .u8 0, .int .u8 0, .int .u8 0, .int .u8 0, .slice none 0 0] := rfl
 unfold mub; rw [e00]
 refine GC_draw 12 ([blk Bc [.pointer (some ⟨B, 0, none⟩)] 80, blk Bm [.pointer (some ⟨B2, 0, none⟩)] 115]) mixed ?_
 refine GA_v (i := 0) rfl rfl rfl (by kernel_rfl) (rv_ld Tryz.underlying115 rfl vw) ?_
 refine GA_v (i := 1) rfl rfl rfl (by kernel_rfl) (rv_ld Tryz.underlying115 rfl vw) ?_
 refine GA_v (i := 2) rfl rfl rfl (by kernel_rfl) (rv_ld Tryz.underlying80 rfl vw) ?_
 refine GA_v (i := 4) rfl rfl rfl (by kernel_rfl) (rv_ld Tryz.underlying80 rfl vw) ?_
 refine GA_one 3 rfl rfl (by kernel_rfl) ?_
 refine GL_call rfl cb73 (Word_k B n k A r s e hn) rfl pB sR ?_
 rintro _ _ _ ⟨a, r1, s1, e1, A1, n1, k1, hc1, hn1, rfl, rfl, rfl⟩
 simp only [List.cons_append, List.nil_append]
 refine GL_nil ⟨inferInstance, ?_⟩
 refine GA_one 5 rfl rfl (by kernel_rfl) ?_
 refine GL_call rfl cb73 (Word_k B n1 k1 A1 r1 s1 e1 hn1) rfl pB sR ?_
 rintro _ _ _ ⟨j, r2, s2, e2, A2, n2, k2, hc2, hn2, rfl, rfl, rfl⟩
 simp only [List.cons_append, List.nil_append]
 refine GL_nil ⟨inferInstance, ?_⟩
 refine GA_v (i := 6) rfl rfl rfl (by kernel_rfl) (rv_nil vw) ?_
 refine GA_v (i := 7) rfl rfl rfl (by kernel_rfl) (rv_fa fa30_2 vw) ?_
 refine GA_one 8 rfl rfl (by kernel_rfl) ?_
 refine GL_st (u := w16 a) rfl rfl c24 rfl ?_
 refine GL_nil ⟨inferInstance, ?_⟩
 refine GA_v (i := 9) rfl rfl rfl (by kernel_rfl) (rv_nil vw) ?_
 refine GA_v (i := 10) rfl rfl rfl (by kernel_rfl) (rv_fa fa30_4 vw) ?_
 refine GA_one 11 rfl rfl (by kernel_rfl) ?_
 refine GL_st (u := w16 j) rfl rfl c24 rfl ?_
 refine GL_shift .nil (msg0 { code := code, addr := a, value := j }) ?_
 refine GL_nil ⟨inferInstance, ?_⟩
 refine GA_nil (by kernel_rfl) ?_
 exact fin0 (.inl rfl) rfl pB2 sb ⟨{ m := { code := code, addr := a, value := j } }, r2, s2, e2, A2, n2, k2, by simp only [oneR, hc1, hc2], hn2, rfl, rfl, rfl⟩
theorem f199_ct (B B2 Bc Bm n k : Nat) (A : Option Addr) (r : List UInt8) (s : Bool) (e : Int) (code : UInt8) (Bw Ba : Nat) (dir : Int) (hn : n ≤ 35184372088832) : Ct PG 199 [.pointer (some ⟨Bw, 0, none⟩), .pointer (some ⟨Ba, 0, none⟩), .pointer (some ⟨Bc, 0, none⟩), .pointer (some ⟨Bm, 0, none⟩)] [cub B A n k s e, mub B2 { m := { code := code } }] [row 1 A n k (bytesV r), blk Bc [.pointer (some ⟨B, 0, none⟩)] 80, blk Bm [.pointer (some ⟨B2, 0, none⟩)] 115, blk Bw [.func (.func 194) [].toArray [.pointer (some ⟨Bc, 0, none⟩), .pointer (some ⟨Bm, 0, none⟩)].toArray] 185, blk Ba [.bool (decide (dir = 0))] 4] (FormOut B B2 ((if dir = 0 then manyR else asksR 123) { code := code } ⟨r, s, e⟩)) := by
 refine Ct_of Tryz.func199 rfl 17 rfl (Nat.le_of_ble_eq_true rfl) fun w0 M N => ?_
 refine GC_seq ?_
 refine GC_region ?_
 refine GL_v rfl (rv_ld (v := .func (.func 194) [].toArray [.pointer (some ⟨Bc, 0, none⟩), .pointer (some ⟨Bm, 0, none⟩)].toArray) Tryz.underlying185 rfl vw) ?_
 refine GL_callC rfl rfl cb194 rfl (where_ct B B2 Bc Bm n k A r s e code 123 hn) pB2 sb ?_
 rintro _ _ _ ⟨a, j, r1, s1, e1, A1, n1, k1, hs, hn1, rfl, rfl, rfl⟩
 simp only [List.cons_append, List.nil_append]
 have hj := j.toNat_lt
 refine GL_nil ?_
 refine GC_seq ?_
 refine GC_region ?_
 refine GL_v rfl (rv_ld Tryz.underlying4 rfl vw) ?_
 refine GL_nil ?_
 refine GC_cond rfl (fun h0 => ?_) (fun h0 => ?_)
 ·
  have hd : dir = 0 := by simpa using h0
  have e00 : MsgX.cells { m := { code := code, addr := a, count := j } } = [b8 code, .int .u8 0, w16 a, w16 j, .int .u16 0, .int .u16 0, .int .u16 0, .int .u16 0, .int .u16 0, .int .u16 0, .int .u16 0, .int .u16 0, .slice none 0 0, .slice none 0 0, .slice none 0 0, .slice none 0 0, .int .u8 0, .int .u8 0, .int .u8 0, .int .u8 0, .int .u8 0, .slice none 0 0] := rfl
  unfold mub; rw [e00]
  refine GC_draw 8 ([blk Bc [.pointer (some ⟨B, 0, none⟩)] 80, blk Bm [.pointer (some ⟨B2, 0, none⟩)] 115, blk B2 [b8 code, .int .u8 0, w16 a, w16 j, .int .u16 0, .int .u16 0, .int .u16 0, .int .u16 0, .int .u16 0, .int .u16 0, .int .u16 0, .int .u16 0, .slice none 0 0, .slice none 0 0, .slice none 0 0, .slice none 0 0, .int .u8 0, .int .u8 0, .int .u8 0, .int .u8 0, .int .u8 0, .slice none 0 0] 30]) mixed ?_
  refine GA_v (i := 0) rfl rfl rfl (by kernel_rfl) (rv_ld Tryz.underlying115 rfl vw) ?_
  refine GA_v (i := 1) rfl rfl rfl (by kernel_rfl) (rv_ld Tryz.underlying80 rfl vw) ?_
  refine GA_v (i := 2) rfl rfl rfl (by kernel_rfl) (rv_ld Tryz.underlying115 rfl vw) ?_
  refine GA_v (i := 3) rfl rfl rfl (by kernel_rfl) (rv_nil vw) ?_
  refine GA_v (i := 4) rfl rfl rfl (by kernel_rfl) (rv_fa fa30_3 vw) ?_
  refine GA_v (i := 5) rfl rfl rfl (by kernel_rfl) (rv_ld Tryz.underlying24 rfl vw) ?_
  refine GA_v (i := 6) rfl rfl rfl (by kernel_rfl) (rv_cnv (r := (j.toNat : Int)) Tryz.underlying24 Tryz.underlying3 vw (fun _ => IntWalk.i64_in _ (by omega))) ?_
  refine GA_one 7 rfl rfl (by kernel_rfl) ?_
  refine GL_call rfl cb200 (counted_ct B n1 k1 A1 r1 s1 e1 j.toNat hj hn1) rfl pB sR ?_
  rintro _ _ _ ⟨l, r2, s2, e2, A2, n2, k2, Ax, nx, kx, hsp, hn2, rfl, rfl, rfl⟩
  simp only [List.cons_append, List.nil_append]
  refine GL_shift .nil (msgWords { code := code, addr := a, count := j, words := l } ⟨Ax, nx, kx⟩) ?_
  refine GL_nil ⟨inferInstance, ?_⟩
  refine GA_free (by kernel_rfl) ?_
  refine GA_w (i := 8) rfl rfl rfl (by kernel_rfl) (rv_nil vw) ?_
  refine GA_w (i := 9) rfl rfl rfl (by kernel_rfl) (rv_fa fa30_12 vw) ?_
  refine GA_last 10 rfl (by kernel_rfl) ?_
  refine GL_st (u := .slice _ _ _) rfl rfl c25 rfl ?_
  refine GL_nil ?_
  refine GA_nil (by kernel_rfl) ?_
  exact fin0 (.inl rfl) rfl pB2 sb ⟨{ m := { code := code, addr := a, count := j, words := l }, w := ⟨Ax, nx, kx⟩ }, r2, s2, e2, A2, n2, k2, by simp only [manyR, hs, hsp, if_pos hd], hn2, rfl, rfl, rfl⟩
 ·
  have hd : ¬ dir = 0 := by simpa using h0
  refine GC_shift .nil (msg0 { code := code, addr := a, count := j }) ?_
  refine GC_skip ?_
  exact fin0 (.inl rfl) rfl pB2 sb ⟨{ m := { code := code, addr := a, count := j } }, r1, s1, e1, A1, n1, k1, by simp only [asksR, hs, if_neg hd], hn1, rfl, rfl, rfl⟩
theorem f201_ct (B B2 Bc Bm n k : Nat) (A : Option Addr) (r : List UInt8) (s : Bool) (e : Int) (code : UInt8) (hn : n ≤ 35184372088832) : Ct PG 201 [.pointer (some ⟨Bc, 0, none⟩), .pointer (some ⟨Bm, 0, none⟩)] [cub B A n k s e, mub B2 { m := { code := code } }] [row 1 A n k (bytesV r), blk Bc [.pointer (some ⟨B, 0, none⟩)] 80, blk Bm [.pointer (some ⟨B2, 0, none⟩)] 115] (FormOut B B2 (maskR { code := code } ⟨r, s, e⟩)) := by
 refine Ct_of Tryz.func201 rfl 17 rfl (Nat.le_of_ble_eq_true rfl) fun w0 M N => ?_
 have e00 : MsgX.cells { m := { code := code } } = [b8 code, .int .u8 0, .int .u16 0, .int .u16 0, .int .u16 0, .int .u16 0, .int .u16 0, .int .u16 0, .int .u16 0, .int .u16 0, .int .u16 0, .int .u16 0, .slice none 0 0, .slice none 0 0, .slice none 0 0, .slice none 0 0, .int .u8 0, .int .u8 0, .int .u8 0, .int .u8 0, .int .u8 0, .slice none 0 0] := rfl
 unfold mub; rw [e00]
 refine GC_draw 18 ([blk Bc [.pointer (some ⟨B, 0, none⟩)] 80, blk Bm [.pointer (some ⟨B2, 0, none⟩)] 115]) mixed ?_
 refine GA_v (i := 0) rfl rfl rfl (by kernel_rfl) (rv_ld Tryz.underlying115 rfl vw) ?_
 refine GA_v (i := 1) rfl rfl rfl (by kernel_rfl) (rv_ld Tryz.underlying115 rfl vw) ?_
 refine GA_v (i := 2) rfl rfl rfl (by kernel_rfl) (rv_ld Tryz.underlying115 rfl vw) ?_
 refine GA_v (i := 3) rfl rfl rfl (by kernel_rfl) (rv_ld Tryz.underlying80 rfl vw) ?_
 refine GA_v (i := 5) rfl rfl rfl (by kernel_rfl) (rv_ld Tryz.underlying80 rfl vw) ?_
 refine GA_v (i := 7) rfl rfl rfl (by kernel_rfl) (rv_ld Tryz.underlying80 rfl vw) ?_
 refine GA_one 4 rfl rfl (by kernel_rfl) ?_
 refine GL_call rfl cb73 (Word_k B n k A r s e hn) rfl pB sR ?_
 rintro _ _ _ ⟨a, r1, s1, e1, A1, n1, k1, hc1, hn1, rfl, rfl, rfl⟩
 simp only [List.cons_append, List.nil_append]
 refine GL_nil ⟨inferInstance, ?_⟩
 refine GA_one 6 rfl rfl (by kernel_rfl) ?_
 refine GL_call rfl cb73 (Word_k B n1 k1 A1 r1 s1 e1 hn1) rfl pB sR ?_
 rintro _ _ _ ⟨j, r2, s2, e2, A2, n2, k2, hc2, hn2, rfl, rfl, rfl⟩
 simp only [List.cons_append, List.nil_append]
 refine GL_nil ⟨inferInstance, ?_⟩
 refine GA_one 8 rfl rfl (by kernel_rfl) ?_
 refine GL_call rfl cb73 (Word_k B n2 k2 A2 r2 s2 e2 hn2) rfl pB sR ?_
 rintro _ _ _ ⟨o, r3, s3, e3, A3, n3, k3, hc3, hn3, rfl, rfl, rfl⟩
 simp only [List.cons_append, List.nil_append]
 refine GL_nil ⟨inferInstance, ?_⟩
 refine GA_v (i := 9) rfl rfl rfl (by kernel_rfl) (rv_nil vw) ?_
 refine GA_v (i := 10) rfl rfl rfl (by kernel_rfl) (rv_fa fa30_2 vw) ?_
 refine GA_one 11 rfl rfl (by kernel_rfl) ?_
 refine GL_st (u := w16 a) rfl rfl c24 rfl ?_
 refine GL_nil ⟨inferInstance, ?_⟩
 refine GA_v (i := 12) rfl rfl rfl (by kernel_rfl) (rv_nil vw) ?_
 refine GA_v (i := 13) rfl rfl rfl (by kernel_rfl) (rv_fa fa30_5 vw) ?_
 refine GA_one 14 rfl rfl (by kernel_rfl) ?_
 refine GL_st (u := w16 j) rfl rfl c24 rfl ?_
 refine GL_nil ⟨inferInstance, ?_⟩
 refine GA_v (i := 15) rfl rfl rfl (by kernel_rfl) (rv_nil vw) ?_
 refine GA_v (i := 16) rfl rfl rfl (by kernel_rfl) (rv_fa fa30_6 vw) ?_
 refine GA_one 17 rfl rfl (by kernel_rfl) ?_
 refine GL_st (u := w16 o) rfl rfl c24 rfl ?_
 refine GL_shift .nil (msg0 { code := code, addr := a, and := j, or := o }) ?_
 refine GL_nil ⟨inferInstance, ?_⟩
 refine GA_nil (by kernel_rfl) ?_
 exact fin0 (.inl rfl) rfl pB2 sb ⟨{ m := { code := code, addr := a, and := j, or := o } }, r3, s3, e3, A3, n3, k3, by simp only [maskR, hc1, hc2, hc3], hn3, rfl, rfl, rfl⟩
theorem f202_ct (B B2 Bc Bm n k : Nat) (A : Option Addr) (r : List UInt8) (s : Bool) (e : Int) (code : UInt8) (Bw : Nat) (hn : n ≤ 35184372088832) : Ct PG 202 [.pointer (some ⟨Bw, 0, none⟩), .pointer (some ⟨Bc, 0, none⟩), .pointer (some ⟨Bm, 0, none⟩)] [cub B A n k s e, mub B2 { m := { code := code } }] [row 1 A n k (bytesV r), blk Bc [.pointer (some ⟨B, 0, none⟩)] 80, blk Bm [.pointer (some ⟨B2, 0, none⟩)] 115, blk Bw [.func (.func 194) [].toArray [.pointer (some ⟨Bc, 0, none⟩), .pointer (some ⟨Bm, 0, none⟩)].toArray] 185] (FormOut B B2 (bothR { code := code } ⟨r, s, e⟩)) := by
 refine Ct_of Tryz.func202 rfl 21 rfl (Nat.le_of_ble_eq_true rfl) fun w0 M N => ?_
 refine GC_seq ?_
 refine GC_region ?_
 refine GL_v rfl (rv_ld (v := .func (.func 194) [].toArray [.pointer (some ⟨Bc, 0, none⟩), .pointer (some ⟨Bm, 0, none⟩)].toArray) Tryz.underlying185 rfl vw) ?_
 refine GL_callC rfl rfl cb194 rfl (where_ct B B2 Bc Bm n k A r s e code 125 hn) pB2 sb ?_
 rintro _ _ _ ⟨a, j, r1, s1, e1, A1, n1, k1, hs, hn1, rfl, rfl, rfl⟩
 simp only [List.cons_append, List.nil_append]
 have hj := j.toNat_lt
 have e00 : MsgX.cells { m := { code := code, addr := a, count := j } } = [b8 code, .int .u8 0, w16 a, w16 j, .int .u16 0, .int .u16 0, .int .u16 0, .int .u16 0, .int .u16 0, .int .u16 0, .int .u16 0, .int .u16 0, .slice none 0 0, .slice none 0 0, .slice none 0 0, .slice none 0 0, .int .u8 0, .int .u8 0, .int .u8 0, .int .u8 0, .int .u8 0, .slice none 0 0] := rfl
 unfold mub; rw [e00]
 refine GL_nil ?_
 refine GC_seq ?_
 refine GC_draw 6 ([blk Bc [.pointer (some ⟨B, 0, none⟩)] 80, blk Bm [.pointer (some ⟨B2, 0, none⟩)] 115]) mixed ?_
 refine GA_v (i := 0) rfl rfl rfl (by kernel_rfl) (rv_ld Tryz.underlying115 rfl vw) ?_
 refine GA_v (i := 1) rfl rfl rfl (by kernel_rfl) (rv_ld Tryz.underlying80 rfl vw) ?_
 refine GA_one 2 rfl rfl (by kernel_rfl) ?_
 refine GL_call rfl cb73 (Word_k B n1 k1 A1 r1 s1 e1 hn1) rfl pB sR ?_
 rintro _ _ _ ⟨a2, r1, s1, e1, A1, n1, k1, hc1, hn1, rfl, rfl, rfl⟩
 simp only [List.cons_append, List.nil_append]
 refine GL_nil ⟨inferInstance, ?_⟩
 refine GA_v (i := 3) rfl rfl rfl (by kernel_rfl) (rv_nil vw) ?_
 refine GA_v (i := 4) rfl rfl rfl (by kernel_rfl) (rv_fa fa30_7 vw) ?_
 refine GA_one 5 rfl rfl (by kernel_rfl) ?_
 refine GL_st (u := w16 a2) rfl rfl c24 rfl ?_
 refine GL_nil ⟨inferInstance, ?_⟩
 refine GA_nil (by kernel_rfl) ?_
 refine GC_draw 9 ([blk Bc [.pointer (some ⟨B, 0, none⟩)] 80, blk Bm [.pointer (some ⟨B2, 0, none⟩)] 115, blk B2 [b8 code, .int .u8 0, w16 a, w16 j, .int .u16 0, .int .u16 0, .int .u16 0, w16 a2, .int .u16 0, .int .u16 0, .int .u16 0, .int .u16 0, .slice none 0 0, .slice none 0 0, .slice none 0 0, .slice none 0 0, .int .u8 0, .int .u8 0, .int .u8 0, .int .u8 0, .int .u8 0, .slice none 0 0] 30]) mixed ?_
 refine GA_v (i := 0) rfl rfl rfl (by kernel_rfl) (rv_ld Tryz.underlying115 rfl vw) ?_
 refine GA_v (i := 1) rfl rfl rfl (by kernel_rfl) (rv_ld Tryz.underlying80 rfl vw) ?_
 refine GA_v (i := 2) rfl rfl rfl (by kernel_rfl) (rv_ld Tryz.underlying80 rfl vw) ?_
 refine GA_v (i := 3) rfl rfl rfl (by kernel_rfl) (rv_ld Tryz.underlying115 rfl vw) ?_
 refine GA_v (i := 4) rfl rfl rfl (by kernel_rfl) (rv_nil vw) ?_
 refine GA_v (i := 5) rfl rfl rfl (by kernel_rfl) (rv_fa fa30_7 vw) ?_
 refine GA_v (i := 6) rfl rfl rfl (by kernel_rfl) (rv_ld Tryz.underlying24 rfl vw) ?_
 refine GA_one 7 rfl rfl (by kernel_rfl) ?_
 refine GL_call rfl cb195 (spanR_ct B n1 k1 A1 r1 s1 e1 a2 121 hn1) rfl pB sR ?_
 rintro _ _ _ ⟨q, r3, s3, e3, A3, n3, k3, hsp, hn3, rfl, rfl, rfl⟩
 simp only [List.cons_append, List.nil_append]
 have hq := q.toNat_lt
 refine GL_nil ⟨inferInstance, ?_⟩
 refine GA_one 8 rfl rfl (by kernel_rfl) ?_
 refine GL_call rfl cb200 (counted_ct B n3 k3 A3 r3 s3 e3 q.toNat hq hn3) rfl pB sR ?_
 rintro _ _ _ ⟨l, r4, s4, e4, A4, n4, k4, Ax, nx, kx, hco, hn4, rfl, rfl, rfl⟩
 simp only [List.cons_append, List.nil_append]
 refine GL_shift .nil (msgWords { code := code, addr := a, count := j, addr2 := a2, words := l } ⟨Ax, nx, kx⟩) ?_
 refine GL_nil ⟨inferInstance, ?_⟩
 refine GA_free (by kernel_rfl) ?_
 refine GA_w (i := 9) rfl rfl rfl (by kernel_rfl) (rv_nil vw) ?_
 refine GA_w (i := 10) rfl rfl rfl (by kernel_rfl) (rv_fa fa30_12 vw) ?_
 refine GA_last 11 rfl (by kernel_rfl) ?_
 refine GL_st (u := .slice _ _ _) rfl rfl c25 rfl ?_
 refine GL_nil ?_
 refine GA_nil (by kernel_rfl) ?_
 exact fin0 (.inl rfl) rfl pB2 sb ⟨{ m := { code := code, addr := a, count := j, addr2 := a2, words := l }, w := ⟨Ax, nx, kx⟩ }, r4, s4, e4, A4, n4, k4, by simp only [bothR, hs, hc1, hsp, hco], hn4, rfl, rfl, rfl⟩
theorem f203_ct (B B2 Bc Bm n k : Nat) (A : Option Addr) (r : List UInt8) (s : Bool) (e : Int) (code : UInt8) (hn : n ≤ 35184372088832) : Ct PG 203 [.pointer (some ⟨Bc, 0, none⟩), .pointer (some ⟨Bm, 0, none⟩)] [cub B A n k s e, mub B2 { m := { code := code } }] [row 1 A n k (bytesV r), blk Bc [.pointer (some ⟨B, 0, none⟩)] 80, blk Bm [.pointer (some ⟨B2, 0, none⟩)] 115] (FormOut B B2 (askQ { code := code } ⟨r, s, e⟩)) := by
 refine Ct_of Tryz.func203 rfl 7 rfl (Nat.le_of_ble_eq_true rfl) fun w0 M N => ?_
 have e00 : MsgX.cells { m := { code := code } } = [b8 code, .int .u8 0, .int .u16 0, .int .u16 0, .int .u16 0, .int .u16 0, .int .u16 0, .int .u16 0, .int .u16 0, .int .u16 0, .int .u16 0, .int .u16 0, .slice none 0 0, .slice none 0 0, .slice none 0 0, .slice none 0 0, .int .u8 0, .int .u8 0, .int .u8 0, .int .u8 0, .int .u8 0, .slice none 0 0] := rfl
 unfold mub; rw [e00]
 refine GC_draw 6 ([blk Bc [.pointer (some ⟨B, 0, none⟩)] 80, blk Bm [.pointer (some ⟨B2, 0, none⟩)] 115]) mixed ?_
 refine GA_v (i := 0) rfl rfl rfl (by kernel_rfl) (rv_ld Tryz.underlying115 rfl vw) ?_
 refine GA_v (i := 1) rfl rfl rfl (by kernel_rfl) (rv_ld Tryz.underlying80 rfl vw) ?_
 refine GA_one 2 rfl rfl (by kernel_rfl) ?_
 refine GL_call rfl cb73 (Word_k B n k A r s e hn) rfl pB sR ?_
 rintro _ _ _ ⟨a, r1, s1, e1, A1, n1, k1, hc1, hn1, rfl, rfl, rfl⟩
 simp only [List.cons_append, List.nil_append]
 refine GL_nil ⟨inferInstance, ?_⟩
 refine GA_v (i := 3) rfl rfl rfl (by kernel_rfl) (rv_nil vw) ?_
 refine GA_v (i := 4) rfl rfl rfl (by kernel_rfl) (rv_fa fa30_2 vw) ?_
 refine GA_one 5 rfl rfl (by kernel_rfl) ?_
 refine GL_st (u := w16 a) rfl rfl c24 rfl ?_
 refine GL_shift .nil (msg0 { code := code, addr := a }) ?_
 refine GL_nil ⟨inferInstance, ?_⟩
 refine GA_nil (by kernel_rfl) ?_
 exact fin0 (.inl rfl) rfl pB2 sb ⟨{ m := { code := code, addr := a } }, r1, s1, e1, A1, n1, k1, by simp only [askQ, hc1], hn1, rfl, rfl, rfl⟩
theorem f204_ct (B B2 Bc Bm n k : Nat) (A : Option Addr) (r : List UInt8) (s : Bool) (e : Int) (code : UInt8) (hn : n ≤ 35184372088832) : Ct PG 204 [.pointer (some ⟨Bc, 0, none⟩), .pointer (some ⟨Bm, 0, none⟩)] [cub B A n k s e, mub B2 { m := { code := code } }] [row 1 A n k (bytesV r), blk Bc [.pointer (some ⟨B, 0, none⟩)] 80, blk Bm [.pointer (some ⟨B2, 0, none⟩)] 115] (FormOut B B2 (queueR { code := code } ⟨r, s, e⟩)) := by
 refine Ct_of Tryz.func204 rfl 36 rfl (Nat.le_of_ble_eq_true rfl) fun w0 M N => ?_
 have e00 : MsgX.cells { m := { code := code } } = [b8 code, .int .u8 0, .int .u16 0, .int .u16 0, .int .u16 0, .int .u16 0, .int .u16 0, .int .u16 0, .int .u16 0, .int .u16 0, .int .u16 0, .int .u16 0, .slice none 0 0, .slice none 0 0, .slice none 0 0, .slice none 0 0, .int .u8 0, .int .u8 0, .int .u8 0, .int .u8 0, .int .u8 0, .slice none 0 0] := rfl
 unfold mub; rw [e00]
 refine GC_seq ?_
 refine GC_region ?_
 refine GL_v rfl (rv_ld Tryz.underlying80 rfl vw) ?_
 refine GL_call rfl cb73 (Word_k B n k A r s e hn) rfl pB sR ?_
 rintro _ _ _ ⟨q, r1, s1, e1, A1, n1, k1, hc1, hn1, rfl, rfl, rfl⟩
 simp only [List.cons_append, List.nil_append]
 have hq := q.toNat_lt
 refine GL_v rfl (rv_cnv (r := (q.toNat : Int)) Tryz.underlying24 Tryz.underlying3 vw (fun _ => IntWalk.i64_in _ (by omega))) ?_
 refine GL_v rfl (rv_as (v := .int .i64 _) vw) ?_
 refine GL_nil ?_
 refine GC_seq ?_
 refine GC_region ?_
 refine GL_v rfl (rv_ld Tryz.underlying80 rfl vw) ?_
 refine GL_v rfl (rv_mv (v := .int .i64 _) vw) ?_
 refine GL_v rfl (rv_rem (r := (q.toNat : Int) % 2) vw vw (fun _ => by decide) (fun _ => Int.tmod_eq_emod_of_nonneg (by omega))) ?_
 refine GL_v rfl (rv_eql vw vw) ?_
 refine GL_v rfl (rv_mv (v := .bool _) vw) ?_
 refine GL_g rfl rfl gvt (rv_mv (v := .int .i64 _) vw) ?_
 refine GL_g rfl rfl gvt (rv_geq vwg vw) ?_
 refine GL_v rfl (rv_and vw vwg) ?_
 refine GL_v rfl (rv_mv (v := .bool _) vw) ?_
 refine GL_g rfl rfl gvt (rv_mv (v := .int .i64 _) vw) ?_
 refine GL_g rfl rfl gvt (rv_leq vwg vw) ?_
 refine GL_v rfl (rv_and vw vwg) ?_
 refine GL_call rfl cb133 (Need_k B n1 k1 A1 r1 s1 e1 (decide ((q.toNat : Int) % 2 = 0) && decide ((2 : Int) ≤ q.toNat) && decide ((q.toNat : Int) ≤ 64)) 5) rfl pB .nil ?_
 rintro _ _ _ ⟨e2, hc2, rfl, rfl, rfl⟩
 simp only [List.cons_append, List.nil_append]
 refine GL_nil ?_
 refine GC_seq ?_
 refine GC_region ?_
 refine GL_v rfl (rv_ld Tryz.underlying80 rfl vw) ?_
 refine GL_call rfl cb73 (Word_k B n1 k1 A1 r1 s1 e2 hn1) rfl pB sR ?_
 rintro _ _ _ ⟨u, r3, s3, e3, A3, n3, k3, hc3, hn3, rfl, rfl, rfl⟩
 simp only [List.cons_append, List.nil_append]
 have hu := u.toNat_lt
 refine GL_v rfl (rv_cnv (r := (u.toNat : Int)) Tryz.underlying24 Tryz.underlying3 vw (fun _ => IntWalk.i64_in _ (by omega))) ?_
 refine GL_v rfl (rv_as (v := .int .i64 _) vw) ?_
 refine GL_nil ?_
 refine GC_seq ?_
 refine GC_region ?_
 refine GL_v rfl (rv_ld Tryz.underlying80 rfl vw) ?_
 refine GL_v rfl (rv_mv (v := .int .i64 _) vw) ?_
 refine GL_v rfl (rv_mul (r := 2 * (u.toNat : Int)) vw vw (fun _ => IntWalk.i64_in _ (by omega))) ?_
 refine GL_v rfl (rv_add (r := 2 + 2 * (u.toNat : Int)) vw vw (fun _ => IntWalk.i64_in _ (by omega))) ?_
 refine GL_v rfl (rv_mv (v := .int .i64 _) vw) ?_
 refine GL_v rfl (rv_eql vw vw) ?_
 refine GL_call rfl cb133 (Need_k B n3 k3 A3 r3 s3 e3 (decide (2 + 2 * (u.toNat : Int) = q.toNat)) 5) rfl pB .nil ?_
 rintro _ _ _ ⟨e4, hc4, rfl, rfl, rfl⟩
 simp only [List.cons_append, List.nil_append]
 refine GL_nil ?_
 refine GC_draw 7 ([blk Bc [.pointer (some ⟨B, 0, none⟩)] 80, blk Bm [.pointer (some ⟨B2, 0, none⟩)] 115]) mixed ?_
 refine GA_v (i := 0) rfl rfl rfl (by kernel_rfl) (rv_ld Tryz.underlying115 rfl vw) ?_
 refine GA_v (i := 1) rfl rfl rfl (by kernel_rfl) (rv_ld Tryz.underlying80 rfl vw) ?_
 refine GA_v (i := 2) rfl rfl rfl (by kernel_rfl) (rv_mv (v := .int .i64 _) vw) ?_
 refine GA_one 3 rfl rfl (by kernel_rfl) ?_
 refine GL_call rfl cb132 (Words_k B n3 k3 A3 r3 s3 e4 u.toNat hn3) rfl pB sR ?_
 rintro _ _ _ ⟨l, r5, s5, e5, A5, n5, k5, Ax5, nx5, kx5, hc5, hn5, rfl, rfl, rfl⟩
 simp only [List.cons_append, List.nil_append]
 refine GL_shift .nil (msgWords { code := code, words := l } ⟨Ax5, nx5, kx5⟩) ?_
 refine GL_nil ⟨inferInstance, ?_⟩
 refine GA_v (i := 4) rfl rfl rfl (by kernel_rfl) (rv_nil vw) ?_
 refine GA_v (i := 5) rfl rfl rfl (by kernel_rfl) (rv_fa fa30_12 vw) ?_
 refine GA_one 6 rfl rfl (by kernel_rfl) ?_
 refine GL_st (u := .slice _ _ _) rfl rfl c25 rfl ?_
 refine GL_nil ⟨inferInstance, ?_⟩
 refine GA_nil (by kernel_rfl) ?_
 exact fin0 (.inl rfl) rfl pB2 sb ⟨{ m := { code := code, words := l }, w := ⟨Ax5, nx5, kx5⟩ }, r5, s5, e5, A5, n5, k5, by simp only [queueR, hc1, hc2, hc3, hc4, hc5], hn5, rfl, rfl, rfl⟩
theorem Sub.wk {x : Res} : ∀ {s l : List Res}, Sub s l → Sub s (x :: l)
 | _, _, .nil => .nil
 | _, _, .cons h k => .cons (List.mem_cons_of_mem _ h) k.wk
theorem sub_refl : ∀ (l : List Res), Sub l l
 | [] => .nil
 | _ :: l => .cons (List.mem_cons_self ..) (sub_refl l).wk
theorem sub_app (l : List Res) : ∀ (s : List Res), Sub s (s ++ l)
 | [] => .nil
 | _ :: s => .cons (List.mem_cons_self ..) (sub_app l s).wk
theorem sub_row {R : Res} (T0 L : List Res) : Sub (R :: T0) (T0 ++ R :: L) := .cons (by simp) (sub_app _ T0)
theorem Ct.subT {P : Program} {f : FuncId} {args : List Value} {S T T2 : List Res} {R : Value → List Res → List Res → Prop} (h : Ct P f args S T R) (ht : Sub T T2) : Ct P f args S T2 R :=
 ⟨fun w hs => (h.out w (hs.subT ht.mem)).mono (by
  rintro e w' ⟨v, S', T', rfl, hr, hn⟩
  refine ⟨v, S', T', rfl, hr, ⟨hn.go, hn.sat, hn.own, fun x hx b hb => ?_⟩⟩
  rcases hn.seen x hx b hb with h1 | h1 | ⟨y, hy, hyb⟩
  · exact .inl h1
  · exact .inr (.inl h1)
  · exact .inr (.inr ⟨y, ht.mem y hy, hyb⟩))⟩
def FormVT (B B2 : Nat) (code : UInt8) (F : MsgD → Cu → MsgD × Cu) (T0 : List Res) (fv : Value) : Prop := ∃ f caps, fv = .func (.func f) [].toArray caps.toArray ∧ Cb PG f ∧ ∀ n k A r s e, n ≤ 35184372088832 → Ct PG f caps [cub B A n k s e, mub B2 { m := { code := code } }] (row 1 A n k (bytesV r) :: T0) (FormOut B B2 (F { code := code } ⟨r, s, e⟩))
theorem rv_mfE {P : Program} {I : World → Prop} {E : Env} {g : Bool} {f : Fn} {a b : List Operand} {la lb : List Value} (ha : evs E a = la) (hb : evs E b = lb) : RV P I E g (.makeFunc f a.toArray b.toArray) (.func f la.toArray lb.toArray) := by subst ha; subst hb; exact rv_mf
theorem form09_ct (dir : Int) (B B2 : Nat) (code : UInt8) : Ct PG 162 [.int .i64 dir, .pointer (some ⟨B2, 0, none⟩), .pointer (some ⟨B, 0, none⟩)] [mub B2 { m := { code := code } }] []
 (fun v S' T' => ∃ T0, S' = [mub B2 { m := { code := code } }] ∧ T' = T0 ∧ ((form09 dir code = none ∧ v = .nilFunc) ∨ ∃ F, form09 dir code = some F ∧ FormVT B B2 code F T0 v)) := by
 refine Ct_of Tryz.func162 rfl 67 rfl (Nat.le_of_ble_eq_true rfl) fun w0 M N => ?_
 refine GC_seq ?_
 refine GC_region ?_
 refine GL_box1 (u := .pointer _) rfl rfl rfl (fun b4 => ?_)
 refine GL_box1 (u := .pointer _) rfl rfl rfl (fun b5 => ?_)
 refine GL_v rfl (rv_as (v := .nilFunc) vw) ?_
 refine GL_nil ?_
 refine GC_seq ?_
 refine GC_region ?_
 refine GL_v rfl (rv_mfE (la := []) (lb := [.pointer (some ⟨b5, 0, none⟩), .pointer (some ⟨b4, 0, none⟩)]) rfl rfl) ?_
 refine GL_alloc rfl z185 (fun b7 => ?_)
 refine GL_st (u := .func (.func 194) [].toArray [.pointer (some ⟨b5, 0, none⟩), .pointer (some ⟨b4, 0, none⟩)].toArray) rfl rfl c185 rfl ?_
 refine GL_nil ?_
 refine GC_seq ?_
 refine GC_region ?_
 refine GL_v rfl (rv_mv (v := .int .i64 _) vw) ?_
 refine GL_v rfl (rv_eql vw vw) ?_
 refine GL_alloc rfl z4 (fun bb8 => ?_)
 refine GL_st (u := .bool _) rfl rfl c4 rfl ?_
 refine GL_nil ?_
 refine GC_seq ?_
 refine GC_seq ?_
 refine GC_region ?_
 refine GL_v rfl (rv_ld Tryz.underlying115 rfl vw) ?_
 refine GL_v rfl (rv_nil vw) ?_
 refine GL_v rfl (rv_fa fa30_0 vw) ?_
 have e00 : MsgX.cells { m := { code := code } } = [b8 code, .int .u8 0, .int .u16 0, .int .u16 0, .int .u16 0, .int .u16 0, .int .u16 0, .int .u16 0, .int .u16 0, .int .u16 0, .int .u16 0, .int .u16 0, .slice none 0 0, .slice none 0 0, .slice none 0 0, .slice none 0 0, .int .u8 0, .int .u8 0, .int .u8 0, .int .u8 0, .int .u8 0, .slice none 0 0] := rfl
 unfold mub; rw [e00]
 refine GL_v rfl (rv_ld Tryz.underlying5 rfl vw) ?_
 rw [← e00]
 refine GL_v rfl (rv_as (v := .int .u8 _) vw) ?_
 refine GL_nil ?_
 refine GC_shift (pB (B := bb8)) blk_toT ?_
 refine GC_shift (pB (B := b7)) blk_toT ?_
 refine GC_shift (pB (B := b5)) blk_toT ?_
 refine GC_shift (pB (B := b4)) blk_toT ?_
 refine GC_block ?_
 refine GC_seq ?_
 refine GC_region ?_
 refine GL_v rfl (rv_ld Tryz.underlying4 rfl vw) ?_
 refine GL_v rfl (rv_mv (v := .bool _) vw) ?_
 refine GL_g rfl rfl gvt (rv_mv (v := .int .u8 _) vw) ?_
 refine GL_g rfl rfl gvt (rv_eql vwg vw) ?_
 refine GL_g rfl rfl gvt (rv_mv (v := .bool _) vwg) ?_
 refine GL_g rfl rfl gvgf (rv_mv (v := .int .u8 _) vw) ?_
 refine GL_g rfl rfl gvgf (rv_eql vwg vw) ?_
 refine GL_g rfl rfl gvt (rv_or vwg vwg) ?_
 refine GL_v rfl (rv_and vw vwg) ?_
 refine GL_v rfl (rv_as (v := .bool _) vw) ?_
 refine GL_nil ?_
 refine GC_cond rfl (fun h0 => ?_) (fun h0 => ?_)
 ·
  have c0 : dir = 0 ∧ (code.toNat = 3 ∨ code.toNat = 4) := by simp at h0; omega
  refine GC_seq ?_
  refine GC_region ?_
  refine GL_v rfl (rv_mfE (la := []) (lb := [.pointer (some ⟨b7, 0, none⟩)]) rfl rfl) ?_
  refine GL_v rfl (rv_as (v := .func _ _ _) vw) ?_
  refine GL_nil ?_
  refine GC_ret ?_
  exact fin1 (.inr rfl) rfl rfl pB (sub_refl _) ⟨_, rfl, rfl, .inr ⟨asksR 125, by unfold form09; rw [if_pos c0], 196, [.pointer (some ⟨b7, 0, none⟩)], rfl, cb196, fun n k A r s e hn => (f196_ct B B2 b5 b4 n k A r s e code b7 hn).subT sb⟩⟩
 ·
  have c0 : ¬ (dir = 0 ∧ (code.toNat = 3 ∨ code.toNat = 4)) := by simp at h0; omega
  refine GC_seq ?_
  refine GC_seq ?_
  refine GC_region ?_
  refine GL_v rfl (rv_mv (v := .int .u8 _) vw) ?_
  refine GL_v rfl (rv_eql vw vw) ?_
  refine GL_v rfl (rv_as (v := .bool _) vw) ?_
  refine GL_nil ?_
  refine GC_cond rfl (fun h1 => ?_) (fun h1 => ?_)
  ·
   have c1 : code.toNat = 3 ∨ code.toNat = 4 ∨ code.toNat = 23 ∧ dir ≠ 0 := by simp at h1; omega
   refine GC_skip ?_
   refine GC_yes (congrArg Value.bool h1) ?_
   refine GC_seq ?_
   refine GC_region ?_
   refine GL_v rfl (rv_mfE (la := []) (lb := [.pointer (some ⟨b5, 0, none⟩), .pointer (some ⟨b4, 0, none⟩)]) rfl rfl) ?_
   refine GL_v rfl (rv_as (v := .func _ _ _) vw) ?_
   refine GL_nil ?_
   refine GC_ret ?_
   exact fin1 (.inr rfl) rfl rfl pB (sub_refl _) ⟨_, rfl, rfl, .inr ⟨toldR, by unfold form09; rw [if_neg c0, if_pos c1], 197, [.pointer (some ⟨b5, 0, none⟩), .pointer (some ⟨b4, 0, none⟩)], rfl, cb197, fun n k A r s e hn => (f197_ct B B2 b5 b4 n k A r s e code hn).subT sb⟩⟩
  ·
   refine GC_seq ?_
   refine GC_region ?_
   refine GL_v rfl (rv_mv (v := .int .u8 _) vw) ?_
   refine GL_v rfl (rv_eql vw vw) ?_
   refine GL_v rfl (rv_as (v := .bool _) vw) ?_
   refine GL_nil ?_
   refine GC_cond rfl (fun h3 => ?_) (fun h3 => ?_)
   ·
    have c1 : code.toNat = 3 ∨ code.toNat = 4 ∨ code.toNat = 23 ∧ dir ≠ 0 := by simp at h3; omega
    refine GC_skip ?_
    refine GC_yes (congrArg Value.bool h3) ?_
    refine GC_seq ?_
    refine GC_region ?_
    refine GL_v rfl (rv_mfE (la := []) (lb := [.pointer (some ⟨b5, 0, none⟩), .pointer (some ⟨b4, 0, none⟩)]) rfl rfl) ?_
    refine GL_v rfl (rv_as (v := .func _ _ _) vw) ?_
    refine GL_nil ?_
    refine GC_ret ?_
    exact fin1 (.inr rfl) rfl rfl pB (sub_refl _) ⟨_, rfl, rfl, .inr ⟨toldR, by unfold form09; rw [if_neg c0, if_pos c1], 197, [.pointer (some ⟨b5, 0, none⟩), .pointer (some ⟨b4, 0, none⟩)], rfl, cb197, fun n k A r s e hn => (f197_ct B B2 b5 b4 n k A r s e code hn).subT sb⟩⟩
   ·
    refine GC_region ?_
    refine GL_v rfl (rv_mv (v := .int .u8 _) vw) ?_
    refine GL_v rfl (rv_eql vw vw) ?_
    refine GL_v rfl (rv_mv (v := .bool _) vw) ?_
    refine GL_g rfl rfl gvt (rv_ld Tryz.underlying4 rfl vw) ?_
    refine GL_g rfl rfl gvt (rv_not vwg) ?_
    refine GL_v rfl (rv_and vw vwg) ?_
    refine GL_v rfl (rv_as (v := .bool _) vw) ?_
    refine GL_nil ?_
    refine GC_cond rfl (fun h5 => ?_) (fun h5 => ?_)
    ·
     have c1 : code.toNat = 3 ∨ code.toNat = 4 ∨ code.toNat = 23 ∧ dir ≠ 0 := by simp at h5; omega
     refine GC_seq ?_
     refine GC_region ?_
     refine GL_v rfl (rv_mfE (la := []) (lb := [.pointer (some ⟨b5, 0, none⟩), .pointer (some ⟨b4, 0, none⟩)]) rfl rfl) ?_
     refine GL_v rfl (rv_as (v := .func _ _ _) vw) ?_
     refine GL_nil ?_
     refine GC_ret ?_
     exact fin1 (.inr rfl) rfl rfl pB (sub_refl _) ⟨_, rfl, rfl, .inr ⟨toldR, by unfold form09; rw [if_neg c0, if_pos c1], 197, [.pointer (some ⟨b5, 0, none⟩), .pointer (some ⟨b4, 0, none⟩)], rfl, cb197, fun n k A r s e hn => (f197_ct B B2 b5 b4 n k A r s e code hn).subT sb⟩⟩
    ·
     have c1 : ¬ (code.toNat = 3 ∨ code.toNat = 4 ∨ code.toNat = 23 ∧ dir ≠ 0) := by simp at h1 h3 h5; omega
     refine GC_seq ?_
     refine GC_region ?_
     refine GL_v rfl (rv_mv (v := .int .u8 _) vw) ?_
     refine GL_v rfl (rv_eql vw vw) ?_
     refine GL_v rfl (rv_as (v := .bool _) vw) ?_
     refine GL_nil ?_
     refine GC_cond rfl (fun h6 => ?_) (fun h6 => ?_)
     ·
      have c2 : code.toNat = 6 := by simp at h6; omega
      refine GC_seq ?_
      refine GC_region ?_
      refine GL_v rfl (rv_mfE (la := []) (lb := [.pointer (some ⟨b5, 0, none⟩), .pointer (some ⟨b4, 0, none⟩)]) rfl rfl) ?_
      refine GL_v rfl (rv_as (v := .func _ _ _) vw) ?_
      refine GL_nil ?_
      refine GC_ret ?_
      exact fin1 (.inr rfl) rfl rfl pB (sub_refl _) ⟨_, rfl, rfl, .inr ⟨oneR, by unfold form09; rw [if_neg c0, if_neg c1, if_pos c2], 198, [.pointer (some ⟨b5, 0, none⟩), .pointer (some ⟨b4, 0, none⟩)], rfl, cb198, fun n k A r s e hn => (f198_ct B B2 b5 b4 n k A r s e code hn).subT sb⟩⟩
     ·
      have c2 : ¬ code.toNat = 6 := by simp at h6; omega
      refine GC_seq ?_
      refine GC_region ?_
      refine GL_v rfl (rv_mv (v := .int .u8 _) vw) ?_
      refine GL_v rfl (rv_eql vw vw) ?_
      refine GL_v rfl (rv_as (v := .bool _) vw) ?_
      refine GL_nil ?_
      refine GC_cond rfl (fun h7 => ?_) (fun h7 => ?_)
      ·
       have c3 : code.toNat = 16 := by simp at h7; omega
       refine GC_seq ?_
       refine GC_region ?_
       refine GL_v rfl (rv_mfE (la := []) (lb := [.pointer (some ⟨b7, 0, none⟩), .pointer (some ⟨bb8, 0, none⟩), .pointer (some ⟨b5, 0, none⟩), .pointer (some ⟨b4, 0, none⟩)]) rfl rfl) ?_
       refine GL_v rfl (rv_as (v := .func _ _ _) vw) ?_
       refine GL_nil ?_
       refine GC_ret ?_
       exact fin1 (.inr rfl) rfl rfl pB (sub_refl _) ⟨_, rfl, rfl, .inr ⟨(if dir = 0 then manyR else asksR 123), by unfold form09; rw [if_neg c0, if_neg c1, if_neg c2, if_pos c3], 199, [.pointer (some ⟨b7, 0, none⟩), .pointer (some ⟨bb8, 0, none⟩), .pointer (some ⟨b5, 0, none⟩), .pointer (some ⟨b4, 0, none⟩)], rfl, cb199, fun n k A r s e hn => (f199_ct B B2 b5 b4 n k A r s e code b7 bb8 dir hn).subT sb⟩⟩
      ·
       have c3 : ¬ code.toNat = 16 := by simp at h7; omega
       refine GC_seq ?_
       refine GC_region ?_
       refine GL_v rfl (rv_mv (v := .int .u8 _) vw) ?_
       refine GL_v rfl (rv_eql vw vw) ?_
       refine GL_v rfl (rv_as (v := .bool _) vw) ?_
       refine GL_nil ?_
       refine GC_cond rfl (fun h8 => ?_) (fun h8 => ?_)
       ·
        have c4 : code.toNat = 22 := by simp at h8; omega
        refine GC_seq ?_
        refine GC_region ?_
        refine GL_v rfl (rv_mfE (la := []) (lb := [.pointer (some ⟨b5, 0, none⟩), .pointer (some ⟨b4, 0, none⟩)]) rfl rfl) ?_
        refine GL_v rfl (rv_as (v := .func _ _ _) vw) ?_
        refine GL_nil ?_
        refine GC_ret ?_
        exact fin1 (.inr rfl) rfl rfl pB (sub_refl _) ⟨_, rfl, rfl, .inr ⟨maskR, by unfold form09; rw [if_neg c0, if_neg c1, if_neg c2, if_neg c3, if_pos c4], 201, [.pointer (some ⟨b5, 0, none⟩), .pointer (some ⟨b4, 0, none⟩)], rfl, cb201, fun n k A r s e hn => (f201_ct B B2 b5 b4 n k A r s e code hn).subT sb⟩⟩
       ·
        have c4 : ¬ code.toNat = 22 := by simp at h8; omega
        refine GC_seq ?_
        refine GC_region ?_
        refine GL_v rfl (rv_mv (v := .int .u8 _) vw) ?_
        refine GL_v rfl (rv_eql vw vw) ?_
        refine GL_v rfl (rv_as (v := .bool _) vw) ?_
        refine GL_nil ?_
        refine GC_cond rfl (fun h9 => ?_) (fun h9 => ?_)
        ·
         have c5 : code.toNat = 23 := by simp at h9; omega
         refine GC_seq ?_
         refine GC_region ?_
         refine GL_v rfl (rv_mfE (la := []) (lb := [.pointer (some ⟨b7, 0, none⟩), .pointer (some ⟨b5, 0, none⟩), .pointer (some ⟨b4, 0, none⟩)]) rfl rfl) ?_
         refine GL_v rfl (rv_as (v := .func _ _ _) vw) ?_
         refine GL_nil ?_
         refine GC_ret ?_
         exact fin1 (.inr rfl) rfl rfl pB (sub_refl _) ⟨_, rfl, rfl, .inr ⟨bothR, by unfold form09; rw [if_neg c0, if_neg c1, if_neg c2, if_neg c3, if_neg c4, if_pos c5], 202, [.pointer (some ⟨b7, 0, none⟩), .pointer (some ⟨b5, 0, none⟩), .pointer (some ⟨b4, 0, none⟩)], rfl, cb202, fun n k A r s e hn => (f202_ct B B2 b5 b4 n k A r s e code b7 hn).subT sb⟩⟩
        ·
         have c5 : ¬ code.toNat = 23 := by simp at h9; omega
         refine GC_seq ?_
         refine GC_region ?_
         refine GL_v rfl (rv_mv (v := .int .u8 _) vw) ?_
         refine GL_v rfl (rv_eql vw vw) ?_
         refine GL_v rfl (rv_mv (v := .bool _) vw) ?_
         refine GL_g rfl rfl gvt (rv_ld Tryz.underlying4 rfl vw) ?_
         refine GL_v rfl (rv_and vw vwg) ?_
         refine GL_v rfl (rv_as (v := .bool _) vw) ?_
         refine GL_nil ?_
         refine GC_cond rfl (fun h10 => ?_) (fun h10 => ?_)
         ·
          have c6 : code.toNat = 24 ∧ dir = 0 := by simp at h10; omega
          refine GC_seq ?_
          refine GC_region ?_
          refine GL_v rfl (rv_mfE (la := []) (lb := [.pointer (some ⟨b5, 0, none⟩), .pointer (some ⟨b4, 0, none⟩)]) rfl rfl) ?_
          refine GL_v rfl (rv_as (v := .func _ _ _) vw) ?_
          refine GL_nil ?_
          refine GC_ret ?_
          exact fin1 (.inr rfl) rfl rfl pB (sub_refl _) ⟨_, rfl, rfl, .inr ⟨askQ, by unfold form09; rw [if_neg c0, if_neg c1, if_neg c2, if_neg c3, if_neg c4, if_neg c5, if_pos c6], 203, [.pointer (some ⟨b5, 0, none⟩), .pointer (some ⟨b4, 0, none⟩)], rfl, cb203, fun n k A r s e hn => (f203_ct B B2 b5 b4 n k A r s e code hn).subT sb⟩⟩
         ·
          have c6 : ¬ (code.toNat = 24 ∧ dir = 0) := by simp at h10; omega
          refine GC_seq ?_
          refine GC_region ?_
          refine GL_v rfl (rv_mv (v := .int .u8 _) vw) ?_
          refine GL_v rfl (rv_eql vw vw) ?_
          refine GL_v rfl (rv_as (v := .bool _) vw) ?_
          refine GL_nil ?_
          refine GC_cond rfl (fun h11 => ?_) (fun h11 => ?_)
          ·
           have c7 : code.toNat = 24 := by simp at h11; omega
           refine GC_seq ?_
           refine GC_region ?_
           refine GL_v rfl (rv_mfE (la := []) (lb := [.pointer (some ⟨b5, 0, none⟩), .pointer (some ⟨b4, 0, none⟩)]) rfl rfl) ?_
           refine GL_v rfl (rv_as (v := .func _ _ _) vw) ?_
           refine GL_nil ?_
           refine GC_ret ?_
           exact fin1 (.inr rfl) rfl rfl pB (sub_refl _) ⟨_, rfl, rfl, .inr ⟨queueR, by unfold form09; rw [if_neg c0, if_neg c1, if_neg c2, if_neg c3, if_neg c4, if_neg c5, if_neg c6, if_pos c7], 204, [.pointer (some ⟨b5, 0, none⟩), .pointer (some ⟨b4, 0, none⟩)], rfl, cb204, fun n k A r s e hn => (f204_ct B B2 b5 b4 n k A r s e code hn).subT sb⟩⟩
          ·
           have c7 : ¬ code.toNat = 24 := by simp at h11; omega
           refine GC_skip ?_
           refine GC_seq ?_
           refine GC_region ?_
           refine GL_v rfl (rv_as (v := .nilFunc) vw) ?_
           refine GL_nil ?_
           refine GC_ret ?_
           exact fin1 (.inr rfl) rfl rfl pB .nil ⟨_, rfl, rfl, .inl ⟨by unfold form09; rw [if_neg c0, if_neg c1, if_neg c2, if_neg c3, if_neg c4, if_neg c5, if_neg c6, if_neg c7], rfl⟩⟩
theorem P09_ct (dir : Int) (code : UInt8) (A : Option Addr) (n k : Nat) (b : List UInt8) (hn : n ≤ 35184372088832) : Ct PG 100 [.int .i64 dir, b8 code, .slice A n k] [] [row 1 A n k (bytesV b)] (MsgOut (P09 dir code b)) := by
 refine Ct_of Tryz.func100 rfl 40 rfl (Nat.le_of_ble_eq_true rfl) fun w0 M N => ?_
 obtain ⟨p, hp⟩ : ∃ p, P09 dir code b = p := ⟨_, rfl⟩
 rw [hp]
 refine GC_seq ?_
 refine GC_region ?_
 refine GL_alloc rfl z30 (fun b6 => ?_)
 refine GL_v rfl (rv_as (v := .int .i64 _) vw) ?_
 refine GL_nil ?_
 refine GC_seq ?_
 refine GC_seq ?_
 refine GC_region ?_
 refine GL_v rfl (rv_mv (v := .int .i64 _) vw) ?_
 refine GL_v rfl (rv_neq vw vw) ?_
 refine GL_v rfl (rv_mv (v := .bool _) vw) ?_
 refine GL_g rfl rfl gvt (rv_mv (v := .int .i64 _) vw) ?_
 refine GL_g rfl rfl gvt (rv_neq vwg vw) ?_
 refine GL_v rfl (rv_and vw vwg) ?_
 refine GL_nil ?_
 refine GC_cond rfl (fun h0 => ?_) (fun h0 => ?_)
 ·
  have hd : dir ≠ 0 ∧ dir ≠ 1 := by simpa using h0
  have he : P09 dir code b = ({}, 1) := if_pos hd
  obtain rfl := hp.symm.trans he
  refine GC_seq ?_
  refine GC_region ?_
  refine GL_v rfl (rv_bld (z' := [.int .u8 0, .int .u8 0, .int .u16 0, .int .u16 0, .int .u16 0, .int .u16 0, .int .u16 0, .int .u16 0, .int .u16 0, .int .u16 0, .int .u16 0, .int .u16 0, .slice none 0 0, .slice none 0 0, .slice none 0 0, .slice none 0 0, .int .u8 0, .int .u8 0, .int .u8 0, .int .u8 0, .int .u8 0, .slice none 0 0]) z30 l30 (fun _ => rfl)) ?_
  refine GL_stA rfl rfl c30 (by simp [Value.oneCell']) (by rfl) ?_
  refine GL_v rfl (rv_as (v := .int .i64 _) vw) ?_
  refine GL_nil ?_
  refine GC_shift .nil (msg0 {}) ?_
  refine GC_ret ?_
  exact finA (T' := [msgR { m := {} }]) (.inr rfl) rfl rfl rfl inferInstance a30 rfl .nil sb ⟨{ m := {} }, rfl, rfl, rfl, rfl⟩
 ·
  have hd : ¬ (dir ≠ 0 ∧ dir ≠ 1) := by simpa using h0
  simp only [P09, parseBy, if_neg hd] at hp
  refine GC_skip ?_
  refine GC_seq ?_
  refine GC_region ?_
  refine GL_v rfl (rv_mv (v := b8 code) vw) ?_
  refine GL_v rfl (rv_bld (z' := [.int .u8 _, .int .u8 0, .int .u16 0, .int .u16 0, .int .u16 0, .int .u16 0, .int .u16 0, .int .u16 0, .int .u16 0, .int .u16 0, .int .u16 0, .int .u16 0, .slice none 0 0, .slice none 0 0, .slice none 0 0, .slice none 0 0, .int .u8 0, .int .u8 0, .int .u8 0, .int .u8 0, .int .u8 0, .slice none 0 0]) z30 l30 (fun _ => rfl)) ?_
  refine GL_alloc rfl z30 (fun bb8 => ?_)
  refine GL_stA (l' := MsgX.cells { m := { code := code } }) rfl rfl c30 (MsgX.cells_one _) (by rfl) ?_
  refine GL_nil ?_
  refine GC_seq ?_
  refine GC_region ?_
  refine GL_v rfl (rv_mv (v := .slice _ _ _) vw) ?_
  refine GL_call rfl cb72 (New_k A n _ b hn) rfl .nil sR ?_
  rintro _ _ _ ⟨B, A1, n1, k1, hn1, rfl, rfl, rfl⟩
  simp only [List.cons_append, List.nil_append]
  refine GL_v rfl (rv_as (v := .pointer _) vw) ?_
  refine GL_nil ?_
  refine GC_seq ?_
  refine GC_region ?_
  refine GL_v rfl (rv_mv (v := .int .i64 _) vw) ?_
  refine GL_v rfl (rv_mv (v := .pointer _) vw) ?_
  refine GL_call rfl cb162 (form09_ct dir B bb8 code) rfl (pB (B := bb8)) .nil ?_
  rintro fv _ T0 ⟨_, rfl, rfl, hfv⟩
  simp only [List.cons_append, List.nil_append]
  refine GL_v rfl (rv_as (v := fv) vw) ?_
  refine GL_nil ?_
  refine GC_seq ?_
  refine GC_seq ?_
  refine GC_region ?_
  refine GL_v rfl (rv_mv (v := fv) vw) ?_
  refine GL_v rfl (rv_eqFn Tryz.underlying1 vw (by rcases hfv with ⟨_, h⟩ | ⟨_, _, _, _, h, _⟩; exact .inl h; exact .inr ⟨_, _, _, h⟩)) ?_
  refine GL_nil ?_
  refine GC_cond rfl (fun h1 => ?_) (fun h1 => ?_)
  ·
   have hno : form09 dir code = none := by
    rcases hfv with ⟨h, _⟩ | ⟨_, _, _, _, h, _⟩
    · exact h
    · rw [h] at h1; cases h1
   rw [hno] at hp
   obtain rfl := hp
   refine GC_seq ?_
   refine GC_region ?_
   refine GL_v rfl (rv_bld (z' := [.int .u8 0, .int .u8 0, .int .u16 0, .int .u16 0, .int .u16 0, .int .u16 0, .int .u16 0, .int .u16 0, .int .u16 0, .int .u16 0, .int .u16 0, .int .u16 0, .slice none 0 0, .slice none 0 0, .slice none 0 0, .slice none 0 0, .int .u8 0, .int .u8 0, .int .u8 0, .int .u8 0, .int .u8 0, .slice none 0 0]) z30 l30 (fun _ => rfl)) ?_
   refine GL_stA rfl rfl c30 (by simp [Value.oneCell']) (by rfl) ?_
   refine GL_v rfl (rv_as (v := .int .i64 _) vw) ?_
   refine GL_nil ?_
   refine GC_shift .nil (msg0 {}) ?_
   refine GC_ret ?_
   exact finA (T' := [msgR { m := {} }]) (.inr rfl) rfl rfl rfl inferInstance a30 rfl .nil (.cons (List.mem_cons_self ..) .nil) ⟨{ m := {} }, rfl, rfl, rfl, rfl⟩
  ·
   obtain ⟨F, hF, f, caps, rfl, hcb, hct⟩ : ∃ F, form09 dir code = some F ∧ FormVT B bb8 code F T0 fv := by
    rcases hfv with ⟨_, h⟩ | h
    · rw [h] at h1; cases h1
    · exact h
   rw [hF] at hp
   simp only at hp
   refine GC_skip ?_
   refine GC_seq ?_
   refine GC_region ?_
   refine GL_v rfl (rv_mv (v := .func (.func f) [].toArray caps.toArray) vw) ?_
   refine GL_callC rfl rfl hcb (by show [] ++ [] ++ caps = caps; simp) (hct n1 k1 A1 b false 0 hn1) (pB2 (B := B) (B2 := bb8)) (sub_row _ _) ?_
   rintro _ _ _ ⟨x, r, s, e, A9, n9, k9, hx, hn9, rfl, rfl, rfl⟩
   simp only [List.cons_append, List.nil_append]
   rw [hx] at hp
   refine GL_nil ?_
   refine GC_seq ?_
   refine GC_region ?_
   refine GL_v rfl (rv_mv (v := .pointer _) vw) ?_
   refine GL_call rfl cb159 (End_k B n9 k9 A9 r s e) rfl pB sR ?_
   rintro _ _ _ ⟨e2, hc2, rfl, rfl, rfl⟩
   simp only [List.cons_append, List.nil_append]
   refine GL_nil ?_
   refine GC_seq ?_
   refine GC_seq ?_
   refine GC_region ?_
   refine GL_v rfl (rv_mv (v := .pointer _) vw) ?_
   refine GL_callD rfl cb160 (Err_ct B n9 k9 A9 s e2) rfl pB .nil ?_
   refine GL_v rfl (rv_as (v := .int .i64 _) vw) ?_
   refine GL_nil ?_
   refine GC_seq ?_
   refine GC_region ?_
   refine GL_v rfl (rv_mv (v := .int .i64 _) vw) ?_
   refine GL_v rfl (rv_neq vw vw) ?_
   refine GL_nil ?_
   refine GC_cond rfl (fun h2 => ?_) (fun h2 => ?_)
   ·
    have he : ¬ e2 = 0 := by simpa using h2
    rw [finish_no hc2 he] at hp
    obtain rfl := hp
    refine GC_seq ?_
    refine GC_region ?_
    refine GL_v rfl (rv_bld (z' := [.int .u8 0, .int .u8 0, .int .u16 0, .int .u16 0, .int .u16 0, .int .u16 0, .int .u16 0, .int .u16 0, .int .u16 0, .int .u16 0, .int .u16 0, .int .u16 0, .slice none 0 0, .slice none 0 0, .slice none 0 0, .slice none 0 0, .int .u8 0, .int .u8 0, .int .u8 0, .int .u8 0, .int .u8 0, .slice none 0 0]) z30 l30 (fun _ => rfl)) ?_
    refine GL_v rfl (rv_mv (v := .int .i64 _) vw) ?_
    refine GL_stA rfl rfl c30 (by simp [Value.oneCell']) (by rfl) ?_
    refine GL_v rfl (rv_as (v := .int .i64 _) vw) ?_
    refine GL_nil ?_
    refine GC_shift .nil (msg0 {}) ?_
    refine GC_ret ?_
    exact finA (T' := [msgR { m := {} }]) (.inr rfl) rfl rfl rfl inferInstance a30 rfl .nil sb ⟨{ m := {} }, rfl, rfl, rfl, rfl⟩
   ·
    have he : e2 = 0 := by simpa using h2
    rw [finish_ok hc2 he] at hp
    obtain rfl := hp
    refine GC_skip ?_
    refine GC_seq ?_
    refine GC_region ?_
    refine GL_v rfl (rv_ldA a30 vw rfl) ?_
    refine GL_stA (l' := x.cells) rfl rfl c30 (MsgX.cells_one _) (by rfl) ?_
    refine GL_v rfl (rv_as (v := .int .i64 _) vw) ?_
    refine GL_nil ?_
    refine GC_ret ?_
    exact finA (T' := [msgR x]) (.inr rfl) rfl rfl rfl inferInstance a30 rfl .nil sb ⟨x, rfl, rfl, rfl, rfl⟩
theorem L09_ct (dir : Int) (x : MsgX) (hf : x.m.few) : Ct PG 163 [.int .i64 dir, .agg x.cells.toArray] [] [msgR x] (BytesO (L09 dir x.m)) := by
 refine Ct_of Tryz.func163 rfl 124 rfl (Nat.le_of_ble_eq_true rfl) fun w0 M N => ?_
 refine GC_msg x fun hx => ?_
 have hw := hx.words
 obtain ⟨f1, f2, f3, f4, f5, f6, f7⟩ := hf
 obtain ⟨l, hl⟩ : ∃ l, L09 dir x.m = l := ⟨_, rfl⟩
 rw [hl]
 simp only [L09, hw] at hl
 refine GC_shift .nil (msg_words (x := x)) ?_
 refine GC_seq ?_
 refine GC_region ?_
 refine GL_boxA (l := x.cells) rfl rfl (fun b3 => ?_)
 rw [x.cells_eq]
 refine GL_v rfl (rv_as (v := .slice _ _ _) vw) ?_
 refine GL_nil ?_
 refine GC_seq ?_
 refine GC_region ?_
 refine GL_v rfl (rv_fa fa30_12 vw) ?_
 refine GL_v rfl (rv_ld Tryz.underlying25 rfl vw) ?_
 refine GL_v rfl (rv_len el25 vw) ?_
 refine GL_v rfl (rv_as (v := .int .i64 _) vw) ?_
 refine GL_nil ?_
 refine GC_seq ?_
 refine GC_region ?_
 refine GL_v rfl (rv_mv (v := .int .i64 _) vw) ?_
 refine GL_v rfl (rv_mul (r := ((2 * x.w.n : Nat) : Int)) vw vw (fun _ => by rw [IntWalk.i64_in _ (by omega)]; omega)) ?_
 refine GL_v rfl (rv_cnv (r := ((UInt8.ofNat (2 * x.w.n)).toNat : Int)) Tryz.underlying3 Tryz.underlying5 vw (fun _ => wrap8 _)) ?_
 refine GL_bs (l := bytesV [UInt8.ofNat (2 * x.w.n)]) rfl el22 z5 rfl rfl rfl (fun b16 => ?_)
 refine GL_v rfl (rv_fa fa30_12 vw) ?_
 refine GL_v rfl (rv_ld Tryz.underlying25 rfl vw) ?_
 refine GL_call rfl cb77 (Put_ct x.w.A x.w.n x.w.k x.m.words (by omega)) rfl .nil sR ?_
 rintro _ _ _ ⟨Aw, kw, rfl, rfl, rfl⟩
 simp only [List.cons_append, List.nil_append]
 refine GL_shift (.cons .here .nil) own_toRow ?_
 refine GL_v rfl (rv_as (v := .slice _ _ _) vw) ?_
 refine GL_v rfl (rv_as (v := .slice _ _ _) vw) ?_
 refine GL_nil ?_
 refine GC_seq ?_
 refine GC_region ?_
 refine GL_v rfl (rv_mv (v := .int .i64 _) vw) ?_
 refine GL_v rfl (rv_eql vw vw) ?_
 refine GL_v rfl (rv_as (v := .bool _) vw) ?_
 refine GL_nil ?_
 refine GC_seq ?_
 refine GC_seq ?_
 refine GC_region ?_
 refine GL_v rfl (rv_fa fa30_0 vw) ?_
 refine GL_v rfl (rv_ld (v := b8 x.m.code) Tryz.underlying5 rfl vw) ?_
 refine GL_v rfl (rv_as (v := .int .u8 _) vw) ?_
 refine GL_nil ?_
 refine GC_block ?_
 refine GC_seq ?_
 refine GC_region ?_
 refine GL_v rfl (rv_mv (v := .bool _) vw) ?_
 refine GL_v rfl (rv_not vw) ?_
 refine GL_v rfl (rv_mv (v := .bool _) vw) ?_
 refine GL_g rfl rfl gvt (rv_mv (v := .int .u8 _) vw) ?_
 refine GL_g rfl rfl gvt (rv_eql vwg vw) ?_
 refine GL_g rfl rfl gvt (rv_mv (v := .bool _) vwg) ?_
 refine GL_g rfl rfl gvgf (rv_mv (v := .int .u8 _) vw) ?_
 refine GL_g rfl rfl gvgf (rv_eql vwg vw) ?_
 refine GL_g rfl rfl gvt (rv_or vwg vwg) ?_
 refine GL_g rfl rfl gvt (rv_mv (v := .bool _) vwg) ?_
 refine GL_g rfl rfl gvgf (rv_mv (v := .int .u8 _) vw) ?_
 refine GL_g rfl rfl gvgf (rv_eql vwg vw) ?_
 refine GL_g rfl rfl gvt (rv_or vwg vwg) ?_
 refine GL_v rfl (rv_and vw vwg) ?_
 refine GL_v rfl (rv_as (v := .bool _) vw) ?_
 refine GL_nil ?_
 refine GC_cond rfl (fun h0 => ?_) (fun h0 => ?_)
 ·
  have c0 : dir ≠ 0 ∧ (x.m.code.toNat = 3 ∨ x.m.code.toNat = 4 ∨ x.m.code.toNat = 23) := by simp at h0; omega
  rw [if_pos c0] at hl
  subst hl
  refine GC_seq ?_
  refine GC_region ?_
  refine GL_v rfl (rv_mv (v := .slice _ _ _) vw) ?_
  refine GL_v rfl (rv_mv (v := .slice _ _ _) vw) ?_
  refine GL_shift (pB (B := b16)) (blk_own (n := 1) (sz := 1) rfl (by decide)) ?_
  refine GL_app (m := 2 * x.w.n) rfl el22 rfl rfl pW (by rw [bytesV_length, putW_length, hw, Nat.mul_one]) (bytesV_one _) (by omega) (by simp [maxLen]; omega) (fun A3 k3 => ?_)
  rw [← bytesV_append]
  refine GL_shift (.cons .here .nil) own_toRow ?_
  refine GL_v rfl (rv_as (v := .slice _ _ _) vw) ?_
  refine GL_nil ?_
  refine GC_ret ?_
  exact fin1 (T' := [row 1 A3 (1 + 2 * x.w.n) k3 (bytesV ([UInt8.ofNat (2 * x.w.n)] ++ putW x.m.words))]) (.inr rfl) rfl rfl .nil sb ⟨A3, _, k3, rfl, rfl, rfl⟩
 ·
  have c0 : ¬ (dir ≠ 0 ∧ (x.m.code.toNat = 3 ∨ x.m.code.toNat = 4 ∨ x.m.code.toNat = 23)) := by simp at h0; omega
  rw [if_neg c0] at hl
  refine GC_seq ?_
  refine GC_region ?_
  refine GL_v rfl (rv_mv (v := .int .u8 _) vw) ?_
  refine GL_v rfl (rv_eql vw vw) ?_
  refine GL_v rfl (rv_as (v := .bool _) vw) ?_
  refine GL_nil ?_
  refine GC_cond rfl (fun h1 => ?_) (fun h1 => ?_)
  ·
   have c1 : x.m.code.toNat = 6 := by simp at h1; omega
   rw [if_pos c1] at hl
   subst hl
   refine GC_seq ?_
   refine GC_region ?_
   refine GL_v rfl (rv_fa fa30_2 vw) ?_
   refine GL_v rfl (rv_ld Tryz.underlying24 rfl vw) ?_
   refine GL_v rfl (rv_fa fa30_4 vw) ?_
   refine GL_v rfl (rv_ld Tryz.underlying24 rfl vw) ?_
   refine GL_bs (l := wordsV [x.m.addr, x.m.value]) rfl el25 z24 rfl rfl rfl (fun b49 => ?_)
   refine GL_shift (.cons .here .nil) (blk_own (n := 2) (sz := 1) rfl (by decide)) ?_
   refine GL_shift (.cons .here .nil) own_toRow ?_
   refine GL_call rfl cb77 (Put_ct _ 2 2 [x.m.addr, x.m.value] (by decide)) rfl .nil sb ?_
   rintro _ _ _ ⟨A3, k3, rfl, rfl, rfl⟩
   simp only [List.cons_append, List.nil_append]
   refine GL_shift (.cons .here .nil) own_toRow ?_
   refine GL_v rfl (rv_as (v := .slice _ _ _) vw) ?_
   refine GL_nil ?_
   refine GC_ret ?_
   exact fin1 (.inr rfl) rfl rfl .nil sb ⟨A3, _, k3, rfl, rfl, rfl⟩
  ·
   have c1 : ¬ x.m.code.toNat = 6 := by simp at h1; omega
   rw [if_neg c1] at hl
   refine GC_seq ?_
   refine GC_region ?_
   refine GL_v rfl (rv_mv (v := .int .u8 _) vw) ?_
   refine GL_v rfl (rv_eql vw vw) ?_
   refine GL_v rfl (rv_as (v := .bool _) vw) ?_
   refine GL_nil ?_
   refine GC_cond rfl (fun h2 => ?_) (fun h2 => ?_)
   ·
    have c2 : x.m.code.toNat = 22 := by simp at h2; omega
    rw [if_pos c2] at hl
    subst hl
    refine GC_seq ?_
    refine GC_region ?_
    refine GL_v rfl (rv_fa fa30_2 vw) ?_
    refine GL_v rfl (rv_ld Tryz.underlying24 rfl vw) ?_
    refine GL_v rfl (rv_fa fa30_5 vw) ?_
    refine GL_v rfl (rv_ld Tryz.underlying24 rfl vw) ?_
    refine GL_v rfl (rv_fa fa30_6 vw) ?_
    refine GL_v rfl (rv_ld Tryz.underlying24 rfl vw) ?_
    refine GL_bs (l := wordsV [x.m.addr, x.m.and, x.m.or]) rfl el25 z24 rfl rfl rfl (fun b60 => ?_)
    refine GL_shift (.cons .here .nil) (blk_own (n := 3) (sz := 1) rfl (by decide)) ?_
    refine GL_shift (.cons .here .nil) own_toRow ?_
    refine GL_call rfl cb77 (Put_ct _ 3 3 [x.m.addr, x.m.and, x.m.or] (by decide)) rfl .nil sb ?_
    rintro _ _ _ ⟨A3, k3, rfl, rfl, rfl⟩
    simp only [List.cons_append, List.nil_append]
    refine GL_shift (.cons .here .nil) own_toRow ?_
    refine GL_v rfl (rv_as (v := .slice _ _ _) vw) ?_
    refine GL_nil ?_
    refine GC_ret ?_
    exact fin1 (.inr rfl) rfl rfl .nil sb ⟨A3, _, k3, rfl, rfl, rfl⟩
   ·
    have c2 : ¬ x.m.code.toNat = 22 := by simp at h2; omega
    rw [if_neg c2] at hl
    refine GC_seq ?_
    refine GC_region ?_
    refine GL_v rfl (rv_mv (v := .int .u8 _) vw) ?_
    refine GL_v rfl (rv_eql vw vw) ?_
    refine GL_v rfl (rv_mv (v := .bool _) vw) ?_
    refine GL_g rfl rfl gvt (rv_mv (v := .bool _) vw) ?_
    refine GL_v rfl (rv_and vw vwg) ?_
    refine GL_v rfl (rv_as (v := .bool _) vw) ?_
    refine GL_nil ?_
    refine GC_cond rfl (fun h3 => ?_) (fun h3 => ?_)
    ·
     have c3 : x.m.code.toNat = 16 ∧ dir = 0 := by simp at h3; omega
     rw [if_pos c3] at hl
     subst hl
     refine GC_seq ?_
     refine GC_region ?_
     refine GL_v rfl (rv_fa fa30_2 vw) ?_
     refine GL_v rfl (rv_ld Tryz.underlying24 rfl vw) ?_
     refine GL_v rfl (rv_fa fa30_3 vw) ?_
     refine GL_v rfl (rv_ld Tryz.underlying24 rfl vw) ?_
     refine GL_bs (l := wordsV [x.m.addr, x.m.count]) rfl el25 z24 rfl rfl rfl (fun b72 => ?_)
     refine GL_shift (.cons .here .nil) (blk_own (n := 2) (sz := 1) rfl (by decide)) ?_
     refine GL_shift (.cons .here .nil) own_toRow ?_
     refine GL_call rfl cb77 (Put_ct _ 2 2 [x.m.addr, x.m.count] (by decide)) rfl .nil sb ?_
     rintro _ _ _ ⟨A3, k3, rfl, rfl, rfl⟩
     simp only [List.cons_append, List.nil_append]
     refine GL_v rfl (rv_mv (v := .slice _ _ _) vw) ?_
     refine GL_app (m := 1) rfl el22 rfl rfl pW rfl (bytesV_one _) (by omega) (by simp [maxLen]) (fun A4 k4 => ?_)
     refine GL_v rfl (rv_mv (v := .slice _ _ _) vw) ?_
     refine GL_app (m := 2 * x.w.n) rfl el22 rfl rfl pW (by rw [bytesV_length, putW_length, hw, Nat.mul_one]) (bytesV_one _) (by omega) (by simp [maxLen]; omega) (fun A5 k5 => ?_)
     rw [← bytesV_append, ← bytesV_append]
     refine GL_shift (.cons .here .nil) own_toRow ?_
     refine GL_v rfl (rv_as (v := .slice _ _ _) vw) ?_
     refine GL_nil ?_
     refine GC_ret ?_
     exact fin1 (T' := [row 1 A5 (2 * 2 + 1 + 2 * x.w.n) k5 (bytesV (putW [x.m.addr, x.m.count] ++ [UInt8.ofNat (2 * x.w.n)] ++ putW x.m.words))]) (.inr rfl) rfl rfl .nil sb ⟨A5, _, k5, rfl, rfl, by rw [List.append_assoc]; rfl⟩
    ·
     have c3 : ¬ (x.m.code.toNat = 16 ∧ dir = 0) := by simp at h3; omega
     rw [if_neg c3] at hl
     refine GC_seq ?_
     refine GC_region ?_
     refine GL_v rfl (rv_mv (v := .int .u8 _) vw) ?_
     refine GL_v rfl (rv_eql vw vw) ?_
     refine GL_v rfl (rv_as (v := .bool _) vw) ?_
     refine GL_nil ?_
     refine GC_cond rfl (fun h4 => ?_) (fun h4 => ?_)
     ·
      have c4 : x.m.code.toNat = 23 := by simp at h4; omega
      rw [if_pos c4] at hl
      subst hl
      refine GC_seq ?_
      refine GC_region ?_
      refine GL_v rfl (rv_fa fa30_2 vw) ?_
      refine GL_v rfl (rv_ld Tryz.underlying24 rfl vw) ?_
      refine GL_v rfl (rv_fa fa30_3 vw) ?_
      refine GL_v rfl (rv_ld Tryz.underlying24 rfl vw) ?_
      refine GL_v rfl (rv_fa fa30_7 vw) ?_
      refine GL_v rfl (rv_ld Tryz.underlying24 rfl vw) ?_
      refine GL_v rfl (rv_mv (v := .int .i64 _) vw) ?_
      refine GL_v rfl (rv_cnv (r := ((UInt16.ofNat x.w.n).toNat : Int)) Tryz.underlying3 Tryz.underlying24 vw (fun _ => wrap16 _)) ?_
      refine GL_bs (l := wordsV [x.m.addr, x.m.count, x.m.addr2, UInt16.ofNat x.w.n]) rfl el25 z24 rfl rfl rfl (fun b89 => ?_)
      refine GL_shift (.cons .here .nil) (blk_own (n := 4) (sz := 1) rfl (by decide)) ?_
      refine GL_shift (.cons .here .nil) own_toRow ?_
      refine GL_call rfl cb77 (Put_ct _ 4 4 [x.m.addr, x.m.count, x.m.addr2, UInt16.ofNat x.w.n] (by decide)) rfl .nil sb ?_
      rintro _ _ _ ⟨A3, k3, rfl, rfl, rfl⟩
      simp only [List.cons_append, List.nil_append]
      refine GL_v rfl (rv_mv (v := .slice _ _ _) vw) ?_
      refine GL_app (m := 1) rfl el22 rfl rfl pW rfl (bytesV_one _) (by omega) (by simp [maxLen]) (fun A4 k4 => ?_)
      refine GL_v rfl (rv_mv (v := .slice _ _ _) vw) ?_
      refine GL_app (m := 2 * x.w.n) rfl el22 rfl rfl pW (by rw [bytesV_length, putW_length, hw, Nat.mul_one]) (bytesV_one _) (by omega) (by simp [maxLen]; omega) (fun A5 k5 => ?_)
      rw [← bytesV_append, ← bytesV_append]
      refine GL_shift (.cons .here .nil) own_toRow ?_
      refine GL_v rfl (rv_as (v := .slice _ _ _) vw) ?_
      refine GL_nil ?_
      refine GC_ret ?_
      exact fin1 (T' := [row 1 A5 (2 * 4 + 1 + 2 * x.w.n) k5 (bytesV (putW [x.m.addr, x.m.count, x.m.addr2, UInt16.ofNat x.w.n] ++ [UInt8.ofNat (2 * x.w.n)] ++ putW x.m.words))]) (.inr rfl) rfl rfl .nil sb ⟨A5, _, k5, rfl, rfl, by rw [List.append_assoc]; rfl⟩
     ·
      have c4 : ¬ x.m.code.toNat = 23 := by simp at h4; omega
      rw [if_neg c4] at hl
      refine GC_seq ?_
      refine GC_region ?_
      refine GL_v rfl (rv_mv (v := .int .u8 _) vw) ?_
      refine GL_v rfl (rv_eql vw vw) ?_
      refine GL_v rfl (rv_mv (v := .bool _) vw) ?_
      refine GL_g rfl rfl gvt (rv_mv (v := .bool _) vw) ?_
      refine GL_v rfl (rv_and vw vwg) ?_
      refine GL_v rfl (rv_as (v := .bool _) vw) ?_
      refine GL_nil ?_
      refine GC_cond rfl (fun h5 => ?_) (fun h5 => ?_)
      ·
       have c5 : x.m.code.toNat = 24 ∧ dir = 0 := by simp at h5; omega
       rw [if_pos c5] at hl
       subst hl
       refine GC_seq ?_
       refine GC_region ?_
       refine GL_v rfl (rv_fa fa30_2 vw) ?_
       refine GL_v rfl (rv_ld Tryz.underlying24 rfl vw) ?_
       refine GL_bs (l := wordsV [x.m.addr]) rfl el25 z24 rfl rfl rfl (fun b103 => ?_)
       refine GL_shift (.cons .here .nil) (blk_own (n := 1) (sz := 1) rfl (by decide)) ?_
       refine GL_shift (.cons .here .nil) own_toRow ?_
       refine GL_call rfl cb77 (Put_ct _ 1 1 [x.m.addr] (by decide)) rfl .nil sb ?_
       rintro _ _ _ ⟨A3, k3, rfl, rfl, rfl⟩
       simp only [List.cons_append, List.nil_append]
       refine GL_shift (.cons .here .nil) own_toRow ?_
       refine GL_v rfl (rv_as (v := .slice _ _ _) vw) ?_
       refine GL_nil ?_
       refine GC_ret ?_
       exact fin1 (.inr rfl) rfl rfl .nil sb ⟨A3, _, k3, rfl, rfl, rfl⟩
      ·
       have c5 : ¬ (x.m.code.toNat = 24 ∧ dir = 0) := by simp at h5; omega
       rw [if_neg c5] at hl
       refine GC_seq ?_
       refine GC_region ?_
       refine GL_v rfl (rv_mv (v := .int .u8 _) vw) ?_
       refine GL_v rfl (rv_eql vw vw) ?_
       refine GL_v rfl (rv_as (v := .bool _) vw) ?_
       refine GL_nil ?_
       refine GC_cond rfl (fun h6 => ?_) (fun h6 => ?_)
       ·
        have c6 : x.m.code.toNat = 24 := by simp at h6; omega
        rw [if_pos c6] at hl
        subst hl
        refine GC_seq ?_
        refine GC_region ?_
        refine GL_v rfl (rv_mv (v := .int .i64 _) vw) ?_
        refine GL_v rfl (rv_mul (r := ((2 * x.w.n : Nat) : Int)) vw vw (fun _ => by rw [IntWalk.i64_in _ (by omega)]; omega)) ?_
        refine GL_v rfl (rv_add (r := ((2 + 2 * x.w.n : Nat) : Int)) vw vw (fun _ => by rw [IntWalk.i64_in _ (by omega)]; omega)) ?_
        refine GL_v rfl (rv_cnv (r := ((UInt16.ofNat (2 + 2 * x.w.n)).toNat : Int)) Tryz.underlying3 Tryz.underlying24 vw (fun _ => wrap16 _)) ?_
        refine GL_v rfl (rv_mv (v := .int .i64 _) vw) ?_
        refine GL_v rfl (rv_cnv (r := ((UInt16.ofNat x.w.n).toNat : Int)) Tryz.underlying3 Tryz.underlying24 vw (fun _ => wrap16 _)) ?_
        refine GL_bs (l := wordsV [UInt16.ofNat (2 + 2 * x.w.n), UInt16.ofNat x.w.n]) rfl el25 z24 rfl rfl rfl (fun b114 => ?_)
        refine GL_shift (.cons .here .nil) (blk_own (n := 2) (sz := 1) rfl (by decide)) ?_
        refine GL_shift (.cons .here .nil) own_toRow ?_
        refine GL_call rfl cb77 (Put_ct _ 2 2 [UInt16.ofNat (2 + 2 * x.w.n), UInt16.ofNat x.w.n] (by decide)) rfl .nil sb ?_
        rintro _ _ _ ⟨A3, k3, rfl, rfl, rfl⟩
        simp only [List.cons_append, List.nil_append]
        refine GL_v rfl (rv_mv (v := .slice _ _ _) vw) ?_
        refine GL_app (m := 2 * x.w.n) rfl el22 rfl rfl pW (by rw [bytesV_length, putW_length, hw, Nat.mul_one]) (bytesV_one _) (by omega) (by simp [maxLen]; omega) (fun A5 k5 => ?_)
        rw [← bytesV_append]
        refine GL_shift (.cons .here .nil) own_toRow ?_
        refine GL_v rfl (rv_as (v := .slice _ _ _) vw) ?_
        refine GL_nil ?_
        refine GC_ret ?_
        exact fin1 (.inr rfl) rfl rfl .nil sb ⟨A5, _, k5, rfl, rfl, rfl⟩
       ·
        have c6 : ¬ x.m.code.toNat = 24 := by simp at h6; omega
        rw [if_neg c6] at hl
        subst hl
        refine GC_skip ?_
        refine GC_seq ?_
        refine GC_region ?_
        refine GL_v rfl (rv_fa fa30_2 vw) ?_
        refine GL_v rfl (rv_ld Tryz.underlying24 rfl vw) ?_
        refine GL_v rfl (rv_fa fa30_3 vw) ?_
        refine GL_v rfl (rv_ld Tryz.underlying24 rfl vw) ?_
        refine GL_bs (l := wordsV [x.m.addr, x.m.count]) rfl el25 z24 rfl rfl rfl (fun b122 => ?_)
        refine GL_shift (.cons .here .nil) (blk_own (n := 2) (sz := 1) rfl (by decide)) ?_
        refine GL_shift (.cons .here .nil) own_toRow ?_
        refine GL_call rfl cb77 (Put_ct _ 2 2 [x.m.addr, x.m.count] (by decide)) rfl .nil sb ?_
        rintro _ _ _ ⟨A3, k3, rfl, rfl, rfl⟩
        simp only [List.cons_append, List.nil_append]
        refine GL_shift (.cons .here .nil) own_toRow ?_
        refine GL_v rfl (rv_as (v := .slice _ _ _) vw) ?_
        refine GL_nil ?_
        refine GC_ret ?_
        exact fin1 (.inr rfl) rfl rfl .nil sb ⟨A3, _, k3, rfl, rfl, rfl⟩
theorem W09_ct (dir : Int) (x : MsgX) (hf : x.m.few) : Ct PG 101 [.int .i64 dir, .agg x.cells.toArray] [] [msgR x] (BytesOut (W09 dir x.m)) := by
 refine Ct_of Tryz.func101 rfl 29 rfl (Nat.le_of_ble_eq_true rfl) fun w0 M N => ?_
 refine GC_seq ?_
 refine GC_region ?_
 refine GL_boxA (l := x.cells) rfl rfl (fun b3 => ?_)
 refine GL_v rfl (rv_as (v := .slice _ _ _) vw) ?_
 refine GL_v rfl (rv_as (v := .int .i64 _) vw) ?_
 refine GL_nil ?_
 refine GC_seq ?_
 refine GC_region ?_
 refine GL_v rfl (rv_mv (v := .int .i64 _) vw) ?_
 refine GL_v rfl (rv_ldA (l := x.cells) a30 vw rfl) ?_
 refine GL_call rfl cb163 (L09_ct dir x hf) rfl .nil sb ?_
 rintro _ _ _ ⟨A, n, k, rfl, rfl, rfl⟩
 simp only [List.cons_append, List.nil_append]
 refine GL_row A fun hr => ?_
 have hn : (L09 dir x.m).length = n := by have := hr.1; simpa [bytesV] using this
 have hlen := L09_len dir x.m hf
 refine GL_v rfl (rv_as (v := .slice _ _ _) vw) ?_
 refine GL_nil ?_
 refine GC_seq ?_
 refine GC_region ?_
 refine GL_v rfl (rv_mv (v := .int .i64 _) vw) ?_
 refine GL_v rfl (rv_fa fa30_0 vw) ?_
 rw [x.cells_eq]
 refine GL_v rfl (rv_ld (v := b8 x.m.code) Tryz.underlying5 rfl vw) ?_
 refine GL_v rfl (rv_mv (v := .slice _ _ _) vw) ?_
 refine GL_call rfl cb100 (P09_ct dir x.m.code A n k (L09 dir x.m) (by omega)) rfl .nil sb ?_
 rintro _ _ _ ⟨y, rfl, hy, rfl, rfl⟩
 simp only [List.cons_append, List.nil_append]
 obtain ⟨p, e, hp⟩ : ∃ p e, P09 dir x.m.code (L09 dir x.m) = (p, e) := ⟨_, _, rfl⟩
 rw [hp] at hy ⊢
 simp only at hy ⊢
 refine GL_v rfl (rv_mv (v := .tuple [.agg y.cells.toArray, .int .i64 e].toArray) vw) ?_
 refine GL_v rfl (rv_ext vw rfl) ?_
 refine GL_v rfl (rv_ext vw rfl) ?_
 refine GL_alloc rfl z30 (fun b7 => ?_)
 refine GL_stA (l' := y.cells) rfl rfl c30 (MsgX.cells_one _) (by rfl) ?_
 rw [← x.cells_eq]
 refine GL_v rfl (rv_as (v := .int .i64 _) vw) ?_
 refine GL_nil ?_
 refine GC_seq ?_
 refine GC_seq ?_
 refine GC_region ?_
 refine GL_v rfl (rv_mv (v := .int .i64 _) vw) ?_
 refine GL_v rfl (rv_neq vw vw) ?_
 refine GL_v rfl (rv_mv (v := .bool _) vw) ?_
 refine GL_g rfl rfl gvf (rv_ldA (l := y.cells) a30 vw rfl) ?_
 refine GL_g rfl rfl gvf (rv_ldA (l := x.cells) a30 vw rfl) ?_
 refine GL_callG rfl rfl gvf cb125 (fun _ => SameP_ct y x) (fun q => by show [gd _ _, gd _ _] = _; rw [vwg q, vwg q]) (fun _ => sb) ?_
 refine GL_g rfl rfl gvf (rv_not vwg) ?_
 refine GL_v rfl (rv_or vw vwg) ?_
 refine GL_nil ?_
 refine GC_cond rfl (fun h0 => ?_) (fun h0 => ?_)
 ·
  have hh : ¬ (e = 0 ∧ p = x.m) := by
   rintro ⟨rfl, rfl⟩
   rw [hy] at h0; simp at h0
  have he : W09 dir x.m = ([], 1) := by unfold W09 writeBy; rw [hp]; exact if_neg hh
  rw [he]
  refine GC_seq ?_
  refine GC_region ?_
  refine GL_v rfl (rv_as (v := .slice _ _ _) vw) ?_
  refine GL_v rfl (rv_as (v := .int .i64 _) vw) ?_
  refine GL_nil ?_
  refine GC_shift .nil (nil_row (sz := 1)) ?_
  refine GC_ret ?_
  exact fin2 (T' := [row 1 none 0 0 []]) (.inr rfl) rfl rfl rfl .nil sb ⟨none, 0, 0, rfl, rfl, rfl⟩
 ·
  have hh : e = 0 ∧ p = x.m := by
   rw [hy] at h0; simpa using h0
  have he : W09 dir x.m = (L09 dir x.m, 0) := by unfold W09 writeBy; rw [hp]; exact if_pos hh
  rw [he]
  refine GC_skip ?_
  refine GC_seq ?_
  refine GC_region ?_
  refine GL_v rfl (rv_mv (v := .slice _ _ _) vw) ?_
  refine GL_v rfl (rv_as (v := .slice _ _ _) vw) ?_
  refine GL_v rfl (rv_as (v := .int .i64 _) vw) ?_
  refine GL_nil ?_
  refine GC_ret ?_
  exact fin2 (.inr rfl) rfl rfl rfl .nil sb ⟨A, n, k, rfl, rfl, rfl⟩
end Go.Bus
