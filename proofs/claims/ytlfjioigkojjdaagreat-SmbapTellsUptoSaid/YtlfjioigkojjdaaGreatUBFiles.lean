/- Part of the proof: Files. No condition. -/
import Derived.Test.YtlfjioigkojjdaaGreatUBMei
set_option linter.unusedVariables false
set_option linter.unusedSimpArgs false
set_option maxRecDepth 100000
set_option maxHeartbeats 4000000
namespace Go.Bus
open Go Go.Proofs
theorem head_ct (B n k : Nat) (A : Option Addr) (r : List UInt8) (s : Bool) (e : Int) (hn : n ≤ 35184372088832) : Ct PG 209 [.pointer (some ⟨B, 0, none⟩)] [cub B A n k s e] [row 1 A n k (bytesV r)]
 (fun v S' T' => ∃ x r1 s1 e1 A1 n1 k1, headS ⟨r, s, e⟩ = (x, ⟨r1, s1, e1⟩) ∧ x.words = [] ∧ n1 ≤ 35184372088832 ∧ v = .agg (recCells x {}).toArray ∧ S' = [cub B A1 n1 k1 s1 e1] ∧ T' = [row 1 A1 n1 k1 (bytesV r1)]) := by
 refine Ct_of Tryz.func209 rfl 34 rfl (Nat.le_of_ble_eq_true rfl) fun w0 M N => ?_
 refine GC_seq ?_
 refine GC_region ?_
 refine GL_alloc rfl z76 (fun b2 => ?_)
 refine GL_nil ?_
 refine GC_seq ?_
 refine GC_region ?_
 refine GL_v rfl (rv_mv (v := .pointer _) vw) ?_
 refine GL_v rfl (rv_mv (v := .pointer _) vw) ?_
 refine GL_call rfl cb74 (Byte_k B n k A r s e hn) rfl pB sR ?_
 rintro _ _ _ ⟨a, r1, s1, e1, A1, n1, k1, hc1, hn1, rfl, rfl, rfl⟩
 simp only [List.cons_append, List.nil_append]
 refine GL_v rfl (rv_eql vw vw) ?_
 refine GL_call rfl cb133 (Need_k B n1 k1 A1 r1 s1 e1 (decide ((a.toNat : Int) = 6)) 9) rfl pB .nil ?_
 rintro _ _ _ ⟨e2, hc2, rfl, rfl, rfl⟩
 simp only [List.cons_append, List.nil_append]
 refine GL_nil ?_
 refine GC_seq ?_
 refine GC_region ?_
 refine GL_alloc rfl z76 (fun b3 => ?_)
 refine GL_nil ?_
 refine GC_seq ?_
 refine GC_region ?_
 refine GL_v rfl (rv_mv (v := .pointer _) vw) ?_
 refine GL_call rfl cb73 (Word_k B n1 k1 A1 r1 s1 e2 hn1) rfl pB sR ?_
 rintro _ _ _ ⟨fi, r3, s3, e3, A3, n3, k3, hc3, hn3, rfl, rfl, rfl⟩
 simp only [List.cons_append, List.nil_append]
 refine GL_v rfl (rv_fa fa76_0 vw) ?_
 refine GL_st (u := w16 fi) rfl rfl c24 rfl ?_
 refine GL_nil ?_
 refine GC_seq ?_
 refine GC_region ?_
 refine GL_v rfl (rv_mv (v := .pointer _) vw) ?_
 refine GL_v rfl (rv_fa fa76_0 vw) ?_
 refine GL_v rfl (rv_ld Tryz.underlying24 rfl vw) ?_
 refine GL_v rfl (rv_neq vw vw) ?_
 refine GL_call rfl cb133 (Need_k B n3 k3 A3 r3 s3 e3 (!decide ((fi.toNat : Int) = 0)) 6) rfl pB .nil ?_
 rintro _ _ _ ⟨e4, hc4, rfl, rfl, rfl⟩
 simp only [List.cons_append, List.nil_append]
 refine GL_nil ?_
 refine GC_seq ?_
 refine GC_region ?_
 refine GL_v rfl (rv_mv (v := .pointer _) vw) ?_
 refine GL_call rfl cb73 (Word_k B n3 k3 A3 r3 s3 e4 hn3) rfl pB sR ?_
 rintro _ _ _ ⟨rc, r5, s5, e5, A5, n5, k5, hc5, hn5, rfl, rfl, rfl⟩
 simp only [List.cons_append, List.nil_append]
 refine GL_v rfl (rv_fa fa76_1 vw) ?_
 refine GL_st (u := w16 rc) rfl rfl c24 rfl ?_
 refine GL_nil ?_
 refine GC_seq ?_
 refine GC_region ?_
 refine GL_v rfl (rv_mv (v := .pointer _) vw) ?_
 refine GL_v rfl (rv_fa fa76_1 vw) ?_
 refine GL_v rfl (rv_ld Tryz.underlying24 rfl vw) ?_
 refine GL_v rfl (rv_leq vw vw) ?_
 refine GL_call rfl cb133 (Need_k B n5 k5 A5 r5 s5 e5 (decide ((rc.toNat : Int) ≤ 9999)) 7) rfl pB .nil ?_
 rintro _ _ _ ⟨e6, hc6, rfl, rfl, rfl⟩
 simp only [List.cons_append, List.nil_append]
 refine GL_nil ?_
 refine GC_seq ?_
 refine GC_region ?_
 refine GL_v rfl (rv_mv (v := .pointer _) vw) ?_
 refine GL_call rfl cb73 (Word_k B n5 k5 A5 r5 s5 e6 hn5) rfl pB sR ?_
 rintro _ _ _ ⟨co, r7, s7, e7, A7, n7, k7, hc7, hn7, rfl, rfl, rfl⟩
 simp only [List.cons_append, List.nil_append]
 refine GL_v rfl (rv_fa fa76_2 vw) ?_
 refine GL_st (u := w16 co) rfl rfl c24 rfl ?_
 refine GL_nil ?_
 refine GC_seq ?_
 refine GC_region ?_
 refine GL_v rfl (rv_mv (v := .pointer _) vw) ?_
 refine GL_v rfl (rv_fa fa76_2 vw) ?_
 refine GL_v rfl (rv_ld Tryz.underlying24 rfl vw) ?_
 refine GL_v rfl (rv_neq vw vw) ?_
 refine GL_call rfl cb133 (Need_k B n7 k7 A7 r7 s7 e7 (!decide ((co.toNat : Int) = 0)) 5) rfl pB .nil ?_
 rintro _ _ _ ⟨e8, hc8, rfl, rfl, rfl⟩
 simp only [List.cons_append, List.nil_append]
 refine GL_nil ?_
 refine GC_seq ?_
 refine GC_region ?_
 refine GL_v rfl (rv_ldA a76 vw rfl) ?_
 refine GL_stA (l' := recCells ⟨fi, rc, co, []⟩ {}) rfl rfl c76 (recCells_one _ _) (by rfl) ?_
 refine GL_nil ?_
 refine GC_ret ?_
 exact finS (.inr rfl) rfl rfl inferInstance a76 rfl (pB (B := B)) sb ⟨⟨fi, rc, co, []⟩, r7, s7, e8, A7, n7, k7, by simp only [headS, hc1, hc2, hc3, hc4, hc5, hc6, hc7, hc8], rfl, hn7, rfl, rfl, rfl⟩
def OneOut (B Bs : Nat) (p : RecD × Cu × Int) (v : Value) (S' T' : List Res) : Prop := ∃ x h r1 s1 e1 A1 n1 k1 sum1, p = (x, ⟨r1, s1, e1⟩, sum1) ∧ n1 ≤ 35184372088832 ∧ v = .agg (recCells x h).toArray ∧ S' = [cub B A1 n1 k1 s1 e1, blk Bs [.int .i64 sum1] 3] ∧ T' = [row 1 A1 n1 k1 (bytesV r1), row 1 h.A h.n h.k (wordsV x.words)]
theorem asked_ct (B Bs n k : Nat) (A : Option Addr) (r : List UInt8) (s : Bool) (e : Int) (sum : Int) (hsum : 0 ≤ sum ∧ sum ≤ 1000000) (hn : n ≤ 35184372088832) : Ct PG 208 [.pointer (some ⟨B, 0, none⟩), .pointer (some ⟨Bs, 0, none⟩)] [cub B A n k s e, blk Bs [.int .i64 sum] 3] [row 1 A n k (bytesV r)] (OneOut B Bs (askedF sum ⟨r, s, e⟩)) := by
 refine Ct_of Tryz.func208 rfl 19 rfl (Nat.le_of_ble_eq_true rfl) fun w0 M N => ?_
 refine GC_seq ?_
 refine GC_region ?_
 refine GL_alloc rfl z76 (fun b3 => ?_)
 refine GL_nil ?_
 refine GC_seq ?_
 refine GC_region ?_
 refine GL_v rfl (rv_mv (v := .pointer _) vw) ?_
 refine GL_call rfl cb209 (head_ct B n k A r s e hn) rfl (pB (B := B)) sR ?_
 rintro _ _ _ ⟨x, r1, s1, e1, A1, n1, k1, hh, hxw, hn1, rfl, rfl, rfl⟩
 simp only [List.cons_append, List.nil_append]
 have hx := x.count.toNat_lt
 refine GL_alloc rfl z76 (fun b4 => ?_)
 refine GL_stA (l' := recCells x {}) rfl rfl c76 (recCells_one _ _) (by rfl) ?_
 simp only [recCells]
 refine GL_nil ?_
 refine GC_seq ?_
 refine GC_region ?_
 refine GL_v rfl (rv_ld Tryz.underlying3 rfl vw) ?_
 refine GL_v rfl (rv_fa fa76_2 vw) ?_
 refine GL_v rfl (rv_ld Tryz.underlying24 rfl vw) ?_
 refine GL_v rfl (rv_cnv (r := (x.count.toNat : Int)) Tryz.underlying24 Tryz.underlying3 vw (fun _ => IntWalk.i64_in _ (by omega))) ?_
 refine GL_v rfl (rv_mul (r := 2 * (x.count.toNat : Int)) vw vw (fun _ => IntWalk.i64_in _ (by omega))) ?_
 refine GL_v rfl (rv_add (r := 2 + 2 * (x.count.toNat : Int)) vw vw (fun _ => IntWalk.i64_in _ (by omega))) ?_
 refine GL_v rfl (rv_add (r := sum + (2 + 2 * (x.count.toNat : Int))) vw vw (fun _ => IntWalk.i64_in _ (by omega))) ?_
 refine GL_st (u := .int .i64 _) rfl rfl c3 rfl ?_
 refine GL_nil ?_
 refine GC_seq ?_
 refine GC_region ?_
 refine GL_v rfl (rv_mv (v := .pointer _) vw) ?_
 refine GL_v rfl (rv_ld Tryz.underlying3 rfl vw) ?_
 refine GL_v rfl (rv_leq vw vw) ?_
 refine GL_call rfl cb133 (Need_k B n1 k1 A1 r1 s1 e1 (decide (sum + (2 + 2 * (x.count.toNat : Int)) ≤ 245)) 5) rfl pB .nil ?_
 rintro _ _ _ ⟨e1, hc1, rfl, rfl, rfl⟩
 simp only [List.cons_append, List.nil_append]
 refine GL_nil ?_
 refine GC_seq ?_
 refine GC_region ?_
 refine GL_v rfl (rv_ldA a76 vw rfl) ?_
 refine GL_stA (l' := recCells x {}) rfl rfl c76 (recCells_one _ _) (by rfl) ?_
 refine GL_shift .nil (nil_row (sz := 1)) ?_
 refine GL_nil ?_
 refine GC_ret ?_
 exact finS (T' := [row 1 A1 n1 k1 (bytesV r1), row 1 none 0 0 []]) (.inr rfl) rfl rfl inferInstance a76 rfl (pB2 (B := B) (B2 := Bs)) sb ⟨x, {}, r1, s1, e1, A1, n1, k1, _, by simp only [askedF, hh, hc1], hn1, rfl, rfl, by rw [hxw]; rfl⟩
theorem told_f_ct (B Bs n k : Nat) (A : Option Addr) (r : List UInt8) (s : Bool) (e : Int) (sum : Int) (hn : n ≤ 35184372088832) : Ct PG 212 [.pointer (some ⟨B, 0, none⟩)] [cub B A n k s e, blk Bs [.int .i64 sum] 3] [row 1 A n k (bytesV r)] (OneOut B Bs (toldF sum ⟨r, s, e⟩)) := by
 refine Ct_of Tryz.func212 rfl 33 rfl (Nat.le_of_ble_eq_true rfl) fun w0 M N => ?_
 refine GC_seq ?_
 refine GC_region ?_
 refine GL_alloc rfl z76 (fun b2 => ?_)
 refine GL_nil ?_
 refine GC_seq ?_
 refine GC_region ?_
 refine GL_v rfl (rv_mv (v := .pointer _) vw) ?_
 refine GL_call rfl cb74 (Byte_k B n k A r s e hn) rfl pB sR ?_
 rintro _ _ _ ⟨q, r1, s1, e1, A1, n1, k1, hc1, hn1, rfl, rfl, rfl⟩
 simp only [List.cons_append, List.nil_append]
 have hq := q.toNat_lt
 refine GL_v rfl (rv_cnv (r := (q.toNat : Int)) Tryz.underlying5 Tryz.underlying3 vw (fun _ => IntWalk.i64_in _ (by omega))) ?_
 refine GL_v rfl (rv_as (v := .int .i64 _) vw) ?_
 refine GL_nil ?_
 refine GC_seq ?_
 refine GC_region ?_
 refine GL_v rfl (rv_mv (v := .pointer _) vw) ?_
 refine GL_v rfl (rv_mv (v := .int .i64 _) vw) ?_
 refine GL_v rfl (rv_rem (r := (q.toNat : Int) % 2) vw vw (fun _ => by decide) (fun _ => Int.tmod_eq_emod_of_nonneg (by omega))) ?_
 refine GL_v rfl (rv_eql vw vw) ?_
 refine GL_v rfl (rv_mv (v := .bool _) vw) ?_
 refine GL_g rfl rfl gvt (rv_mv (v := .int .i64 _) vw) ?_
 refine GL_g rfl rfl gvt (rv_geq vwg vw) ?_
 refine GL_v rfl (rv_and vw vwg) ?_
 refine GL_v rfl (rv_mv (v := .bool _) vw) ?_
 refine GL_g rfl rfl gvt (rv_mv (v := .int .i64 _) vw) ?_
 refine GL_g rfl rfl gvt (rv_mv (v := .pointer _) vw) ?_
 refine GL_callG2 rfl rfl gvt cb76 (fun _ => Left_k B n1 k1 A1 r1 s1 e1) (fun q => congrArg (· :: []) (vwg q)) (pB (B := B)) (fun _ => sR) ?_
 simp only [List.cons_append, List.nil_append]
 refine GL_g rfl rfl gvt (rv_leq vwg vwg) ?_
 refine GL_v rfl (rv_and vw vwg) ?_
 refine GL_call rfl cb133 (Need_k B n1 k1 A1 r1 s1 e1 (decide ((q.toNat : Int) % 2 = 1) && decide ((3 : Int) ≤ q.toNat) && decide ((q.toNat : Int) ≤ r1.length)) 5) rfl pB .nil ?_
 rintro _ _ _ ⟨e2, hc2, rfl, rfl, rfl⟩
 simp only [List.cons_append, List.nil_append]
 refine GL_nil ?_
 refine GC_seq ?_
 refine GC_region ?_
 refine GL_v rfl (rv_mv (v := .pointer _) vw) ?_
 refine GL_v rfl (rv_mv (v := .pointer _) vw) ?_
 refine GL_call rfl cb74 (Byte_k B n1 k1 A1 r1 s1 e2 hn1) rfl pB sR ?_
 rintro _ _ _ ⟨kd, r3, s3, e3, A3, n3, k3, hc3, hn3, rfl, rfl, rfl⟩
 simp only [List.cons_append, List.nil_append]
 refine GL_v rfl (rv_eql vw vw) ?_
 refine GL_call rfl cb133 (Need_k B n3 k3 A3 r3 s3 e3 (decide ((kd.toNat : Int) = 6)) 9) rfl pB .nil ?_
 rintro _ _ _ ⟨e4, hc4, rfl, rfl, rfl⟩
 simp only [List.cons_append, List.nil_append]
 refine GL_nil ?_
 refine GC_seq ?_
 refine GC_region ?_
 refine GL_v rfl (rv_mv (v := .pointer _) vw) ?_
 refine GL_v rfl (rv_mv (v := .int .i64 _) vw) ?_
 refine GL_v rfl (rv_sub (r := (q.toNat : Int) - 1) vw vw (fun _ => IntWalk.i64_in _ (by omega))) ?_
 refine GL_v rfl (rv_quo (r := ((q.toNat : Int) - 1).tdiv 2) vw vw (fun _ => by decide) (fun _ => IntWalk.i64_in _ (by
  rcases Nat.eq_zero_or_pos q.toNat with h | h
  · rw [h]; decide
  · rw [Int.tdiv_eq_ediv_of_nonneg (by omega)]; omega))) ?_
 refine GL_call rfl cb132 (Words_k B n3 k3 A3 r3 s3 e4 (((q.toNat : Int) - 1).tdiv 2) hn3) rfl pB sR ?_
 rintro _ _ _ ⟨w, r5, s5, e5, A5, n5, k5, Ax5, nx5, kx5, hc5, hn5, rfl, rfl, rfl⟩
 simp only [List.cons_append, List.nil_append]
 refine GL_v rfl (rv_bld (z' := recCells { words := w } ⟨Ax5, nx5, kx5⟩) z76 l76 (fun _ => rfl)) ?_
 refine GL_stA (l' := recCells { words := w } ⟨Ax5, nx5, kx5⟩) rfl rfl c76 (recCells_one _ _) (by rfl) ?_
 refine GL_nil ?_
 refine GC_ret ?_
 exact finS (.inr rfl) rfl rfl inferInstance a76 rfl (pB2 (B := B) (B2 := Bs)) sb ⟨{ words := w }, ⟨Ax5, nx5, kx5⟩, r5, s5, e5, A5, n5, k5, sum, by simp only [toldF, hc1, hc2, hc3, hc4, hc5], hn5, rfl, rfl, rfl⟩
theorem written_ct (B Bs n k : Nat) (A : Option Addr) (r : List UInt8) (s : Bool) (e : Int) (sum : Int) (hn : n ≤ 35184372088832) : Ct PG 214 [.pointer (some ⟨B, 0, none⟩)] [cub B A n k s e, blk Bs [.int .i64 sum] 3] [row 1 A n k (bytesV r)] (OneOut B Bs (writtenF sum ⟨r, s, e⟩)) := by
 refine Ct_of Tryz.func214 rfl 22 rfl (Nat.le_of_ble_eq_true rfl) fun w0 M N => ?_
 refine GC_seq ?_
 refine GC_region ?_
 refine GL_alloc rfl z76 (fun b2 => ?_)
 refine GL_nil ?_
 refine GC_seq ?_
 refine GC_region ?_
 refine GL_v rfl (rv_mv (v := .pointer _) vw) ?_
 refine GL_call rfl cb209 (head_ct B n k A r s e hn) rfl (pB (B := B)) sR ?_
 rintro _ _ _ ⟨x, r1, s1, e1, A1, n1, k1, hh, hxw, hn1, rfl, rfl, rfl⟩
 simp only [List.cons_append, List.nil_append]
 have hx := x.count.toNat_lt
 refine GL_alloc rfl z76 (fun b3 => ?_)
 refine GL_stA (l' := recCells x {}) rfl rfl c76 (recCells_one _ _) (by rfl) ?_
 simp only [recCells]
 refine GL_nil ?_
 refine GC_seq ?_
 refine GC_draw 9 ([blk b3 [w16 x.file, w16 x.record, w16 x.count, .slice none 0 0] 76]) mixed ?_
 refine GA_v (i := 0) rfl rfl rfl (by kernel_rfl) (rv_mv (v := .pointer _) vw) ?_
 refine GA_v (i := 1) rfl rfl rfl (by kernel_rfl) (rv_fa fa76_2 vw) ?_
 refine GA_v (i := 2) rfl rfl rfl (by kernel_rfl) (rv_ld Tryz.underlying24 rfl vw) ?_
 refine GA_v (i := 3) rfl rfl rfl (by kernel_rfl) (rv_cnv (r := (x.count.toNat : Int)) Tryz.underlying24 Tryz.underlying3 vw (fun _ => IntWalk.i64_in _ (by omega))) ?_
 refine GA_v (i := 4) rfl rfl rfl (by kernel_rfl) (rv_mul (r := 2 * (x.count.toNat : Int)) vw vw (fun _ => IntWalk.i64_in _ (by omega))) ?_
 refine GA_v (i := 5) rfl rfl rfl (by kernel_rfl) (rv_mv (v := .pointer _) vw) ?_
 refine GA_one 6 rfl rfl (by kernel_rfl) ?_
 refine GL_callD rfl cb76 (Left_k B n1 k1 A1 r1 s1 e1) rfl pB sR ?_
 refine GL_nil ⟨inferInstance, ?_⟩
 refine GA_v (i := 7) rfl rfl rfl (by kernel_rfl) (rv_leq vw vw) ?_
 refine GA_one 8 rfl rfl (by kernel_rfl) ?_
 refine GL_call rfl cb133 (Need_k B n1 k1 A1 r1 s1 e1 (decide (2 * (x.count.toNat : Int) ≤ r1.length)) 5) rfl pB .nil ?_
 rintro _ _ _ ⟨e2, hc2, rfl, rfl, rfl⟩
 simp only [List.cons_append, List.nil_append]
 refine GL_nil ⟨inferInstance, ?_⟩
 refine GA_nil (by kernel_rfl) ?_
 refine GC_seq ?_
 refine GC_region ?_
 refine GL_v rfl (rv_mv (v := .pointer _) vw) ?_
 refine GL_v rfl (rv_fa fa76_2 vw) ?_
 refine GL_v rfl (rv_ld Tryz.underlying24 rfl vw) ?_
 refine GL_v rfl (rv_cnv (r := (x.count.toNat : Int)) Tryz.underlying24 Tryz.underlying3 vw (fun _ => IntWalk.i64_in _ (by omega))) ?_
 refine GL_call rfl cb132 (Words_k B n1 k1 A1 r1 s1 e2 x.count.toNat hn1) rfl pB sR ?_
 rintro _ _ _ ⟨w, r3, s3, e3, A3, n3, k3, Ax3, nx3, kx3, hc3, hn3, rfl, rfl, rfl⟩
 simp only [List.cons_append, List.nil_append]
 refine GL_v rfl (rv_fa fa76_3 vw) ?_
 refine GL_st (u := .slice Ax3 nx3 kx3) rfl rfl c25 rfl ?_
 refine GL_nil ?_
 refine GC_seq ?_
 refine GC_region ?_
 refine GL_v rfl (rv_ldA a76 vw rfl) ?_
 refine GL_stA (l' := recCells { x with words := w } ⟨Ax3, nx3, kx3⟩) rfl rfl c76 (recCells_one _ _) (by rfl) ?_
 refine GL_nil ?_
 refine GC_ret ?_
 exact finS (.inr rfl) rfl rfl inferInstance a76 rfl (pB2 (B := B) (B2 := Bs)) sb ⟨{ x with words := w }, ⟨Ax3, nx3, kx3⟩, r3, s3, e3, A3, n3, k3, sum, by simp only [writtenF, hh, hc2, hc3], hn3, rfl, rfl, rfl⟩
theorem may20_ct (n : Int) (hn : 0 ≤ n) : CtD PG 210 [.int .i64 n] [] [] (.bool (decide (7 ≤ n) && decide (n ≤ 245) && decide (n % 7 = 0))) [] [] := by
 refine Ct_of Tryz.func210 rfl 14 rfl (Nat.le_of_ble_eq_true rfl) fun w0 M N => ?_
 refine GC_seq ?_
 refine GC_region ?_
 refine GL_v rfl (rv_as (v := .bool _) vw) ?_
 refine GL_nil ?_
 refine GC_seq ?_
 refine GC_region ?_
 refine GL_v rfl (rv_mv (v := .int .i64 _) vw) ?_
 refine GL_v rfl (rv_geq vw vw) ?_
 refine GL_v rfl (rv_mv (v := .bool _) vw) ?_
 refine GL_g rfl rfl gvt (rv_mv (v := .int .i64 _) vw) ?_
 refine GL_g rfl rfl gvt (rv_leq vwg vw) ?_
 refine GL_v rfl (rv_and vw vwg) ?_
 refine GL_v rfl (rv_mv (v := .bool _) vw) ?_
 refine GL_g rfl rfl gvt (rv_mv (v := .int .i64 _) vw) ?_
 refine GL_g rfl rfl gvt (rv_rem (r := n % 7) vwg vw (fun _ => by decide) (fun _ => Int.tmod_eq_emod_of_nonneg hn)) ?_
 refine GL_g rfl rfl gvt (rv_eql vwg vw) ?_
 refine GL_v rfl (rv_and vw vwg) ?_
 refine GL_v rfl (rv_as (v := .bool _) vw) ?_
 refine GL_nil ?_
 refine GC_ret ?_
 exact fin1 (.inr rfl) rfl rfl .nil .nil ⟨rfl, rfl, rfl⟩
theorem may20r_ct (n : Int) (hn : 0 ≤ n) : CtD PG 211 [.int .i64 n] [] [] (.bool (decide (4 ≤ n) && decide (n ≤ 245))) [] [] := by
 refine Ct_of Tryz.func211 rfl 9 rfl (Nat.le_of_ble_eq_true rfl) fun w0 M N => ?_
 refine GC_seq ?_
 refine GC_region ?_
 refine GL_v rfl (rv_as (v := .bool _) vw) ?_
 refine GL_nil ?_
 refine GC_seq ?_
 refine GC_region ?_
 refine GL_v rfl (rv_mv (v := .int .i64 _) vw) ?_
 refine GL_v rfl (rv_geq vw vw) ?_
 refine GL_v rfl (rv_mv (v := .bool _) vw) ?_
 refine GL_g rfl rfl gvt (rv_mv (v := .int .i64 _) vw) ?_
 refine GL_g rfl rfl gvt (rv_leq vwg vw) ?_
 refine GL_v rfl (rv_and vw vwg) ?_
 refine GL_v rfl (rv_as (v := .bool _) vw) ?_
 refine GL_nil ?_
 refine GC_ret ?_
 exact fin1 (.inr rfl) rfl rfl .nil .nil ⟨rfl, rfl, rfl⟩
theorem may21_ct (n : Int) (hn : 0 ≤ n) : CtD PG 213 [.int .i64 n] [] [] (.bool (decide (9 ≤ n) && decide (n ≤ 251))) [] [] := by
 refine Ct_of Tryz.func213 rfl 9 rfl (Nat.le_of_ble_eq_true rfl) fun w0 M N => ?_
 refine GC_seq ?_
 refine GC_region ?_
 refine GL_v rfl (rv_as (v := .bool _) vw) ?_
 refine GL_nil ?_
 refine GC_seq ?_
 refine GC_region ?_
 refine GL_v rfl (rv_mv (v := .int .i64 _) vw) ?_
 refine GL_v rfl (rv_geq vw vw) ?_
 refine GL_v rfl (rv_mv (v := .bool _) vw) ?_
 refine GL_g rfl rfl gvt (rv_mv (v := .int .i64 _) vw) ?_
 refine GL_g rfl rfl gvt (rv_leq vwg vw) ?_
 refine GL_v rfl (rv_and vw vwg) ?_
 refine GL_v rfl (rv_as (v := .bool _) vw) ?_
 refine GL_nil ?_
 refine GC_ret ?_
 exact fin1 (.inr rfl) rfl rfl .nil .nil ⟨rfl, rfl, rfl⟩
def OneV (one : Int → Cu → RecD × Cu × Int) (Bs : Nat) (fv : Value) : Prop := ∃ f caps, fv = .func (.func f) [].toArray caps.toArray ∧ Cb PG f ∧ ∀ B n k A r s e sum, 0 ≤ sum ∧ sum ≤ 1000000 → n ≤ 35184372088832 → Ct PG f (.pointer (some ⟨B, 0, none⟩) :: caps) [cub B A n k s e, blk Bs [.int .i64 sum] 3] [row 1 A n k (bytesV r)] (OneOut B Bs (one sum ⟨r, s, e⟩))
def MayV (may : Int → Bool) (fv : Value) : Prop := ∃ f, fv = .func (.func f) [].toArray [].toArray ∧ Cb PG f ∧ ∀ n, 0 ≤ n → CtD PG f [.int .i64 n] [] [] (.bool (may n)) [] []
def RulesOut (p : Option ((Int → Bool) × (Int → Cu → RecD × Cu × Int))) (v : Value) (S' T' : List Res) : Prop :=
 T' = [] ∧ ∃ fm fo Bs b, v = .tuple #[.agg [fm, fo].toArray, .bool b] ∧ fm.oneCell' = true ∧ fo.oneCell' = true ∧ S' = [blk Bs [.int .i64 0] 3] ∧ (b = false → p = none) ∧ (b = true → ∃ may one, p = some (may, one) ∧ MayV may fm ∧ OneV one Bs fo)
theorem rules_ct (dir : Int) (code : UInt8) : Ct PG 167 [.int .i64 dir, b8 code] [] [] (RulesOut (rulesS dir code)) := by
 refine Ct_of Tryz.func167 rfl 27 rfl (Nat.le_of_ble_eq_true rfl) fun w0 M N => ?_
 refine GC_seq ?_
 refine GC_region ?_
 refine GL_alloc rfl z160 (fun b4 => ?_)
 refine GL_v rfl (rv_as (v := .bool _) vw) ?_
 refine GL_nil ?_
 refine GC_seq ?_
 refine GC_region ?_
 refine GL_alloc rfl z3 (fun b6 => ?_)
 refine GL_st (u := .int .i64 _) rfl rfl c3 rfl ?_
 refine GL_nil ?_
 refine GC_seq ?_
 refine GC_region ?_
 refine GL_v rfl (rv_mfE (la := []) (lb := [.pointer (some ⟨b6, 0, none⟩)]) rfl rfl) ?_
 refine GL_v rfl (rv_as (v := .func _ _ _) vw) ?_
 refine GL_nil ?_
 refine GC_seq ?_
 refine GC_block ?_
 refine GC_seq ?_
 refine GC_region ?_
 refine GL_v rfl (rv_mv (v := b8 code) vw) ?_
 refine GL_v rfl (rv_eql vw vw) ?_
 refine GL_v rfl (rv_mv (v := .bool _) vw) ?_
 refine GL_g rfl rfl gvt (rv_mv (v := .int .i64 _) vw) ?_
 refine GL_g rfl rfl gvt (rv_eql vwg vw) ?_
 refine GL_v rfl (rv_and vw vwg) ?_
 refine GL_v rfl (rv_as (v := .bool _) vw) ?_
 refine GL_nil ?_
 refine GC_cond rfl (fun h0 => ?_) (fun h0 => ?_)
 ·
  have c0 : code.toNat = 20 ∧ dir = 0 := by have := h0; simp at this; omega
  refine GC_seq ?_
  refine GC_region ?_
  refine GL_v rfl (rv_mv (v := .func _ _ _) vw) ?_
  refine GL_v rfl (rv_bld (z' := [.func (.func 210) [].toArray [].toArray, .func (.func 208) [].toArray [.pointer (some ⟨b6, 0, none⟩)].toArray]) z160 l160 (fun _ => rfl)) ?_
  refine GL_stA (l' := [.func (.func 210) [].toArray [].toArray, .func (.func 208) [].toArray [.pointer (some ⟨b6, 0, none⟩)].toArray]) rfl rfl c160 (by simp [Value.oneCell']) (by rfl) ?_
  refine GL_v rfl (rv_as (v := .bool _) vw) ?_
  refine GL_nil ?_
  refine GC_ret ?_
  exact finA (.inr rfl) rfl rfl rfl inferInstance a160 rfl (pB (B := b6)) .nil ⟨rfl, _, _, b6, true, rfl, rfl, rfl, rfl, (fun h => by cases h), fun _ => ⟨_, _, by unfold rulesS; rw [if_pos c0], ⟨_, rfl, cb210, fun n hn => may20_ct n hn⟩, ⟨_, _, rfl, cb208, fun B n k A r s e sum hs hn => asked_ct B b6 n k A r s e sum hs hn⟩⟩⟩
 ·
  have c0 : ¬ (code.toNat = 20 ∧ dir = 0) := by have := h0; simp at this; omega
  refine GC_seq ?_
  refine GC_region ?_
  refine GL_v rfl (rv_mv (v := .int .u8 _) vw) ?_
  refine GL_v rfl (rv_eql vw vw) ?_
  refine GL_v rfl (rv_as (v := .bool _) vw) ?_
  refine GL_nil ?_
  refine GC_cond rfl (fun h1 => ?_) (fun h1 => ?_)
  ·
   have c1 : code.toNat = 20 := by have := h1; simp at this; omega
   refine GC_seq ?_
   refine GC_region ?_
   refine GL_v rfl (rv_bld (z' := [.func (.func 211) [].toArray [].toArray, .func (.func 212) [].toArray [].toArray]) z160 l160 (fun _ => rfl)) ?_
   refine GL_stA (l' := [.func (.func 211) [].toArray [].toArray, .func (.func 212) [].toArray [].toArray]) rfl rfl c160 (by simp [Value.oneCell']) (by rfl) ?_
   refine GL_v rfl (rv_as (v := .bool _) vw) ?_
   refine GL_nil ?_
   refine GC_ret ?_
   exact finA (.inr rfl) rfl rfl rfl inferInstance a160 rfl (pB (B := b6)) .nil ⟨rfl, _, _, b6, true, rfl, rfl, rfl, rfl, (fun h => by cases h), fun _ => ⟨_, _, by unfold rulesS; rw [if_neg c0, if_pos c1], ⟨_, rfl, cb211, fun n hn => may20r_ct n hn⟩, ⟨_, _, rfl, cb212, fun B n k A r s e sum hs hn => told_f_ct B b6 n k A r s e sum hn⟩⟩⟩
  ·
   have c1 : ¬ code.toNat = 20 := by have := h1; simp at this; omega
   refine GC_seq ?_
   refine GC_region ?_
   refine GL_v rfl (rv_mv (v := .int .u8 _) vw) ?_
   refine GL_v rfl (rv_eql vw vw) ?_
   refine GL_v rfl (rv_as (v := .bool _) vw) ?_
   refine GL_nil ?_
   refine GC_cond rfl (fun h2 => ?_) (fun h2 => ?_)
   ·
    have c2 : code.toNat = 21 := by have := h2; simp at this; omega
    refine GC_seq ?_
    refine GC_region ?_
    refine GL_v rfl (rv_bld (z' := [.func (.func 213) [].toArray [].toArray, .func (.func 214) [].toArray [].toArray]) z160 l160 (fun _ => rfl)) ?_
    refine GL_stA (l' := [.func (.func 213) [].toArray [].toArray, .func (.func 214) [].toArray [].toArray]) rfl rfl c160 (by simp [Value.oneCell']) (by rfl) ?_
    refine GL_v rfl (rv_as (v := .bool _) vw) ?_
    refine GL_nil ?_
    refine GC_ret ?_
    exact finA (.inr rfl) rfl rfl rfl inferInstance a160 rfl (pB (B := b6)) .nil ⟨rfl, _, _, b6, true, rfl, rfl, rfl, rfl, (fun h => by cases h), fun _ => ⟨_, _, by unfold rulesS; rw [if_neg c0, if_neg c1, if_pos c2], ⟨_, rfl, cb213, fun n hn => may21_ct n hn⟩, ⟨_, _, rfl, cb214, fun B n k A r s e sum hs hn => written_ct B b6 n k A r s e sum hn⟩⟩⟩
   ·
    have c2 : ¬ code.toNat = 21 := by have := h2; simp at this; omega
    refine GC_skip ?_
    refine GC_seq ?_
    refine GC_region ?_
    refine GL_v rfl (rv_bld (z' := [.nilFunc, .nilFunc]) z160 l160 (fun _ => rfl)) ?_
    refine GL_stA rfl rfl c160 (by simp [Value.oneCell']) (by rfl) ?_
    refine GL_v rfl (rv_as (v := .bool _) vw) ?_
    refine GL_nil ?_
    refine GC_ret ?_
    exact finA (.inr rfl) rfl rfl rfl inferInstance a160 rfl (pB (B := b6)) .nil ⟨rfl, .nilFunc, .nilFunc, b6, false, rfl, rfl, rfl, rfl, (fun _ => by unfold rulesS; rw [if_neg c0, if_neg c1, if_neg c2]), (fun h => by cases h)⟩
theorem within_e_ct (e : Int) : CtD PG 169 [.int .i64 e] [] [] (.int .i64 (withinS e)) [] [] := by
 refine Ct_of Tryz.func169 rfl 6 rfl (Nat.le_of_ble_eq_true rfl) fun w0 M N => ?_
 refine GC_seq ?_
 refine GC_region ?_
 refine GL_v rfl (rv_as (v := .int .i64 _) vw) ?_
 refine GL_nil ?_
 refine GC_seq ?_
 refine GC_seq ?_
 refine GC_region ?_
 refine GL_v rfl (rv_mv (v := .int .i64 _) vw) ?_
 refine GL_v rfl (rv_eql vw vw) ?_
 refine GL_nil ?_
 refine GC_cond rfl (fun h0 => ?_) (fun h0 => ?_)
 ·
  have he : e = 2 := by simpa using h0
  rw [show withinS e = 5 from if_pos he]
  refine GC_seq ?_
  refine GC_region ?_
  refine GL_v rfl (rv_as (v := .int .i64 _) vw) ?_
  refine GL_nil ?_
  refine GC_ret ?_
  exact fin1 (.inr rfl) rfl rfl .nil .nil ⟨rfl, rfl, rfl⟩
 ·
  have he : ¬ e = 2 := by simpa using h0
  rw [show withinS e = e from if_neg he]
  refine GC_skip ?_
  refine GC_seq ?_
  refine GC_region ?_
  refine GL_v rfl (rv_mv (v := .int .i64 _) vw) ?_
  refine GL_v rfl (rv_as (v := .int .i64 _) vw) ?_
  refine GL_nil ?_
  refine GC_ret ?_
  exact fin1 (.inr rfl) rfl rfl .nil .nil ⟨rfl, rfl, rfl⟩
theorem L11_ct (dir : Int) (x : MsgX) (hf : x.m.few) : Ct PG 170 [.int .i64 dir, .agg x.cells.toArray] [] [msgR x] (BytesO (L11 dir x.m)) := by
 refine Ct_of Tryz.func170 rfl 58 rfl (Nat.le_of_ble_eq_true rfl) fun w0 M N => ?_
 refine GC_msg x fun hx => ?_
 have hrecs := hx.recs
 have hsame := hx.1.1
 have hro := hx.2.2.2.2.1
 obtain ⟨f1, f2, f3, f4, f5, f6, f7⟩ := hf
 refine GC_shift .nil (msg_recs (x := x)) ?_
 refine GC_seq ?_
 refine GC_region ?_
 refine GL_boxA (l := x.cells) rfl rfl (fun b3 => ?_)
 rw [x.cells_eq]
 refine GL_v rfl (rv_as (v := .slice _ _ _) vw) ?_
 refine GL_nil ?_
 refine GC_seq ?_
 refine GC_region ?_
 refine GL_bs (l := bytesV [0]) rfl el22 z5 rfl rfl rfl (fun bb8 => ?_)
 refine GL_shift (.cons .here .nil) (blk_own (n := 1) (sz := 1) rfl (by decide)) ?_
 refine GL_v rfl (rv_as (v := .slice _ _ _) vw) ?_
 refine GL_nil ?_
 refine GC_seq ?_
 refine GC_seq ?_
 refine GC_region ?_
 refine GL_v rfl (rv_fa fa30_15 vw) ?_
 refine GL_v rfl (rv_ld Tryz.underlying27 rfl vw) ?_
 refine GL_v rfl (rv_len el27 vw) ?_
 refine GL_v rfl (rv_mv (v := .int .i64 _) vw) ?_
 refine GL_nil ?_
 refine GC_dropT (T' := [row 4 x.r.A x.r.n x.r.k (recsV x.m.recs x.rw), msgR x]) sb ?_
 refine GC_block ?_
 refine GC_loop (fun (i : Nat) E S T => i ≤ x.r.n ∧ ∃ Ao no ko, no = 1 + (recsB dir x.m.code (x.m.recs.take i)).length ∧ no ≤ 1 + 420 * i ∧ At E [(0, .int .i64 dir), (3, .pointer (some ⟨b3, 0, none⟩)), (5, .slice Ao no ko), (10, .slice x.r.A x.r.n x.r.k), (11, .int .i64 x.r.n), (12, .int .i64 i)] ∧ S = [own 5 1 Ao no ko (bytesV (0 :: recsB dir x.m.code (x.m.recs.take i))), blk b3 [b8 x.m.code, b8 x.m.fail, w16 x.m.addr, w16 x.m.count, w16 x.m.value, w16 x.m.and, w16 x.m.or, w16 x.m.addr2, w16 x.m.sub, w16 x.m.status, w16 x.m.events, w16 x.m.messages, .slice x.w.A x.w.n x.w.k, .slice x.b.A x.b.n x.b.k, .slice x.d.A x.d.n x.d.k, .slice x.r.A x.r.n x.r.k, b8 x.m.mei, b8 x.m.kind, b8 x.m.level, b8 x.m.more, b8 x.m.next, .slice x.o.A x.o.n x.o.k] 30] ∧ T = [row 4 x.r.A x.r.n x.r.k (recsV x.m.recs x.rw), msgR x]) (fun i => x.r.n - i) 0 ?_ ?_
 · refine ⟨Nat.zero_le _, _, 1, 1, rfl, Nat.le_refl _, ⟨rfl, rfl, rfl, rfl, rfl, rfl, trivial⟩, ?_, rfl⟩
   rfl
 rintro i E S T ⟨hi, Ao, no, ko, hno, hbd, hE, rfl, rfl⟩
 obtain ⟨E0, rfl⟩ := hE.ex
 refine GC_seq ?_
 refine GC_region ?_
 refine GL_v rfl (rv_lss vw vw) ?_
 refine GL_nil ?_
 refine GC_seq ?_
 refine GC_cond rfl (fun h0 => ?_) (fun h0 => ?_)
 ·
  have hlt : i < x.m.recs.length := by have := h0; simp at this; omega
  have hio : i < x.rw.length := by omega
  have hA : x.r.A ≠ none := hro.2.2.2.2 (by omega) (by decide)
  have hv := f6 _ (List.getElem_mem hlt)
  refine GC_shift .nil (msg_rec (x := x) i hlt hio) ?_
  refine GC_row (x.rw[i]'hio).A fun hrv => ?_
  have hvl : (x.m.recs[i]'hlt).words.length = (x.rw[i]'hio).n := by have := hrv.1; simpa [wordsV] using this
  obtain ⟨rb, hrb⟩ : ∃ rb, recB dir x.m.code (x.m.recs[i]'hlt) = rb := ⟨_, rfl⟩
  have hrbl := recB_len dir x.m.code (x.m.recs[i]'hlt) hv
  rw [hrb] at hrbl
  have hrb0 := hrb
  unfold recB at hrb
  refine GC_skip ?_
  refine GC_seq ?_
  refine GC_block ?_
  refine GC_seq ?_
  refine GC_region ?_
  refine GL_v rfl (rv_ix (i := i) el27 vw vw (fun _ => rfl) (fun _ => by omega) (fun _ => hA)) ?_
  refine GL_v rfl (rv_ldEA (sz := 4) (m := x.r.n) (c := x.r.k) (cells := recsV x.m.recs x.rw) (hl := ⟨fun w q => q.sat.okT _ (by simp)⟩) (cs := recCells (x.m.recs[i]'hlt) (x.rw[i]'hio)) a76 vw (fun _ => recsV_at _ _ i hlt hio) (fun _ => rfl)) ?_
  refine GL_alloc rfl z76 (fun b7 => ?_)
  refine GL_stA (l' := recCells (x.m.recs[i]'hlt) (x.rw[i]'hio)) rfl rfl c76 (recCells_one _ _) (by rfl) ?_
  simp only [recCells]
  refine GL_nil ?_
  refine GC_seq ?_
  refine GC_block ?_
  refine GC_seq ?_
  refine GC_region ?_
  refine GL_v rfl (rv_fa fa30_0 vw) ?_
  refine GL_v rfl (rv_ld Tryz.underlying5 rfl vw) ?_
  refine GL_v rfl (rv_eql vw vw) ?_
  refine GL_v rfl (rv_mv (v := .bool _) vw) ?_
  refine GL_g rfl rfl gvt (rv_mv (v := .int .i64 _) vw) ?_
  refine GL_g rfl rfl gvt (rv_eql vwg vw) ?_
  refine GL_v rfl (rv_and vw vwg) ?_
  refine GL_v rfl (rv_as (v := .bool _) vw) ?_
  refine GL_nil ?_
  refine GC_cond rfl (fun h1 => ?_) (fun h1 => ?_)
  ·
   have c0 : x.m.code.toNat = 20 ∧ dir = 1 := by have := h1; simp at this; omega
   rw [if_pos c0] at hrb
   refine GC_region ?_
   refine GL_v rfl (rv_mv (v := .slice _ _ _) vw) ?_
   refine GL_v rfl (rv_fa fa76_3 vw) ?_
   refine GL_v rfl (rv_ld Tryz.underlying25 rfl vw) ?_
   refine GL_v rfl (rv_len el25 vw) ?_
   refine GL_v rfl (rv_mul (r := ((2 * (x.rw[i]'hio).n : Nat) : Int)) vw vw (fun _ => by rw [IntWalk.i64_in _ (by omega)]; omega)) ?_
   refine GL_v rfl (rv_add (r := ((1 + 2 * (x.rw[i]'hio).n : Nat) : Int)) vw vw (fun _ => by rw [IntWalk.i64_in _ (by omega)]; omega)) ?_
   refine GL_v rfl (rv_cnv (r := ((UInt8.ofNat (1 + 2 * (x.rw[i]'hio).n)).toNat : Int)) Tryz.underlying3 Tryz.underlying5 vw (fun _ => wrap8 _)) ?_
   refine GL_bs (l := bytesV [UInt8.ofNat (1 + 2 * (x.rw[i]'hio).n), 6]) rfl el22 z5 rfl rfl rfl (fun b43 => ?_)
   refine GL_app (m := 2) rfl el22 rfl rfl (pW (A := Ao)) rfl (bytesV_one _) (by omega) (by simp [maxLen]; omega) (fun A3 k3 => ?_)
   refine GL_v rfl (rv_as (v := .slice _ _ _) vw) ?_
   refine GL_nil ?_
   refine GC_region ?_
   refine GL_v rfl (rv_mv (v := .slice _ _ _) vw) ?_
   refine GL_v rfl (rv_fa fa76_3 vw) ?_
   refine GL_v rfl (rv_ld Tryz.underlying25 rfl vw) ?_
   refine GL_call rfl cb77 (Put_ct (x.rw[i]'hio).A (x.rw[i]'hio).n (x.rw[i]'hio).k (x.m.recs[i]'hlt).words (by omega)) rfl .nil sR ?_
   rintro _ _ _ ⟨Aw, kw, rfl, rfl, rfl⟩
   simp only [List.cons_append, List.nil_append]
   refine GL_shift (.cons .here .nil) own_toRow ?_
   refine GL_app (m := 2 * (x.rw[i]'hio).n) rfl el22 rfl rfl (pW (A := A3)) (by rw [bytesV_length, putW_length, hvl, Nat.mul_one]) (bytesV_one _) (by omega) (by simp [maxLen]; omega) (fun A4 k4 => ?_)
   refine GL_v rfl (rv_as (v := .slice _ _ _) vw) ?_
   refine GL_nil ?_
   refine GC_region ?_
   refine GL_v rfl (rv_add (r := ((i + 1 : Nat) : Int)) vw vw (fun _ => by rw [IntWalk.i64_in _ (by omega)]; omega)) ?_
   refine GL_v rfl (rv_mv (v := .int .i64 _) vw) ?_
   have e : (bytesV (0 :: recsB dir x.m.code (x.m.recs.take i)) ++ bytesV [UInt8.ofNat (1 + 2 * (x.rw[i]'hio).n), 6] ++ bytesV (putW (x.m.recs[i]'hlt).words)) = bytesV (0 :: recsB dir x.m.code (x.m.recs.take (i + 1))) := by
    rw [take_snoc _ i hlt, recsB_snoc, hrb0, ← hrb]; simp [bytesV, hvl]
   rw [e]
   refine GL_drop (S' := [own 5 1 A4 (no + 2 + 2 * (x.rw[i]'hio).n) k4 (bytesV (0 :: recsB dir x.m.code (x.m.recs.take (i + 1)))), blk b3 _ 30]) (.cons insW0.out (pB (B := b3))) (GL_dropT (T' := [row 4 x.r.A x.r.n x.r.k (recsV x.m.recs x.rw), msgR x]) sb ?_)
   refine GL_nil ?_
   refine ⟨i + 1, ⟨by omega, A4, _, k4, ?_, ?_, ⟨rfl, rfl, rfl, rfl, rfl, rfl, trivial⟩, rfl, rfl⟩, by omega⟩
   · rw [take_snoc _ i hlt, recsB_snoc, hrb0, ← hrb]; simp [putW_length]; omega
   · omega
  ·
   have c0 : ¬ (x.m.code.toNat = 20 ∧ dir = 1) := by have := h1; simp at this; omega
   rw [if_neg c0] at hrb
   refine GC_draw 12 ([blk b7 [w16 (x.m.recs[i]'hlt).file, w16 (x.m.recs[i]'hlt).record, w16 (x.m.recs[i]'hlt).count, .slice (x.rw[i]'hio).A (x.rw[i]'hio).n (x.rw[i]'hio).k] 76]) mixed ?_
   refine GA_v (i := 0) rfl rfl rfl (by kernel_rfl) (rv_mv (v := .slice _ _ _) vw) ?_
   refine GA_v (i := 3) rfl rfl rfl (by kernel_rfl) (rv_fa fa76_0 vw) ?_
   refine GA_v (i := 4) rfl rfl rfl (by kernel_rfl) (rv_ld Tryz.underlying24 rfl vw) ?_
   refine GA_v (i := 5) rfl rfl rfl (by kernel_rfl) (rv_fa fa76_1 vw) ?_
   refine GA_v (i := 6) rfl rfl rfl (by kernel_rfl) (rv_ld Tryz.underlying24 rfl vw) ?_
   refine GA_v (i := 7) rfl rfl rfl (by kernel_rfl) (rv_fa fa76_2 vw) ?_
   refine GA_v (i := 8) rfl rfl rfl (by kernel_rfl) (rv_ld Tryz.underlying24 rfl vw) ?_
   refine GA_two 1 9 rfl rfl rfl rfl (by kernel_rfl) ?_ ?_
   ·
    refine GL_bs (l := bytesV [6]) rfl el22 z5 rfl rfl rfl (fun b17 => ?_)
    refine GL_nil ⟨inferInstance, ?_⟩
    refine GA_two 2 9 rfl rfl rfl rfl (by kernel_rfl) ?_ ?_
    ·
     refine GL_app (m := 1) rfl el22 rfl rfl (pW (A := Ao)) rfl (bytesV_one _) (by omega) (by simp [maxLen]; omega) (fun A2 k2 => ?_)
     refine GL_nil ⟨inferInstance, ?_⟩
     refine GA_one 9 rfl rfl (by kernel_rfl) ?_
     refine GL_bs (l := wordsV [(x.m.recs[i]'hlt).file, (x.m.recs[i]'hlt).record, (x.m.recs[i]'hlt).count]) rfl el25 z24 rfl rfl rfl (fun b25 => ?_)
     refine GL_shift (.cons .here .nil) (blk_own (n := 3) (sz := 1) rfl (by decide)) ?_
     refine GL_shift (.cons .here .nil) own_toRow ?_
     refine GL_nil ⟨inferInstance, ?_⟩
     refine GA_one 10 rfl rfl (by kernel_rfl) ?_
     refine GL_call rfl cb77 (Put_ct _ 3 3 [(x.m.recs[i]'hlt).file, (x.m.recs[i]'hlt).record, (x.m.recs[i]'hlt).count] (by decide)) rfl .nil sb ?_
     rintro _ _ _ ⟨Ap, kp, rfl, rfl, rfl⟩
     simp only [List.cons_append, List.nil_append]
     refine GL_shift (pW (A := Ap)) own_toRow ?_
     refine GL_nil ⟨inferInstance, ?_⟩
     refine GA_one 11 rfl rfl (by kernel_rfl) ?_
     refine GL_app (m := 2 * 3) rfl el22 rfl rfl (pW (A := A2)) rfl (bytesV_one _) (by omega) (by simp [maxLen]; omega) (fun A3 k3 => ?_)
     refine GL_nil ⟨inferInstance, ?_⟩
     refine GA_free (by kernel_rfl) ?_
     refine GA_w (i := 12) rfl rfl rfl (by kernel_rfl) (rv_as (v := .slice _ _ _) vw) ?_
     refine GA_nil (by kernel_rfl) ?_
     refine GC_region ?_
     refine GL_v rfl (rv_mv (v := .slice _ _ _) vw) ?_
     refine GL_v rfl (rv_fa fa76_3 vw) ?_
     refine GL_v rfl (rv_ld Tryz.underlying25 rfl vw) ?_
     refine GL_call rfl cb77 (Put_ct (x.rw[i]'hio).A (x.rw[i]'hio).n (x.rw[i]'hio).k (x.m.recs[i]'hlt).words (by omega)) rfl .nil sR ?_
     rintro _ _ _ ⟨Aw, kw, rfl, rfl, rfl⟩
     simp only [List.cons_append, List.nil_append]
     refine GL_shift (.cons .here .nil) own_toRow ?_
     refine GL_app (m := 2 * (x.rw[i]'hio).n) rfl el22 rfl rfl (pW (A := A3)) (by rw [bytesV_length, putW_length, hvl, Nat.mul_one]) (bytesV_one _) (by omega) (by simp [maxLen]; omega) (fun A4 k4 => ?_)
     refine GL_v rfl (rv_as (v := .slice _ _ _) vw) ?_
     refine GL_nil ?_
     refine GC_region ?_
     refine GL_v rfl (rv_add (r := ((i + 1 : Nat) : Int)) vw vw (fun _ => by rw [IntWalk.i64_in _ (by omega)]; omega)) ?_
     refine GL_v rfl (rv_mv (v := .int .i64 _) vw) ?_
     have e : (bytesV (0 :: recsB dir x.m.code (x.m.recs.take i)) ++ bytesV [6] ++ bytesV (putW [(x.m.recs[i]'hlt).file, (x.m.recs[i]'hlt).record, (x.m.recs[i]'hlt).count]) ++ bytesV (putW (x.m.recs[i]'hlt).words)) = bytesV (0 :: recsB dir x.m.code (x.m.recs.take (i + 1))) := by
      rw [take_snoc _ i hlt, recsB_snoc, hrb0, ← hrb]; simp [bytesV, hvl]
     rw [e]
     refine GL_drop (S' := [own 5 1 A4 (no + 1 + 2 * 3 + 2 * (x.rw[i]'hio).n) k4 (bytesV (0 :: recsB dir x.m.code (x.m.recs.take (i + 1)))), blk b3 _ 30]) (.cons insW0.out (pB (B := b3))) (GL_dropT (T' := [row 4 x.r.A x.r.n x.r.k (recsV x.m.recs x.rw), msgR x]) sb ?_)
     refine GL_nil ?_
     refine ⟨i + 1, ⟨by omega, A4, _, k4, ?_, ?_, ⟨rfl, rfl, rfl, rfl, rfl, rfl, trivial⟩, rfl, rfl⟩, by omega⟩
     · rw [take_snoc _ i hlt, recsB_snoc, hrb0, ← hrb]; simp [putW_length]; omega
     · omega
    ·
     refine GL_bs (l := wordsV [(x.m.recs[i]'hlt).file, (x.m.recs[i]'hlt).record, (x.m.recs[i]'hlt).count]) rfl el25 z24 rfl rfl rfl (fun b25 => ?_)
     refine GL_shift (.cons .here .nil) (blk_own (n := 3) (sz := 1) rfl (by decide)) ?_
     refine GL_shift (.cons .here .nil) own_toRow ?_
     refine GL_nil ⟨inferInstance, ?_⟩
     refine GA_one 2 rfl rfl (by kernel_rfl) ?_
     refine GL_app (m := 1) rfl el22 rfl rfl (pW (A := Ao)) rfl (bytesV_one _) (by omega) (by simp [maxLen]; omega) (fun A2 k2 => ?_)
     refine GL_nil ⟨inferInstance, ?_⟩
     refine GA_one 10 rfl rfl (by kernel_rfl) ?_
     refine GL_call rfl cb77 (Put_ct _ 3 3 [(x.m.recs[i]'hlt).file, (x.m.recs[i]'hlt).record, (x.m.recs[i]'hlt).count] (by decide)) rfl .nil sb ?_
     rintro _ _ _ ⟨Ap, kp, rfl, rfl, rfl⟩
     simp only [List.cons_append, List.nil_append]
     refine GL_shift (pW (A := Ap)) own_toRow ?_
     refine GL_nil ⟨inferInstance, ?_⟩
     refine GA_one 11 rfl rfl (by kernel_rfl) ?_
     refine GL_app (m := 2 * 3) rfl el22 rfl rfl (pW (A := A2)) rfl (bytesV_one _) (by omega) (by simp [maxLen]; omega) (fun A3 k3 => ?_)
     refine GL_nil ⟨inferInstance, ?_⟩
     refine GA_free (by kernel_rfl) ?_
     refine GA_w (i := 12) rfl rfl rfl (by kernel_rfl) (rv_as (v := .slice _ _ _) vw) ?_
     refine GA_nil (by kernel_rfl) ?_
     refine GC_region ?_
     refine GL_v rfl (rv_mv (v := .slice _ _ _) vw) ?_
     refine GL_v rfl (rv_fa fa76_3 vw) ?_
     refine GL_v rfl (rv_ld Tryz.underlying25 rfl vw) ?_
     refine GL_call rfl cb77 (Put_ct (x.rw[i]'hio).A (x.rw[i]'hio).n (x.rw[i]'hio).k (x.m.recs[i]'hlt).words (by omega)) rfl .nil sR ?_
     rintro _ _ _ ⟨Aw, kw, rfl, rfl, rfl⟩
     simp only [List.cons_append, List.nil_append]
     refine GL_shift (.cons .here .nil) own_toRow ?_
     refine GL_app (m := 2 * (x.rw[i]'hio).n) rfl el22 rfl rfl (pW (A := A3)) (by rw [bytesV_length, putW_length, hvl, Nat.mul_one]) (bytesV_one _) (by omega) (by simp [maxLen]; omega) (fun A4 k4 => ?_)
     refine GL_v rfl (rv_as (v := .slice _ _ _) vw) ?_
     refine GL_nil ?_
     refine GC_region ?_
     refine GL_v rfl (rv_add (r := ((i + 1 : Nat) : Int)) vw vw (fun _ => by rw [IntWalk.i64_in _ (by omega)]; omega)) ?_
     refine GL_v rfl (rv_mv (v := .int .i64 _) vw) ?_
     have e : (bytesV (0 :: recsB dir x.m.code (x.m.recs.take i)) ++ bytesV [6] ++ bytesV (putW [(x.m.recs[i]'hlt).file, (x.m.recs[i]'hlt).record, (x.m.recs[i]'hlt).count]) ++ bytesV (putW (x.m.recs[i]'hlt).words)) = bytesV (0 :: recsB dir x.m.code (x.m.recs.take (i + 1))) := by
      rw [take_snoc _ i hlt, recsB_snoc, hrb0, ← hrb]; simp [bytesV, hvl]
     rw [e]
     refine GL_drop (S' := [own 5 1 A4 (no + 1 + 2 * 3 + 2 * (x.rw[i]'hio).n) k4 (bytesV (0 :: recsB dir x.m.code (x.m.recs.take (i + 1)))), blk b3 _ 30]) (.cons insW0.out (pB (B := b3))) (GL_dropT (T' := [row 4 x.r.A x.r.n x.r.k (recsV x.m.recs x.rw), msgR x]) sb ?_)
     refine GL_nil ?_
     refine ⟨i + 1, ⟨by omega, A4, _, k4, ?_, ?_, ⟨rfl, rfl, rfl, rfl, rfl, rfl, trivial⟩, rfl, rfl⟩, by omega⟩
     · rw [take_snoc _ i hlt, recsB_snoc, hrb0, ← hrb]; simp [putW_length]; omega
     · omega
   ·
    refine GL_bs (l := wordsV [(x.m.recs[i]'hlt).file, (x.m.recs[i]'hlt).record, (x.m.recs[i]'hlt).count]) rfl el25 z24 rfl rfl rfl (fun b25 => ?_)
    refine GL_shift (.cons .here .nil) (blk_own (n := 3) (sz := 1) rfl (by decide)) ?_
    refine GL_shift (.cons .here .nil) own_toRow ?_
    refine GL_nil ⟨inferInstance, ?_⟩
    refine GA_one 1 rfl rfl (by kernel_rfl) ?_
    refine GL_bs (l := bytesV [6]) rfl el22 z5 rfl rfl rfl (fun b17 => ?_)
    refine GL_nil ⟨inferInstance, ?_⟩
    refine GA_one 2 rfl rfl (by kernel_rfl) ?_
    refine GL_app (m := 1) rfl el22 rfl rfl (pW (A := Ao)) rfl (bytesV_one _) (by omega) (by simp [maxLen]; omega) (fun A2 k2 => ?_)
    refine GL_nil ⟨inferInstance, ?_⟩
    refine GA_one 10 rfl rfl (by kernel_rfl) ?_
    refine GL_call rfl cb77 (Put_ct _ 3 3 [(x.m.recs[i]'hlt).file, (x.m.recs[i]'hlt).record, (x.m.recs[i]'hlt).count] (by decide)) rfl .nil sb ?_
    rintro _ _ _ ⟨Ap, kp, rfl, rfl, rfl⟩
    simp only [List.cons_append, List.nil_append]
    refine GL_shift (pW (A := Ap)) own_toRow ?_
    refine GL_nil ⟨inferInstance, ?_⟩
    refine GA_one 11 rfl rfl (by kernel_rfl) ?_
    refine GL_app (m := 2 * 3) rfl el22 rfl rfl (pW (A := A2)) rfl (bytesV_one _) (by omega) (by simp [maxLen]; omega) (fun A3 k3 => ?_)
    refine GL_nil ⟨inferInstance, ?_⟩
    refine GA_free (by kernel_rfl) ?_
    refine GA_w (i := 12) rfl rfl rfl (by kernel_rfl) (rv_as (v := .slice _ _ _) vw) ?_
    refine GA_nil (by kernel_rfl) ?_
    refine GC_region ?_
    refine GL_v rfl (rv_mv (v := .slice _ _ _) vw) ?_
    refine GL_v rfl (rv_fa fa76_3 vw) ?_
    refine GL_v rfl (rv_ld Tryz.underlying25 rfl vw) ?_
    refine GL_call rfl cb77 (Put_ct (x.rw[i]'hio).A (x.rw[i]'hio).n (x.rw[i]'hio).k (x.m.recs[i]'hlt).words (by omega)) rfl .nil sR ?_
    rintro _ _ _ ⟨Aw, kw, rfl, rfl, rfl⟩
    simp only [List.cons_append, List.nil_append]
    refine GL_shift (.cons .here .nil) own_toRow ?_
    refine GL_app (m := 2 * (x.rw[i]'hio).n) rfl el22 rfl rfl (pW (A := A3)) (by rw [bytesV_length, putW_length, hvl, Nat.mul_one]) (bytesV_one _) (by omega) (by simp [maxLen]; omega) (fun A4 k4 => ?_)
    refine GL_v rfl (rv_as (v := .slice _ _ _) vw) ?_
    refine GL_nil ?_
    refine GC_region ?_
    refine GL_v rfl (rv_add (r := ((i + 1 : Nat) : Int)) vw vw (fun _ => by rw [IntWalk.i64_in _ (by omega)]; omega)) ?_
    refine GL_v rfl (rv_mv (v := .int .i64 _) vw) ?_
    have e : (bytesV (0 :: recsB dir x.m.code (x.m.recs.take i)) ++ bytesV [6] ++ bytesV (putW [(x.m.recs[i]'hlt).file, (x.m.recs[i]'hlt).record, (x.m.recs[i]'hlt).count]) ++ bytesV (putW (x.m.recs[i]'hlt).words)) = bytesV (0 :: recsB dir x.m.code (x.m.recs.take (i + 1))) := by
     rw [take_snoc _ i hlt, recsB_snoc, hrb0, ← hrb]; simp [bytesV, hvl]
    rw [e]
    refine GL_drop (S' := [own 5 1 A4 (no + 1 + 2 * 3 + 2 * (x.rw[i]'hio).n) k4 (bytesV (0 :: recsB dir x.m.code (x.m.recs.take (i + 1)))), blk b3 _ 30]) (.cons insW0.out (pB (B := b3))) (GL_dropT (T' := [row 4 x.r.A x.r.n x.r.k (recsV x.m.recs x.rw), msgR x]) sb ?_)
    refine GL_nil ?_
    refine ⟨i + 1, ⟨by omega, A4, _, k4, ?_, ?_, ⟨rfl, rfl, rfl, rfl, rfl, rfl, trivial⟩, rfl, rfl⟩, by omega⟩
    · rw [take_snoc _ i hlt, recsB_snoc, hrb0, ← hrb]; simp [putW_length]; omega
    · omega
 ·
  obtain rfl : i = x.r.n := by have := h0; simp at this; omega
  rw [List.take_of_length_le (by omega)] at hno ⊢
  refine GC_exit ?_
  refine GC_seq ?_
  refine GC_region ?_
  refine GL_row Ao fun hrao => ?_
  have hAo : Ao ≠ none := hrao.2.2.2.2 (by omega) (by decide)
  refine GL_v rfl (rv_mv (v := .slice _ _ _) vw) ?_
  refine GL_v rfl (rv_mv (v := .slice _ _ _) vw) ?_
  refine GL_v rfl (rv_len el22 vw) ?_
  refine GL_v rfl (rv_sub (r := ((recsB dir x.m.code x.m.recs).length : Int)) vw vw (fun _ => by rw [IntWalk.i64_in _ (by omega)]; omega)) ?_
  refine GL_v rfl (rv_cnv (r := ((UInt8.ofNat (recsB dir x.m.code x.m.recs).length).toNat : Int)) Tryz.underlying3 Tryz.underlying5 vw (fun _ => wrap8 _)) ?_
  refine GL_v rfl (rv_ix (i := 0) el22 vw vw (fun _ => rfl) (fun _ => by omega) (fun _ => hAo)) ?_
  refine GL_stE (u := b8 (UInt8.ofNat (recsB dir x.m.code x.m.recs).length)) (xs' := bytesV (L11 dir x.m)) rfl rfl c5 rfl (by omega) rfl ?_
  refine GL_shift (.cons .here .nil) own_toRow ?_
  refine GL_nil ?_
  refine GC_seq ?_
  refine GC_region ?_
  refine GL_v rfl (rv_mv (v := .slice _ _ _) vw) ?_
  refine GL_v rfl (rv_as (v := .slice _ _ _) vw) ?_
  refine GL_nil ?_
  refine GC_ret ?_
  exact fin1 (.inr rfl) rfl rfl .nil sb ⟨Ao, _, ko, rfl, rfl, rfl⟩
end Go.Bus
