/- Part of the proof: Diag. No condition. -/
import Derived.Test.YtlfjioigkojjdaaGreatUBRegs
set_option linter.unusedVariables false
set_option linter.unusedSimpArgs false
set_option maxRecDepth 100000
set_option maxHeartbeats 4000000
namespace Go.Bus
open Go Go.Proofs
theorem dec_nat {a b : Nat} : decide ((a : Int) = (b : Int)) = decide (a = b) := by congr 1; apply propext; omega
theorem may1_ct (v u : UInt16) (b : Nat) : CtD PG 222 [w16 u, .pointer (some ⟨b, 0, none⟩)] [] [blk b [w16 v] 24] (.bool (decide (v.toNat = 0))) [] [] := by
 refine Ct_of Tryz.func222 rfl 6 rfl (Nat.le_of_ble_eq_true rfl) fun w0 M N => ?_
 refine GC_seq ?_
 refine GC_region ?_
 refine GL_v rfl (rv_as (v := .bool _) vw) ?_
 refine GL_nil ?_
 refine GC_seq ?_
 refine GC_region ?_
 refine GL_v rfl (rv_ld Tryz.underlying24 rfl vw) ?_
 refine GL_v rfl (rv_eql vw vw) ?_
 refine GL_v rfl (rv_as (v := .bool _) vw) ?_
 refine GL_nil ?_
 refine GC_ret ?_
 exact fin1 (.inr rfl) rfl rfl .nil .nil ⟨by rw [← dec_nat]; rfl, rfl, rfl⟩
theorem may2_ct (v : UInt16) : CtD PG 223 [w16 v] [] [] (.bool (decide (v.toNat = 0) || decide (v.toNat = 65280))) [] [] := by
 refine Ct_of Tryz.func223 rfl 9 rfl (Nat.le_of_ble_eq_true rfl) fun w0 M N => ?_
 refine GC_seq ?_
 refine GC_region ?_
 refine GL_v rfl (rv_as (v := .bool _) vw) ?_
 refine GL_nil ?_
 refine GC_seq ?_
 refine GC_region ?_
 refine GL_v rfl (rv_mv (v := .int .u16 _) vw) ?_
 refine GL_v rfl (rv_eql vw vw) ?_
 refine GL_v rfl (rv_mv (v := .bool _) vw) ?_
 refine GL_g rfl rfl gvf (rv_mv (v := .int .u16 _) vw) ?_
 refine GL_g rfl rfl gvf (rv_eql vwg vw) ?_
 refine GL_v rfl (rv_or vw vwg) ?_
 refine GL_v rfl (rv_as (v := .bool _) vw) ?_
 refine GL_nil ?_
 refine GC_ret ?_
 exact fin1 (.inr rfl) rfl rfl .nil .nil ⟨by rw [← dec_nat, ← dec_nat]; rfl, rfl, rfl⟩
theorem may3_ct (v : UInt16) : CtD PG 224 [w16 v] [] [] (.bool (decide (v.toNat % 256 = 0))) [] [] := by
 refine Ct_of Tryz.func224 rfl 6 rfl (Nat.le_of_ble_eq_true rfl) fun w0 M N => ?_
 have hv := v.toNat_lt
 have e1 : v.toNat &&& 255 = v.toNat % 256 := Nat.and_two_pow_sub_one_eq_mod v.toNat 8
 refine GC_seq ?_
 refine GC_region ?_
 refine GL_v rfl (rv_as (v := .bool _) vw) ?_
 refine GL_nil ?_
 refine GC_seq ?_
 refine GC_region ?_
 refine GL_v rfl (rv_mv (v := .int .u16 _) vw) ?_
 refine GL_v rfl (rv_bit (r := .int .u16 ((v.toNat % 256 : Nat) : Int)) (.inl rfl) vw vw (fun _ w => by rw [← e1]; exact run_and16 w v.toNat 255 (by omega) (by decide))) ?_
 refine GL_v rfl (rv_eql vw vw) ?_
 refine GL_v rfl (rv_as (v := .bool _) vw) ?_
 refine GL_nil ?_
 refine GC_ret ?_
 exact fin1 (.inr rfl) rfl rfl .nil .nil ⟨by rw [← dec_nat]; rfl, rfl, rfl⟩
def mayMap : List (Int × Value) := [(1, .func (.func 223) [].toArray [].toArray), (3, .func (.func 224) [].toArray [].toArray)]
theorem may_cases (sub v : UInt16) : ∃ fv b, lookD sub.toNat mayMap .nilFunc = fv ∧ lookB sub.toNat mayMap = b ∧ (b = false → sub.toNat ≠ 1 ∧ sub.toNat ≠ 3) ∧
 (b = true → ∃ f R, fv = .func (.func f) [].toArray [].toArray ∧ Cb PG f ∧ CtD PG f [w16 v] [] [] (.bool R) [] [] ∧ (sub.toNat = 1 ∧ R = (decide (v.toNat = 0) || decide (v.toNat = 65280)) ∨ sub.toNat = 3 ∧ R = decide (v.toNat % 256 = 0))) := by
 by_cases h1 : (sub.toNat : Int) = 1
 · refine ⟨_, true, by simp only [mayMap, lookD, look, h1, if_true], by simp only [mayMap, lookB, look, h1, if_true], (fun h => by cases h), fun _ => ⟨_, _, rfl, cb223, may2_ct v, .inl ⟨by omega, rfl⟩⟩⟩
 by_cases h3 : (sub.toNat : Int) = 3
 · refine ⟨_, true, by simp only [mayMap, lookD, look, h1, h3, if_true, if_false]; rfl, by simp only [mayMap, lookB, look, h1, h3, if_true, if_false]; rfl, (fun h => by cases h), fun _ => ⟨_, _, rfl, cb224, may3_ct v, .inr ⟨by omega, rfl⟩⟩⟩
 · exact ⟨.nilFunc, false, by simp only [mayMap, lookD, look, h1, h3, if_false], by simp only [mayMap, lookB, look, h1, h3, if_false], fun _ => ⟨by omega, by omega⟩, (fun h => by cases h)⟩
theorem may_ct (dir : Int) (sub v : UInt16) : CtD PG 206 [.int .i64 dir, w16 sub, w16 v] [] [] (.bool (mayS dir sub v)) [] [] := by
 refine Ct_of Tryz.func206 rfl 42 rfl (Nat.le_of_ble_eq_true rfl) fun w0 M N => ?_
 obtain ⟨R, hR⟩ : ∃ R, mayS dir sub v = R := ⟨_, rfl⟩
 rw [hR]
 refine GC_seq ?_
 refine GC_region ?_
 refine GL_box1 (u := w16 v) rfl rfl rfl (fun b5 => ?_)
 refine GL_v rfl (rv_as (v := .bool _) vw) ?_
 refine GL_nil ?_
 refine GC_shift (.cons .here .nil) blk_toT ?_
 refine GC_seq ?_
 refine GC_region ?_
 refine GL_v rfl (rv_mfE (la := []) (lb := [.pointer (some ⟨b5, 0, none⟩)]) rfl rfl) ?_
 refine GL_v rfl (rv_as (v := .func _ _ _) vw) ?_
 refine GL_nil ?_
 refine GC_seq ?_
 refine GC_region ?_
 refine GL_mkMap .u16 rfl (fun Bm => ?_)
 refine GL_ins (dk := .u16) (v := .func (.func 223) [].toArray [].toArray) Tryz.underlying193 Tryz.underlying24 rfl rfl rfl rfl ?_
 refine GL_ins (dk := .u16) (v := .func (.func 224) [].toArray [].toArray) Tryz.underlying193 Tryz.underlying24 rfl rfl rfl rfl ?_
 refine GL_v rfl (rv_mv (v := .map _) vw) ?_
 refine GL_v rfl (rv_as (v := .map _) vw) ?_
 refine GL_nil ?_
 refine GC_seq ?_
 refine GC_region ?_
 refine GL_v rfl (rv_mv (v := .int .u16 _) vw) ?_
 refine GL_v rfl (rv_eql vw vw) ?_
 refine GL_v rfl (rv_mv (v := .bool _) vw) ?_
 refine GL_g rfl rfl gvf (rv_mv (v := .int .u16 _) vw) ?_
 refine GL_g rfl rfl gvf (rv_geq vwg vw) ?_
 refine GL_g rfl rfl gvf (rv_mv (v := .bool _) vwg) ?_
 refine GL_g rfl rfl gvgt (rv_mv (v := .int .u16 _) vw) ?_
 refine GL_g rfl rfl gvgt (rv_leq vwg vw) ?_
 refine GL_g rfl rfl gvf (rv_and vwg vwg) ?_
 refine GL_v rfl (rv_or vw vwg) ?_
 refine GL_v rfl (rv_as (v := .bool _) vw) ?_
 refine GL_nil ?_
 refine GC_seq ?_
 refine GC_seq ?_
 refine GC_region ?_
 refine GL_v rfl (rv_mv (v := .bool _) vw) ?_
 refine GL_v rfl (rv_mv (v := .bool _) vw) ?_
 refine GL_g rfl rfl gvt (rv_mv (v := .int .i64 _) vw) ?_
 refine GL_g rfl rfl gvt (rv_eql vwg vw) ?_
 refine GL_v rfl (rv_and vw vwg) ?_
 refine GL_nil ?_
 refine GC_cond rfl (fun h0 => ?_) (fun h0 => ?_)
 ·
  have h : (sub.toNat = 2 ∨ 11 ≤ sub.toNat ∧ sub.toNat ≤ 18) ∧ dir = 1 := by simp at h0; omega
  have he : mayS dir sub v = true := if_pos h
  obtain rfl := hR.symm.trans he
  refine GC_seq ?_
  refine GC_region ?_
  refine GL_v rfl (rv_as (v := .bool _) vw) ?_
  refine GL_nil ?_
  refine GC_ret ?_
  exact fin1 (.inr rfl) rfl rfl .nil .nil ⟨rfl, rfl, rfl⟩
 ·
  have h : ¬ ((sub.toNat = 2 ∨ 11 ≤ sub.toNat ∧ sub.toNat ≤ 18) ∧ dir = 1) := by simp at h0; omega
  simp only [mayS, if_neg h] at hR
  have hcc := may_cases sub v
  obtain ⟨fv, bb, hl1, hl2, hno, hyes⟩ := hcc
  refine GC_skip ?_
  refine GC_seq ?_
  refine GC_region ?_
  refine GL_v rfl (rv_mv (v := .map _) vw) ?_
  refine GL_v rfl (rv_mv (v := w16 sub) vw) ?_
  refine GL_v rfl (rv_lookOk (dk := .u16) (z := .nilFunc) (v := fv) (b := bb) Tryz.underlying193 Tryz.underlying24 (fun _ => by kernel_rfl) vw vw hl1 hl2) ?_
  refine GL_v rfl (rv_mv (v := .tuple [fv, .bool bb].toArray) vw) ?_
  refine GL_v rfl (rv_ext vw rfl) ?_
  refine GL_v rfl (rv_ext vw rfl) ?_
  refine GL_v rfl (rv_as (v := fv) vw) ?_
  refine GL_v rfl (rv_as (v := .bool _) vw) ?_
  refine GL_nil ?_
  refine GC_seq ?_
  refine GC_seq ?_
  refine GC_region ?_
  refine GL_v rfl (rv_mv (v := .bool _) vw) ?_
  refine GL_v rfl (rv_not vw) ?_
  refine GL_nil ?_
  refine GC_cond rfl (fun h1 => ?_) (fun h1 => ?_)
  ·
   have hb : bb = false := by simpa using h1
   obtain ⟨q1, q2⟩ := hno hb
   rw [if_neg q1, if_neg q2] at hR
   subst hR
   refine GC_region ?_
   refine GL_v rfl (rv_mv (v := .func _ _ _) vw) ?_
   refine GL_v rfl (rv_as (v := .func _ _ _) vw) ?_
   refine GL_nil ?_
   refine GC_seq ?_
   refine GC_region ?_
   first | refine GL_v rfl (rv_mv (v := .func (.func 222) [].toArray [.pointer (some ⟨b5, 0, none⟩)].toArray) vw) ?_ | refine GL_v rfl (rv_mv (v := .func (.func f) [].toArray [].toArray) vw) ?_
   refine GL_v rfl (rv_ld (v := w16 v) Tryz.underlying24 rfl vw) ?_
   first | refine GL_callCD rfl rfl cb222 rfl (may1_ct v v b5) .nil sb ?_ | refine GL_callCD rfl rfl hcb rfl hct .nil .nil ?_
   refine GL_v rfl (rv_as (v := .bool _) vw) ?_
   refine GL_nil ?_
   refine GC_ret ?_
   exact fin1 (.inr rfl) rfl rfl .nil .nil ⟨rfl, rfl, rfl⟩
  ·
   have hb : bb = true := by simpa using h1
   obtain ⟨f, R2, rfl, hcb, hct, hsub⟩ := hyes hb
   have hR2 : R2 = R := by
    rcases hsub with ⟨q, rfl⟩ | ⟨q, rfl⟩
    · rw [if_pos q] at hR; exact hR
    · rw [if_neg (by omega), if_pos q] at hR; exact hR
   subst hR2
   refine GC_skip ?_
   refine GC_seq ?_
   refine GC_region ?_
   first | refine GL_v rfl (rv_mv (v := .func (.func 222) [].toArray [.pointer (some ⟨b5, 0, none⟩)].toArray) vw) ?_ | refine GL_v rfl (rv_mv (v := .func (.func f) [].toArray [].toArray) vw) ?_
   refine GL_v rfl (rv_ld (v := w16 v) Tryz.underlying24 rfl vw) ?_
   first | refine GL_callCD rfl rfl cb222 rfl (may1_ct v v b5) .nil sb ?_ | refine GL_callCD rfl rfl hcb rfl hct .nil .nil ?_
   refine GL_v rfl (rv_as (v := .bool _) vw) ?_
   refine GL_nil ?_
   refine GC_ret ?_
   exact fin1 (.inr rfl) rfl rfl .nil .nil ⟨rfl, rfl, rfl⟩
theorem busy_ct (B n k : Nat) (A : Option Addr) (r : List UInt8) (s : Bool) (e : Int) (hn : n ≤ 35184372088832) : Ct PG 207 [.pointer (some ⟨B, 0, none⟩)] [cub B A n k s e] [row 1 A n k (bytesV r)]
 (fun v S' T' => ∃ a r1 s1 e1 A1 n1 k1, busyS ⟨r, s, e⟩ = (a, ⟨r1, s1, e1⟩) ∧ n1 ≤ 35184372088832 ∧ v = w16 a ∧ S' = [cub B A1 n1 k1 s1 e1] ∧ T' = [row 1 A1 n1 k1 (bytesV r1)]) := by
 refine Ct_of Tryz.func207 rfl 15 rfl (Nat.le_of_ble_eq_true rfl) fun w0 M N => ?_
 refine GC_seq ?_
 refine GC_region ?_
 refine GL_v rfl (rv_as (v := .int .u16 _) vw) ?_
 refine GL_nil ?_
 refine GC_seq ?_
 refine GC_region ?_
 refine GL_v rfl (rv_mv (v := .pointer _) vw) ?_
 refine GL_call rfl cb73 (Word_k B n k A r s e hn) rfl pB sR ?_
 rintro _ _ _ ⟨a, r1, s1, e1, A1, n1, k1, hc1, hn1, rfl, rfl, rfl⟩
 simp only [List.cons_append, List.nil_append]
 refine GL_v rfl (rv_as (v := w16 a) vw) ?_
 refine GL_nil ?_
 refine GC_seq ?_
 refine GC_region ?_
 refine GL_v rfl (rv_mv (v := .pointer _) vw) ?_
 refine GL_v rfl (rv_mv (v := .int .u16 _) vw) ?_
 refine GL_v rfl (rv_eql vw vw) ?_
 refine GL_v rfl (rv_mv (v := .bool _) vw) ?_
 refine GL_g rfl rfl gvf (rv_mv (v := .int .u16 _) vw) ?_
 refine GL_g rfl rfl gvf (rv_eql vwg vw) ?_
 refine GL_v rfl (rv_or vw vwg) ?_
 refine GL_call rfl cb133 (Need_k B n1 k1 A1 r1 s1 e1 (decide ((a.toNat : Int) = 0) || decide ((a.toNat : Int) = 65535)) 6) rfl pB .nil ?_
 rintro _ _ _ ⟨e2, hc2, rfl, rfl, rfl⟩
 simp only [List.cons_append, List.nil_append]
 refine GL_nil ?_
 refine GC_seq ?_
 refine GC_region ?_
 refine GL_v rfl (rv_mv (v := w16 a) vw) ?_
 refine GL_v rfl (rv_as (v := w16 a) vw) ?_
 refine GL_nil ?_
 refine GC_ret ?_
 exact fin1 (.inr rfl) rfl rfl pB sb ⟨a, r1, s1, e2, A1, n1, k1, by simp only [busyS, hc1, hc2], hn1, rfl, rfl, rfl⟩
theorem line_ct (dir : Int) (B B2 n k : Nat) (A : Option Addr) (r : List UInt8) (s : Bool) (e : Int) (code : UInt8) (hn : n ≤ 35184372088832) : Ct PG 164 [.int .i64 dir, .pointer (some ⟨B, 0, none⟩), .pointer (some ⟨B2, 0, none⟩)] [cub B A n k s e, mub B2 { m := { code := code } }] [row 1 A n k (bytesV r)] (FormOut B B2 (lineS dir { code := code } ⟨r, s, e⟩)) := by
 refine Ct_of Tryz.func164 rfl 84 rfl (Nat.le_of_ble_eq_true rfl) fun w0 M N => ?_
 have e00 : MsgX.cells { m := { code := code } } = [b8 code, .int .u8 0, .int .u16 0, .int .u16 0, .int .u16 0, .int .u16 0, .int .u16 0, .int .u16 0, .int .u16 0, .int .u16 0, .int .u16 0, .int .u16 0, .slice none 0 0, .slice none 0 0, .slice none 0 0, .slice none 0 0, .int .u8 0, .int .u8 0, .int .u8 0, .int .u8 0, .int .u8 0, .slice none 0 0] := rfl
 unfold mub; rw [e00]
 refine GC_seq ?_
 refine GC_region ?_
 refine GL_v rfl (rv_mv (v := .pointer _) vw) ?_
 refine GL_v rfl (rv_mv (v := .pointer _) vw) ?_
 refine GL_call rfl cb73 (Word_k B n k A r s e hn) rfl pB sR ?_
 rintro _ _ _ ⟨u, r1, s1, e1, A1, n1, k1, hc1, hn1, rfl, rfl, rfl⟩
 simp only [List.cons_append, List.nil_append]
 refine GL_v rfl (rv_nil vw) ?_
 refine GL_v rfl (rv_fa fa30_8 vw) ?_
 refine GL_st (u := w16 u) rfl rfl c24 rfl ?_
 refine GL_nil ?_
 refine GC_seq ?_
 refine GC_region ?_
 refine GL_v rfl (rv_mv (v := .pointer _) vw) ?_
 refine GL_v rfl (rv_mv (v := .pointer _) vw) ?_
 refine GL_v rfl (rv_nil vw) ?_
 refine GL_v rfl (rv_fa fa30_8 vw) ?_
 refine GL_v rfl (rv_ld Tryz.underlying24 rfl vw) ?_
 refine GL_callD rfl cb205 (Bits_ct u) rfl .nil .nil ?_
 refine GL_v rfl (rv_mv (v := .bool _) vw) ?_
 refine GL_g rfl rfl gvt (rv_mv (v := .int .i64 _) vw) ?_
 refine GL_g rfl rfl gvt (rv_eql vwg vw) ?_
 refine GL_g rfl rfl gvt (rv_mv (v := .bool _) vwg) ?_
 refine GL_g rfl rfl gvgf (rv_mv (v := .pointer _) vw) ?_
 refine GL_g rfl rfl gvgf (rv_nil vwg) ?_
 refine GL_g rfl rfl gvgf (rv_fa fa30_8 vwg) ?_
 refine GL_g rfl rfl gvgf (rv_ld Tryz.underlying24 rfl vwg) ?_
 refine GL_g rfl rfl gvgf (rv_neq vwg vw) ?_
 refine GL_g rfl rfl gvt (rv_or vwg vwg) ?_
 refine GL_v rfl (rv_and vw vwg) ?_
 refine GL_call rfl cb133 (Need_k B n1 k1 A1 r1 s1 e1 (subS u && (decide (dir = 0) || !decide ((u.toNat : Int) = 4))) 8) rfl pB .nil ?_
 rintro _ _ _ ⟨e2, hc2, rfl, rfl, rfl⟩
 simp only [List.cons_append, List.nil_append]
 refine GL_nil ?_
 refine GC_seq ?_
 refine GC_seq ?_
 refine GC_region ?_
 refine GL_v rfl (rv_mv (v := .pointer _) vw) ?_
 refine GL_v rfl (rv_nil vw) ?_
 refine GL_v rfl (rv_fa fa30_8 vw) ?_
 refine GL_v rfl (rv_ld Tryz.underlying24 rfl vw) ?_
 refine GL_v rfl (rv_neq vw vw) ?_
 refine GL_nil ?_
 refine GC_cond rfl (fun h0 => ?_) (fun h0 => ?_)
 ·
  have hu : u.toNat ≠ 0 := by simp at h0; omega
  refine GC_seq ?_
  refine GC_region ?_
  refine GL_v rfl (rv_mv (v := .pointer _) vw) ?_
  refine GL_v rfl (rv_mv (v := .pointer _) vw) ?_
  refine GL_call rfl cb132 (Words_k B n1 k1 A1 r1 s1 e2 1 hn1) rfl pB sR ?_
  rintro _ _ _ ⟨w, r3, s3, e3, A3, n3, k3, Ax3, nx3, kx3, hc3, hn3, rfl, rfl, rfl⟩
  simp only [List.cons_append, List.nil_append]
  refine GL_row Ax3 fun hrx => ?_
  have hlx : w.length = nx3 := by have := hrx.1; simpa [wordsV] using this
  refine GL_v rfl (rv_nil vw) ?_
  refine GL_v rfl (rv_fa fa30_12 vw) ?_
  refine GL_st (u := .slice Ax3 nx3 kx3) rfl rfl c25 rfl ?_
  refine GL_nil ?_
  refine GC_seq ?_
  refine GC_draw 22 ([blk B2 [b8 code, .int .u8 0, .int .u16 0, .int .u16 0, .int .u16 0, .int .u16 0, .int .u16 0, .int .u16 0, w16 u, .int .u16 0, .int .u16 0, .int .u16 0, .slice Ax3 nx3 kx3, .slice none 0 0, .slice none 0 0, .slice none 0 0, .int .u8 0, .int .u8 0, .int .u8 0, .int .u8 0, .int .u8 0, .slice none 0 0] 30, row 1 Ax3 nx3 kx3 (wordsV w)]) mixed ?_
  refine GA_v (i := 0) rfl rfl rfl (by kernel_rfl) (rv_mv (v := .pointer _) vw) ?_
  refine GA_v (i := 1) rfl rfl rfl (by kernel_rfl) (rv_mv (v := .pointer _) vw) ?_
  refine GA_v (i := 2) rfl rfl rfl (by kernel_rfl) (rv_nil vw) ?_
  refine GA_v (i := 3) rfl rfl rfl (by kernel_rfl) (rv_fa fa30_12 vw) ?_
  refine GA_v (i := 4) rfl rfl rfl (by kernel_rfl) (rv_ld Tryz.underlying25 rfl vw) ?_
  refine GA_v (i := 5) rfl rfl rfl (by kernel_rfl) (rv_len el25 vw) ?_
  refine GA_v (i := 6) rfl rfl rfl (by kernel_rfl) (rv_eql vw vw) ?_
  refine GA_v (i := 7) rfl rfl rfl (by kernel_rfl) (rv_mv (v := .bool _) vw) ?_
  refine GA_g (i := 8) rfl rfl rfl (by kernel_rfl) rfl gvt (rv_mv (v := .int .i64 _) vw) ?_
  refine GA_g (i := 9) rfl rfl rfl (by kernel_rfl) rfl gvt (rv_mv (v := .pointer _) vw) ?_
  refine GA_g (i := 10) rfl rfl rfl (by kernel_rfl) rfl gvt (rv_nil vwg) ?_
  refine GA_g (i := 11) rfl rfl rfl (by kernel_rfl) rfl gvt (rv_fa fa30_8 vwg) ?_
  refine GA_g (i := 12) rfl rfl rfl (by kernel_rfl) rfl gvt (rv_ld Tryz.underlying24 rfl vwg) ?_
  refine GA_g (i := 13) rfl rfl rfl (by kernel_rfl) rfl gvt (rv_mv (v := .pointer _) vw) ?_
  refine GA_g (i := 14) rfl rfl rfl (by kernel_rfl) rfl gvt (rv_nil vwg) ?_
  refine GA_g (i := 15) rfl rfl rfl (by kernel_rfl) rfl gvt (rv_fa fa30_12 vwg) ?_
  refine GA_g (i := 16) rfl rfl rfl (by kernel_rfl) rfl gvt (rv_ld Tryz.underlying25 rfl vwg) ?_
  refine GA_g (i := 17) rfl rfl rfl (by kernel_rfl) rfl gvt (rv_ix (i := 0) el25 vwg vw (fun _ => rfl) (fun q => by simp at q; omega) (fun q => hrx.2.2.2.2 (by simp at q; omega) (by decide))) ?_
  refine GA_g (i := 18) rfl rfl rfl (by kernel_rfl) rfl gvt (rv_ldE (v := w16 (w.headD 0)) Tryz.underlying24 rfl vwg (fun q => by cases w with | nil => (simp at q hlx; omega) | cons a t => rfl)) ?_
  refine GA_one 19 rfl rfl (by kernel_rfl) ?_
  refine GL_callG rfl rfl gvt cb206 (fun _ => may_ct dir u (w.headD 0)) (fun q => by show [gd _ _, gd _ _, gd _ _] = _; rw [vwg q, vwg q, vwg q]) (fun _ => .nil) ?_
  refine GL_nil ⟨inferInstance, ?_⟩
  refine GA_v (i := 20) rfl rfl rfl (by kernel_rfl) (rv_and vw vwg) ?_
  refine GA_one 21 rfl rfl (by kernel_rfl) ?_
  refine GL_call rfl cb133 (Need_k B n3 k3 A3 r3 s3 e3 (decide ((nx3 : Int) = 1) && mayS dir u (w.headD 0)) 6) rfl pB .nil ?_
  rintro _ _ _ ⟨e4, hc4, rfl, rfl, rfl⟩
  simp only [List.cons_append, List.nil_append]
  refine GL_shift .nil (msgWords { code := code, sub := u, words := w } ⟨Ax3, nx3, kx3⟩) ?_
  refine GL_nil ⟨inferInstance, ?_⟩
  refine GA_nil (by kernel_rfl) ?_
  refine GC_ret ?_
  exact fin0 (.inr rfl) rfl pB2 sb ⟨{ m := { code := code, sub := u, words := w }, w := ⟨Ax3, nx3, kx3⟩ }, r3, s3, e4, A3, n3, k3, by simp only [lineS, hc1, hc2, hc3, hlx, if_pos hu, hc4], hn3, rfl, rfl, rfl⟩
 ·
  have hu : ¬ u.toNat ≠ 0 := by simp at h0; omega
  have hr1 := r1.length
  refine GC_skip ?_
  refine GC_seq ?_
  refine GC_region ?_
  refine GL_v rfl (rv_mv (v := .pointer _) vw) ?_
  refine GL_callD rfl cb76 (Left_k B n1 k1 A1 r1 s1 e2) rfl pB sR ?_
  refine GL_row A1 fun hrx => ?_
  have hlx : r1.length = n1 := by have := hrx.1; simpa [bytesV] using this
  refine GL_v rfl (rv_as (v := .int .i64 _) vw) ?_
  refine GL_nil ?_
  refine GC_seq ?_
  refine GC_region ?_
  refine GL_v rfl (rv_mv (v := .pointer _) vw) ?_
  refine GL_v rfl (rv_mv (v := .int .i64 _) vw) ?_
  refine GL_v rfl (rv_rem (r := (r1.length : Int) % 2) vw vw (fun _ => by decide) (fun _ => Int.tmod_eq_emod_of_nonneg (by omega))) ?_
  refine GL_v rfl (rv_eql vw vw) ?_
  refine GL_v rfl (rv_mv (v := .bool _) vw) ?_
  refine GL_g rfl rfl gvt (rv_mv (v := .int .i64 _) vw) ?_
  refine GL_g rfl rfl gvt (rv_geq vwg vw) ?_
  refine GL_v rfl (rv_and vw vwg) ?_
  refine GL_v rfl (rv_mv (v := .bool _) vw) ?_
  refine GL_g rfl rfl gvt (rv_mv (v := .int .i64 _) vw) ?_
  refine GL_g rfl rfl gvt (rv_leq vwg vw) ?_
  refine GL_v rfl (rv_and vw vwg) ?_
  refine GL_call rfl cb133 (Need_k B n1 k1 A1 r1 s1 e2 (evenB r1.length 250) 5) rfl pB .nil ?_
  rintro _ _ _ ⟨e6, hc6, rfl, rfl, rfl⟩
  simp only [List.cons_append, List.nil_append]
  refine GL_nil ?_
  refine GC_region ?_
  refine GL_v rfl (rv_mv (v := .pointer _) vw) ?_
  refine GL_v rfl (rv_mv (v := .pointer _) vw) ?_
  refine GL_v rfl (rv_mv (v := .int .i64 _) vw) ?_
  refine GL_v rfl (rv_quo (r := (r1.length : Int) / 2) vw vw (fun _ => by decide) (fun _ => by rw [Int.tdiv_eq_ediv_of_nonneg (by omega)]; exact IntWalk.i64_in _ (by omega))) ?_
  refine GL_call rfl cb132 (Words_k B n1 k1 A1 r1 s1 e6 ((r1.length : Int) / 2) hn1) rfl pB sR ?_
  rintro _ _ _ ⟨w, r7, s7, e7, A7, n7, k7, Ax7, nx7, kx7, hc7, hn7, rfl, rfl, rfl⟩
  simp only [List.cons_append, List.nil_append]
  refine GL_v rfl (rv_nil vw) ?_
  refine GL_v rfl (rv_fa fa30_12 vw) ?_
  refine GL_st (u := .slice Ax7 nx7 kx7) rfl rfl c25 rfl ?_
  refine GL_shift .nil (msgWords { code := code, sub := u, words := w } ⟨Ax7, nx7, kx7⟩) ?_
  refine GL_nil ?_
  exact fin0 (.inl rfl) rfl pB2 sb ⟨{ m := { code := code, sub := u, words := w }, w := ⟨Ax7, nx7, kx7⟩ }, r7, s7, e7, A7, n7, k7, by simp only [lineS, hc1, hc2, hc6, hc7, if_neg hu], hn7, rfl, rfl, rfl⟩
theorem answer_ct (B B2 n k : Nat) (A : Option Addr) (r : List UInt8) (s : Bool) (e : Int) (code : UInt8) (hn : n ≤ 35184372088832) : Ct PG 165 [.pointer (some ⟨B, 0, none⟩), .pointer (some ⟨B2, 0, none⟩)] [cub B A n k s e, mub B2 { m := { code := code } }] [row 1 A n k (bytesV r)] (FormOut B B2 (answerS { code := code } ⟨r, s, e⟩)) := by
 refine Ct_of Tryz.func165 rfl 84 rfl (Nat.le_of_ble_eq_true rfl) fun w0 M N => ?_
 have e00 : MsgX.cells { m := { code := code } } = [b8 code, .int .u8 0, .int .u16 0, .int .u16 0, .int .u16 0, .int .u16 0, .int .u16 0, .int .u16 0, .int .u16 0, .int .u16 0, .int .u16 0, .int .u16 0, .slice none 0 0, .slice none 0 0, .slice none 0 0, .slice none 0 0, .int .u8 0, .int .u8 0, .int .u8 0, .int .u8 0, .int .u8 0, .slice none 0 0] := rfl
 unfold mub; rw [e00]
 obtain ⟨p, hp⟩ : ∃ p, answerS { code := code } ⟨r, s, e⟩ = p := ⟨_, rfl⟩
 rw [hp]
 simp only [answerS] at hp
 refine GC_seq ?_
 refine GC_region ?_
 refine GL_v rfl (rv_mv (v := .pointer _) vw) ?_
 refine GL_v rfl (rv_nil vw) ?_
 refine GL_v rfl (rv_fa fa30_0 vw) ?_
 refine GL_v rfl (rv_ld (v := b8 code) Tryz.underlying5 rfl vw) ?_
 refine GL_nil ?_
 refine GC_block ?_
 refine GC_seq ?_
 refine GC_region ?_
 refine GL_v rfl (rv_eql vw vw) ?_
 refine GL_v rfl (rv_as (v := .bool _) vw) ?_
 refine GL_nil ?_
 refine GC_cond rfl (fun h0 => ?_) (fun h0 => ?_)
 ·
  have hu : code.toNat = 7 := by simp at h0; omega
  rw [if_pos hu] at hp
  refine GC_region ?_
  refine GL_v rfl (rv_mv (v := .pointer _) vw) ?_
  refine GL_v rfl (rv_mv (v := .pointer _) vw) ?_
  refine GL_call rfl cb74 (Byte_k B n k A r s e hn) rfl pB sR ?_
  rintro _ _ _ ⟨a, r1, s1, e1, A1, n1, k1, hc1, hn1, rfl, rfl, rfl⟩
  simp only [List.cons_append, List.nil_append]
  have ha := a.toNat_lt
  refine GL_v rfl (rv_cnv (r := ((UInt16.ofNat a.toNat).toNat : Int)) Tryz.underlying5 Tryz.underlying24 vw (fun _ => wrap16 _)) ?_
  refine GL_v rfl (rv_nil vw) ?_
  refine GL_v rfl (rv_fa fa30_4 vw) ?_
  refine GL_st (u := w16 (UInt16.ofNat a.toNat)) rfl rfl c24 rfl ?_
  refine GL_shift .nil (msg0 { code := code, value := UInt16.ofNat a.toNat }) ?_
  refine GL_nil ?_
  exact fin0 (.inl rfl) rfl pB2 sb ⟨{ m := { code := code, value := UInt16.ofNat a.toNat } }, r1, s1, e1, A1, n1, k1, by rw [← hp]; simp only [hc1], hn1, rfl, rfl, rfl⟩
 ·
  have hu : ¬ code.toNat = 7 := by simp at h0; omega
  rw [if_neg hu] at hp
  refine GC_seq ?_
  refine GC_region ?_
  refine GL_v rfl (rv_eql vw vw) ?_
  refine GL_v rfl (rv_as (v := .bool _) vw) ?_
  refine GL_nil ?_
  refine GC_cond rfl (fun h1 => ?_) (fun h1 => ?_)
  ·
   have hu2 : code.toNat = 11 := by simp at h1; omega
   rw [if_pos hu2] at hp
   refine GC_seq ?_
   refine GC_region ?_
   refine GL_v rfl (rv_mv (v := .pointer _) vw) ?_
   refine GL_v rfl (rv_mv (v := .pointer _) vw) ?_
   refine GL_call rfl cb207 (busy_ct B n k A r s e hn) rfl pB sR ?_
   rintro _ _ _ ⟨st, rb, sb', eb, Ab, nb, kb, hbu, hnb, rfl, rfl, rfl⟩
   simp only [List.cons_append, List.nil_append]
   refine GL_v rfl (rv_nil vw) ?_
   refine GL_v rfl (rv_fa fa30_9 vw) ?_
   refine GL_st (u := w16 st) rfl rfl c24 rfl ?_
   refine GL_nil ?_
   refine GC_region ?_
   refine GL_v rfl (rv_mv (v := .pointer _) vw) ?_
   refine GL_v rfl (rv_mv (v := .pointer _) vw) ?_
   refine GL_call rfl cb73 (Word_k B nb kb Ab rb sb' eb hnb) rfl pB sR ?_
   rintro _ _ _ ⟨ev1, r2, s2, e2, A2, n2, k2, hc2, hn2, rfl, rfl, rfl⟩
   simp only [List.cons_append, List.nil_append]
   refine GL_v rfl (rv_nil vw) ?_
   refine GL_v rfl (rv_fa fa30_10 vw) ?_
   refine GL_st (u := w16 ev1) rfl rfl c24 rfl ?_
   refine GL_shift .nil (msg0 { code := code, status := st, events := ev1 }) ?_
   refine GL_nil ?_
   exact fin0 (.inl rfl) rfl pB2 sb ⟨{ m := { code := code, status := st, events := ev1 } }, r2, s2, e2, A2, n2, k2, by rw [← hp]; simp only [hbu, hc2], hn2, rfl, rfl, rfl⟩
  ·
   have hu2 : ¬ code.toNat = 11 := by simp at h1; omega
   rw [if_neg hu2] at hp
   refine GC_seq ?_
   refine GC_region ?_
   refine GL_v rfl (rv_eql vw vw) ?_
   refine GL_v rfl (rv_as (v := .bool _) vw) ?_
   refine GL_nil ?_
   refine GC_cond rfl (fun h2 => ?_) (fun h2 => ?_)
   ·
    have hu3 : code.toNat = 12 := by simp at h2; omega
    rw [if_pos hu3] at hp
    refine GC_seq ?_
    refine GC_region ?_
    refine GL_v rfl (rv_mv (v := .pointer _) vw) ?_
    refine GL_call rfl cb74 (Byte_k B n k A r s e hn) rfl pB sR ?_
    rintro _ _ _ ⟨a, r3, s3, e3, A3, n3, k3, hc3, hn3, rfl, rfl, rfl⟩
    simp only [List.cons_append, List.nil_append]
    have ha := a.toNat_lt
    refine GL_v rfl (rv_cnv (r := (a.toNat : Int)) Tryz.underlying5 Tryz.underlying3 vw (fun _ => IntWalk.i64_in _ (by omega))) ?_
    refine GL_v rfl (rv_as (v := .int .i64 _) vw) ?_
    refine GL_nil ?_
    refine GC_seq ?_
    refine GC_region ?_
    refine GL_v rfl (rv_mv (v := .pointer _) vw) ?_
    refine GL_v rfl (rv_mv (v := .int .i64 _) vw) ?_
    refine GL_v rfl (rv_geq vw vw) ?_
    refine GL_v rfl (rv_mv (v := .bool _) vw) ?_
    refine GL_g rfl rfl gvt (rv_mv (v := .int .i64 _) vw) ?_
    refine GL_g rfl rfl gvt (rv_leq vwg vw) ?_
    refine GL_v rfl (rv_and vw vwg) ?_
    refine GL_call rfl cb133 (Need_k B n3 k3 A3 r3 s3 e3 (decide ((6 : Int) ≤ a.toNat) && decide ((a.toNat : Int) ≤ 70)) 5) rfl pB .nil ?_
    rintro _ _ _ ⟨e4, hc4, rfl, rfl, rfl⟩
    simp only [List.cons_append, List.nil_append]
    refine GL_nil ?_
    refine GC_seq ?_
    refine GC_region ?_
    refine GL_v rfl (rv_mv (v := .pointer _) vw) ?_
    refine GL_v rfl (rv_mv (v := .pointer _) vw) ?_
    refine GL_call rfl cb207 (busy_ct B n3 k3 A3 r3 s3 e4 hn3) rfl pB sR ?_
    rintro _ _ _ ⟨st, rb, sb', eb, Ab, nb, kb, hbu, hnb, rfl, rfl, rfl⟩
    simp only [List.cons_append, List.nil_append]
    refine GL_v rfl (rv_nil vw) ?_
    refine GL_v rfl (rv_fa fa30_9 vw) ?_
    refine GL_st (u := w16 st) rfl rfl c24 rfl ?_
    refine GL_nil ?_
    refine GC_seq ?_
    refine GC_region ?_
    refine GL_v rfl (rv_mv (v := .pointer _) vw) ?_
    refine GL_v rfl (rv_mv (v := .pointer _) vw) ?_
    refine GL_v rfl (rv_mv (v := .pointer _) vw) ?_
    refine GL_call rfl cb73 (Word_k B nb kb Ab rb sb' eb hnb) rfl pB sR ?_
    rintro _ _ _ ⟨ev1, r5, s5, e5, A5, n5, k5, hc5, hn5, rfl, rfl, rfl⟩
    simp only [List.cons_append, List.nil_append]
    refine GL_v rfl (rv_mv (v := .pointer _) vw) ?_
    refine GL_call rfl cb73 (Word_k B n5 k5 A5 r5 s5 e5 hn5) rfl pB sR ?_
    rintro _ _ _ ⟨ms, r6, s6, e6, A6, n6, k6, hc6, hn6, rfl, rfl, rfl⟩
    simp only [List.cons_append, List.nil_append]
    refine GL_v rfl (rv_nil vw) ?_
    refine GL_v rfl (rv_fa fa30_10 vw) ?_
    refine GL_st (u := w16 ev1) rfl rfl c24 rfl ?_
    refine GL_v rfl (rv_nil vw) ?_
    refine GL_v rfl (rv_fa fa30_11 vw) ?_
    refine GL_st (u := w16 ms) rfl rfl c24 rfl ?_
    refine GL_nil ?_
    refine GC_region ?_
    refine GL_v rfl (rv_mv (v := .pointer _) vw) ?_
    refine GL_v rfl (rv_mv (v := .pointer _) vw) ?_
    refine GL_v rfl (rv_mv (v := .int .i64 _) vw) ?_
    refine GL_v rfl (rv_sub (r := (a.toNat : Int) - 6) vw vw (fun _ => IntWalk.i64_in _ (by omega))) ?_
    refine GL_call rfl cb75 (Bytes_k B n6 k6 A6 r6 s6 e6 ((a.toNat : Int) - 6) hn6) rfl pB sR ?_
    rintro _ _ _ ⟨v, r7, s7, e7, A7, n7, k7, Ax7, nx7, kx7, hc7, hn7, hnx7, rfl, rfl, rfl⟩
    simp only [List.cons_append, List.nil_append]
    refine GL_v rfl (rv_nil vw) ?_
    refine GL_v rfl (rv_fa fa30_14 vw) ?_
    refine GL_st (u := .slice Ax7 nx7 kx7) rfl rfl c22 rfl ?_
    refine GL_shift .nil (msgData { code := code, status := st, events := ev1, messages := ms, data := v } ⟨Ax7, nx7, kx7⟩) ?_
    refine GL_nil ?_
    exact fin0 (.inl rfl) rfl pB2 sb ⟨{ m := { code := code, status := st, events := ev1, messages := ms, data := v }, d := ⟨Ax7, nx7, kx7⟩ }, r7, s7, e7, A7, n7, k7, by rw [← hp]; simp only [hbu, hc3, hc4, hc5, hc6, hc7], hn7, rfl, rfl, rfl⟩
   ·
    have hu3 : ¬ code.toNat = 12 := by simp at h2; omega
    rw [if_neg hu3] at hp
    refine GC_seq ?_
    refine GC_region ?_
    refine GL_v rfl (rv_eql vw vw) ?_
    refine GL_v rfl (rv_as (v := .bool _) vw) ?_
    refine GL_nil ?_
    refine GC_cond rfl (fun h3 => ?_) (fun h3 => ?_)
    ·
     have hu4 : code.toNat = 17 := by simp at h3; omega
     rw [if_pos hu4] at hp
     refine GC_seq ?_
     refine GC_region ?_
     refine GL_v rfl (rv_mv (v := .pointer _) vw) ?_
     refine GL_call rfl cb74 (Byte_k B n k A r s e hn) rfl pB sR ?_
     rintro _ _ _ ⟨a, r8, s8, e8, A8, n8, k8, hc8, hn8, rfl, rfl, rfl⟩
     simp only [List.cons_append, List.nil_append]
     have ha := a.toNat_lt
     refine GL_v rfl (rv_cnv (r := (a.toNat : Int)) Tryz.underlying5 Tryz.underlying3 vw (fun _ => IntWalk.i64_in _ (by omega))) ?_
     refine GL_v rfl (rv_as (v := .int .i64 _) vw) ?_
     refine GL_nil ?_
     refine GC_seq ?_
     refine GC_region ?_
     refine GL_v rfl (rv_mv (v := .pointer _) vw) ?_
     refine GL_v rfl (rv_mv (v := .int .i64 _) vw) ?_
     refine GL_v rfl (rv_geq vw vw) ?_
     refine GL_v rfl (rv_mv (v := .bool _) vw) ?_
     refine GL_g rfl rfl gvt (rv_mv (v := .int .i64 _) vw) ?_
     refine GL_g rfl rfl gvt (rv_leq vwg vw) ?_
     refine GL_v rfl (rv_and vw vwg) ?_
     refine GL_call rfl cb133 (Need_k B n8 k8 A8 r8 s8 e8 (decide ((1 : Int) ≤ a.toNat) && decide ((a.toNat : Int) ≤ 251)) 5) rfl pB .nil ?_
     rintro _ _ _ ⟨e9, hc9, rfl, rfl, rfl⟩
     simp only [List.cons_append, List.nil_append]
     refine GL_nil ?_
     refine GC_region ?_
     refine GL_v rfl (rv_mv (v := .pointer _) vw) ?_
     refine GL_v rfl (rv_mv (v := .pointer _) vw) ?_
     refine GL_v rfl (rv_mv (v := .int .i64 _) vw) ?_
     refine GL_call rfl cb75 (Bytes_k B n8 k8 A8 r8 s8 e9 a.toNat hn8) rfl pB sR ?_
     rintro _ _ _ ⟨v, r10, s10, e10, A10, n10, k10, Ax10, nx10, kx10, hc10, hn10, hnx10, rfl, rfl, rfl⟩
     simp only [List.cons_append, List.nil_append]
     refine GL_v rfl (rv_nil vw) ?_
     refine GL_v rfl (rv_fa fa30_14 vw) ?_
     refine GL_st (u := .slice Ax10 nx10 kx10) rfl rfl c22 rfl ?_
     refine GL_shift .nil (msgData { code := code, data := v } ⟨Ax10, nx10, kx10⟩) ?_
     refine GL_nil ?_
     exact fin0 (.inl rfl) rfl pB2 sb ⟨{ m := { code := code, data := v }, d := ⟨Ax10, nx10, kx10⟩ }, r10, s10, e10, A10, n10, k10, by rw [← hp]; simp only [hc8, hc9, hc10], hn10, rfl, rfl, rfl⟩
    ·
     have hu4 : ¬ code.toNat = 17 := by simp at h3; omega
     rw [if_neg hu4] at hp
     refine GC_shift .nil (msg0 { code := code }) ?_
     refine GC_skip ?_
     exact fin0 (.inl rfl) rfl pB2 sb ⟨{ m := { code := code } }, r, s, e, A, n, k, hp.symm, hn, rfl, rfl, rfl⟩
theorem P10_ct (dir : Int) (code : UInt8) (A : Option Addr) (n k : Nat) (b : List UInt8) (hn : n ≤ 35184372088832) : Ct PG 102 [.int .i64 dir, b8 code, .slice A n k] [] [row 1 A n k (bytesV b)] (MsgOut (P10 dir code b)) := by
 refine Ct_of Tryz.func102 rfl 47 rfl (Nat.le_of_ble_eq_true rfl) fun w0 M N => ?_
 obtain ⟨p, hp⟩ : ∃ p, P10 dir code b = p := ⟨_, rfl⟩
 rw [hp]
 refine GC_seq ?_
 refine GC_region ?_
 refine GL_alloc rfl z30 (fun b6 => ?_)
 refine GL_v rfl (rv_as (v := .int .i64 _) vw) ?_
 refine GL_nil ?_
 refine GC_seq ?_
 refine GC_seq ?_
 refine GC_region ?_
 refine GL_v rfl (rv_mv (v := .int .i64 _) vw) ?_
 refine GL_v rfl (rv_neq vw vw) ?_
 refine GL_v rfl (rv_mv (v := .bool _) vw) ?_
 refine GL_g rfl rfl gvt (rv_mv (v := .int .i64 _) vw) ?_
 refine GL_g rfl rfl gvt (rv_neq vwg vw) ?_
 refine GL_v rfl (rv_and vw vwg) ?_
 refine GL_nil ?_
 refine GC_cond rfl (fun h0 => ?_) (fun h0 => ?_)
 ·
  have hd : dir ≠ 0 ∧ dir ≠ 1 := by simpa using h0
  have he : P10 dir code b = ({}, 1) := if_pos hd
  obtain rfl := hp.symm.trans he
  refine GC_seq ?_
  refine GC_region ?_
  refine GL_v rfl (rv_bld (z' := [.int .u8 0, .int .u8 0, .int .u16 0, .int .u16 0, .int .u16 0, .int .u16 0, .int .u16 0, .int .u16 0, .int .u16 0, .int .u16 0, .int .u16 0, .int .u16 0, .slice none 0 0, .slice none 0 0, .slice none 0 0, .slice none 0 0, .int .u8 0, .int .u8 0, .int .u8 0, .int .u8 0, .int .u8 0, .slice none 0 0]) z30 l30 (fun _ => rfl)) ?_
  refine GL_stA rfl rfl c30 (by simp [Value.oneCell']) (by rfl) ?_
  refine GL_v rfl (rv_as (v := .int .i64 _) vw) ?_
  refine GL_nil ?_
  refine GC_shift .nil (msg0 {}) ?_
  refine GC_ret ?_
  exact finA (T' := [msgR { m := {} }]) (.inr rfl) rfl rfl rfl inferInstance a30 rfl .nil sb ⟨{ m := {} }, rfl, rfl, rfl, rfl⟩
 ·
  have hd : ¬ (dir ≠ 0 ∧ dir ≠ 1) := by simpa using h0
  simp only [P10, parseBy, if_neg hd] at hp
  refine GC_skip ?_
  refine GC_seq ?_
  refine GC_region ?_
  refine GL_v rfl (rv_mv (v := b8 code) vw) ?_
  refine GL_v rfl (rv_bld (z' := [.int .u8 _, .int .u8 0, .int .u16 0, .int .u16 0, .int .u16 0, .int .u16 0, .int .u16 0, .int .u16 0, .int .u16 0, .int .u16 0, .int .u16 0, .int .u16 0, .slice none 0 0, .slice none 0 0, .slice none 0 0, .slice none 0 0, .int .u8 0, .int .u8 0, .int .u8 0, .int .u8 0, .int .u8 0, .slice none 0 0]) z30 l30 (fun _ => rfl)) ?_
  refine GL_alloc rfl z30 (fun bb8 => ?_)
  refine GL_stA (l' := MsgX.cells { m := { code := code } }) rfl rfl c30 (MsgX.cells_one _) (by rfl) ?_
  refine GL_nil ?_
  refine GC_seq ?_
  refine GC_region ?_
  refine GL_v rfl (rv_mv (v := .slice _ _ _) vw) ?_
  refine GL_call rfl cb72 (New_k A n _ b hn) rfl .nil sR ?_
  rintro _ _ _ ⟨B, A1, n1, k1, hn1, rfl, rfl, rfl⟩
  simp only [List.cons_append, List.nil_append]
  refine GL_v rfl (rv_as (v := .pointer _) vw) ?_
  refine GL_nil ?_
  refine GC_seq ?_
  refine GC_seq ?_
  refine GC_region ?_
  refine GL_v rfl (rv_mv (v := b8 code) vw) ?_
  refine GL_nil ?_
  refine GC_block ?_
  refine GC_seq ?_
  refine GC_region ?_
  refine GL_v rfl (rv_eql vw vw) ?_
  refine GL_v rfl (rv_as (v := .bool _) vw) ?_
  refine GL_nil ?_
  refine GC_cond rfl (fun h1 => ?_) (fun h1 => ?_)
  ·
   have c8 : code.toNat = 8 := by have := h1; simp at this; omega
   rw [show form10 dir code = some (lineS dir) from if_pos c8] at hp
   simp only at hp
   refine GC_region ?_
   refine GL_v rfl (rv_mv (v := .int .i64 _) vw) ?_
   refine GL_v rfl (rv_mv (v := .pointer _) vw) ?_
   refine GL_call rfl cb164 (line_ct dir B bb8 n1 k1 A1 b false 0 code hn1) rfl (pB2 (B := B) (B2 := bb8)) sR ?_
   rintro _ _ _ ⟨x, r, s, e, A9, n9, k9, hx, hn9, rfl, rfl, rfl⟩
   simp only [List.cons_append, List.nil_append]
   rw [hx] at hp
   refine GL_nil ?_
   refine GC_seq ?_
   refine GC_region ?_
   refine GL_v rfl (rv_mv (v := .pointer _) vw) ?_
   refine GL_call rfl cb159 (End_k B n9 k9 A9 r s e) rfl pB sR ?_
   rintro _ _ _ ⟨e2, hc2, rfl, rfl, rfl⟩
   simp only [List.cons_append, List.nil_append]
   have hfin := hc2
   refine GL_nil ?_
   refine GC_seq ?_
   refine GC_seq ?_
   refine GC_region ?_
   refine GL_v rfl (rv_mv (v := .pointer _) vw) ?_
   refine GL_callD rfl cb160 (Err_ct B n9 k9 A9 s e2) rfl pB .nil ?_
   refine GL_v rfl (rv_as (v := .int .i64 _) vw) ?_
   refine GL_nil ?_
   refine GC_seq ?_
   refine GC_region ?_
   refine GL_v rfl (rv_mv (v := .int .i64 _) vw) ?_
   refine GL_v rfl (rv_neq vw vw) ?_
   refine GL_nil ?_
   refine GC_cond rfl (fun h2 => ?_) (fun h2 => ?_)
   ·
    have he : ¬ e2 = 0 := by have := h2; simpa using this
    rw [finish_no hfin he] at hp
    obtain rfl := hp
    refine GC_seq ?_
    refine GC_region ?_
    refine GL_v rfl (rv_bld (z' := [.int .u8 0, .int .u8 0, .int .u16 0, .int .u16 0, .int .u16 0, .int .u16 0, .int .u16 0, .int .u16 0, .int .u16 0, .int .u16 0, .int .u16 0, .int .u16 0, .slice none 0 0, .slice none 0 0, .slice none 0 0, .slice none 0 0, .int .u8 0, .int .u8 0, .int .u8 0, .int .u8 0, .int .u8 0, .slice none 0 0]) z30 l30 (fun _ => rfl)) ?_
    refine GL_v rfl (rv_mv (v := .int .i64 _) vw) ?_
    refine GL_stA rfl rfl c30 (by simp [Value.oneCell']) (by rfl) ?_
    refine GL_v rfl (rv_as (v := .int .i64 _) vw) ?_
    refine GL_nil ?_
    refine GC_shift .nil (msg0 {}) ?_
    refine GC_ret ?_
    exact finA (T' := [msgR { m := {} }]) (.inr rfl) rfl rfl rfl inferInstance a30 rfl .nil sb ⟨{ m := {} }, rfl, rfl, rfl, rfl⟩
   ·
    have he : e2 = 0 := by have := h2; simpa using this
    rw [finish_ok hfin he] at hp
    obtain rfl := hp
    refine GC_skip ?_
    refine GC_seq ?_
    refine GC_region ?_
    refine GL_v rfl (rv_ldA a30 vw rfl) ?_
    refine GL_stA (l' := MsgX.cells x) rfl rfl c30 (MsgX.cells_one _) (by rfl) ?_
    refine GL_v rfl (rv_as (v := .int .i64 _) vw) ?_
    refine GL_nil ?_
    refine GC_ret ?_
    exact finA (T' := [msgR x]) (.inr rfl) rfl rfl rfl inferInstance a30 rfl .nil sb ⟨x, rfl, rfl, rfl, rfl⟩
  ·
   have c8 : ¬ code.toNat = 8 := by have := h1; simp at this; omega
   refine GC_seq ?_
   refine GC_seq ?_
   refine GC_region ?_
   refine GL_v rfl (rv_eql vw vw) ?_
   refine GL_v rfl (rv_as (v := .bool _) vw) ?_
   refine GL_nil ?_
   refine GC_cond rfl (fun h3 => ?_) (fun h3 => ?_)
   ·
    have cc : code.toNat = 7 ∨ code.toNat = 11 ∨ code.toNat = 12 ∨ code.toNat = 17 := by simp at h3; omega
    refine GC_skip ?_
    refine GC_yes (congrArg Value.bool h3) ?_
    refine GC_seq ?_
    refine GC_region ?_
    refine GL_v rfl (rv_mv (v := .int .i64 _) vw) ?_
    refine GL_v rfl (rv_eql vw vw) ?_
    refine GL_nil ?_
    refine GC_cond rfl (fun h5 => ?_) (fun h5 => ?_)
    ·
     have hd1 : dir = 1 := by have := h5; simpa using this
     rw [show form10 dir code = some answerS by unfold form10; rw [if_neg c8, if_pos cc, if_pos hd1]] at hp
     simp only at hp
     refine GC_region ?_
     refine GL_v rfl (rv_mv (v := .pointer _) vw) ?_
     refine GL_call rfl cb165 (answer_ct B bb8 n1 k1 A1 b false 0 code hn1) rfl (pB2 (B := B) (B2 := bb8)) sR ?_
     rintro _ _ _ ⟨x, r, s, e, A9, n9, k9, hx, hn9, rfl, rfl, rfl⟩
     simp only [List.cons_append, List.nil_append]
     rw [hx] at hp
     refine GL_nil ?_
     refine GC_seq ?_
     refine GC_region ?_
     refine GL_v rfl (rv_mv (v := .pointer _) vw) ?_
     refine GL_call rfl cb159 (End_k B n9 k9 A9 r s e) rfl pB sR ?_
     rintro _ _ _ ⟨e4, hc4, rfl, rfl, rfl⟩
     simp only [List.cons_append, List.nil_append]
     have hfin := hc4
     refine GL_nil ?_
     refine GC_seq ?_
     refine GC_seq ?_
     refine GC_region ?_
     refine GL_v rfl (rv_mv (v := .pointer _) vw) ?_
     refine GL_callD rfl cb160 (Err_ct B n9 k9 A9 s e4) rfl pB .nil ?_
     refine GL_v rfl (rv_as (v := .int .i64 _) vw) ?_
     refine GL_nil ?_
     refine GC_seq ?_
     refine GC_region ?_
     refine GL_v rfl (rv_mv (v := .int .i64 _) vw) ?_
     refine GL_v rfl (rv_neq vw vw) ?_
     refine GL_nil ?_
     refine GC_cond rfl (fun h6 => ?_) (fun h6 => ?_)
     ·
      have he : ¬ e4 = 0 := by have := h6; simpa using this
      rw [finish_no hfin he] at hp
      obtain rfl := hp
      refine GC_seq ?_
      refine GC_region ?_
      refine GL_v rfl (rv_bld (z' := [.int .u8 0, .int .u8 0, .int .u16 0, .int .u16 0, .int .u16 0, .int .u16 0, .int .u16 0, .int .u16 0, .int .u16 0, .int .u16 0, .int .u16 0, .int .u16 0, .slice none 0 0, .slice none 0 0, .slice none 0 0, .slice none 0 0, .int .u8 0, .int .u8 0, .int .u8 0, .int .u8 0, .int .u8 0, .slice none 0 0]) z30 l30 (fun _ => rfl)) ?_
      refine GL_v rfl (rv_mv (v := .int .i64 _) vw) ?_
      refine GL_stA rfl rfl c30 (by simp [Value.oneCell']) (by rfl) ?_
      refine GL_v rfl (rv_as (v := .int .i64 _) vw) ?_
      refine GL_nil ?_
      refine GC_shift .nil (msg0 {}) ?_
      refine GC_ret ?_
      exact finA (T' := [msgR { m := {} }]) (.inr rfl) rfl rfl rfl inferInstance a30 rfl .nil sb ⟨{ m := {} }, rfl, rfl, rfl, rfl⟩
     ·
      have he : e4 = 0 := by have := h6; simpa using this
      rw [finish_ok hfin he] at hp
      obtain rfl := hp
      refine GC_skip ?_
      refine GC_seq ?_
      refine GC_region ?_
      refine GL_v rfl (rv_ldA a30 vw rfl) ?_
      refine GL_stA (l' := MsgX.cells x) rfl rfl c30 (MsgX.cells_one _) (by rfl) ?_
      refine GL_v rfl (rv_as (v := .int .i64 _) vw) ?_
      refine GL_nil ?_
      refine GC_ret ?_
      exact finA (T' := [msgR x]) (.inr rfl) rfl rfl rfl inferInstance a30 rfl .nil sb ⟨x, rfl, rfl, rfl, rfl⟩
    ·
     have hd1 : ¬ dir = 1 := by have := h5; simpa using this
     rw [show form10 dir code = some Prod.mk by unfold form10; rw [if_neg c8, if_pos cc, if_neg hd1]] at hp
     simp only at hp
     refine GC_shift .nil (msg0 { code := code }) ?_
     refine GC_skip ?_
     refine GC_seq ?_
     refine GC_region ?_
     refine GL_v rfl (rv_mv (v := .pointer _) vw) ?_
     refine GL_call rfl cb159 (End_k B n1 k1 A1 b false 0) rfl pB sR ?_
     rintro _ _ _ ⟨e6, hc6, rfl, rfl, rfl⟩
     simp only [List.cons_append, List.nil_append]
     have hfin := hc6
     refine GL_nil ?_
     refine GC_seq ?_
     refine GC_seq ?_
     refine GC_region ?_
     refine GL_v rfl (rv_mv (v := .pointer _) vw) ?_
     refine GL_callD rfl cb160 (Err_ct B n1 k1 A1 false e6) rfl pB .nil ?_
     refine GL_v rfl (rv_as (v := .int .i64 _) vw) ?_
     refine GL_nil ?_
     refine GC_seq ?_
     refine GC_region ?_
     refine GL_v rfl (rv_mv (v := .int .i64 _) vw) ?_
     refine GL_v rfl (rv_neq vw vw) ?_
     refine GL_nil ?_
     refine GC_cond rfl (fun h7 => ?_) (fun h7 => ?_)
     ·
      have he : ¬ e6 = 0 := by have := h7; simpa using this
      rw [finish_no hfin he] at hp
      obtain rfl := hp
      refine GC_seq ?_
      refine GC_region ?_
      refine GL_v rfl (rv_bld (z' := [.int .u8 0, .int .u8 0, .int .u16 0, .int .u16 0, .int .u16 0, .int .u16 0, .int .u16 0, .int .u16 0, .int .u16 0, .int .u16 0, .int .u16 0, .int .u16 0, .slice none 0 0, .slice none 0 0, .slice none 0 0, .slice none 0 0, .int .u8 0, .int .u8 0, .int .u8 0, .int .u8 0, .int .u8 0, .slice none 0 0]) z30 l30 (fun _ => rfl)) ?_
      refine GL_v rfl (rv_mv (v := .int .i64 _) vw) ?_
      refine GL_stA rfl rfl c30 (by simp [Value.oneCell']) (by rfl) ?_
      refine GL_v rfl (rv_as (v := .int .i64 _) vw) ?_
      refine GL_nil ?_
      refine GC_shift .nil (msg0 {}) ?_
      refine GC_ret ?_
      exact finA (T' := [msgR { m := {} }]) (.inr rfl) rfl rfl rfl inferInstance a30 rfl .nil sb ⟨{ m := {} }, rfl, rfl, rfl, rfl⟩
     ·
      have he : e6 = 0 := by have := h7; simpa using this
      rw [finish_ok hfin he] at hp
      obtain rfl := hp
      refine GC_skip ?_
      refine GC_seq ?_
      refine GC_region ?_
      refine GL_v rfl (rv_ldA a30 vw rfl) ?_
      refine GL_stA (l' := MsgX.cells ({ m := { code := code } } : MsgX)) rfl rfl c30 (MsgX.cells_one _) (by rfl) ?_
      refine GL_v rfl (rv_as (v := .int .i64 _) vw) ?_
      refine GL_nil ?_
      refine GC_ret ?_
      exact finA (T' := [msgR ({ m := { code := code } } : MsgX)]) (.inr rfl) rfl rfl rfl inferInstance a30 rfl .nil sb ⟨({ m := { code := code } } : MsgX), rfl, rfl, rfl, rfl⟩
   ·
    refine GC_seq ?_
    refine GC_region ?_
    refine GL_v rfl (rv_eql vw vw) ?_
    refine GL_v rfl (rv_as (v := .bool _) vw) ?_
    refine GL_nil ?_
    refine GC_cond rfl (fun h8 => ?_) (fun h8 => ?_)
    ·
     have cc : code.toNat = 7 ∨ code.toNat = 11 ∨ code.toNat = 12 ∨ code.toNat = 17 := by simp at h8; omega
     refine GC_skip ?_
     refine GC_yes (congrArg Value.bool h8) ?_
     refine GC_seq ?_
     refine GC_region ?_
     refine GL_v rfl (rv_mv (v := .int .i64 _) vw) ?_
     refine GL_v rfl (rv_eql vw vw) ?_
     refine GL_nil ?_
     refine GC_cond rfl (fun h10 => ?_) (fun h10 => ?_)
     ·
      have hd1 : dir = 1 := by have := h10; simpa using this
      rw [show form10 dir code = some answerS by unfold form10; rw [if_neg c8, if_pos cc, if_pos hd1]] at hp
      simp only at hp
      refine GC_region ?_
      refine GL_v rfl (rv_mv (v := .pointer _) vw) ?_
      refine GL_call rfl cb165 (answer_ct B bb8 n1 k1 A1 b false 0 code hn1) rfl (pB2 (B := B) (B2 := bb8)) sR ?_
      rintro _ _ _ ⟨x, r, s, e, A9, n9, k9, hx, hn9, rfl, rfl, rfl⟩
      simp only [List.cons_append, List.nil_append]
      rw [hx] at hp
      refine GL_nil ?_
      refine GC_seq ?_
      refine GC_region ?_
      refine GL_v rfl (rv_mv (v := .pointer _) vw) ?_
      refine GL_call rfl cb159 (End_k B n9 k9 A9 r s e) rfl pB sR ?_
      rintro _ _ _ ⟨e8, hc8, rfl, rfl, rfl⟩
      simp only [List.cons_append, List.nil_append]
      have hfin := hc8
      refine GL_nil ?_
      refine GC_seq ?_
      refine GC_seq ?_
      refine GC_region ?_
      refine GL_v rfl (rv_mv (v := .pointer _) vw) ?_
      refine GL_callD rfl cb160 (Err_ct B n9 k9 A9 s e8) rfl pB .nil ?_
      refine GL_v rfl (rv_as (v := .int .i64 _) vw) ?_
      refine GL_nil ?_
      refine GC_seq ?_
      refine GC_region ?_
      refine GL_v rfl (rv_mv (v := .int .i64 _) vw) ?_
      refine GL_v rfl (rv_neq vw vw) ?_
      refine GL_nil ?_
      refine GC_cond rfl (fun h11 => ?_) (fun h11 => ?_)
      ·
       have he : ¬ e8 = 0 := by have := h11; simpa using this
       rw [finish_no hfin he] at hp
       obtain rfl := hp
       refine GC_seq ?_
       refine GC_region ?_
       refine GL_v rfl (rv_bld (z' := [.int .u8 0, .int .u8 0, .int .u16 0, .int .u16 0, .int .u16 0, .int .u16 0, .int .u16 0, .int .u16 0, .int .u16 0, .int .u16 0, .int .u16 0, .int .u16 0, .slice none 0 0, .slice none 0 0, .slice none 0 0, .slice none 0 0, .int .u8 0, .int .u8 0, .int .u8 0, .int .u8 0, .int .u8 0, .slice none 0 0]) z30 l30 (fun _ => rfl)) ?_
       refine GL_v rfl (rv_mv (v := .int .i64 _) vw) ?_
       refine GL_stA rfl rfl c30 (by simp [Value.oneCell']) (by rfl) ?_
       refine GL_v rfl (rv_as (v := .int .i64 _) vw) ?_
       refine GL_nil ?_
       refine GC_shift .nil (msg0 {}) ?_
       refine GC_ret ?_
       exact finA (T' := [msgR { m := {} }]) (.inr rfl) rfl rfl rfl inferInstance a30 rfl .nil sb ⟨{ m := {} }, rfl, rfl, rfl, rfl⟩
      ·
       have he : e8 = 0 := by have := h11; simpa using this
       rw [finish_ok hfin he] at hp
       obtain rfl := hp
       refine GC_skip ?_
       refine GC_seq ?_
       refine GC_region ?_
       refine GL_v rfl (rv_ldA a30 vw rfl) ?_
       refine GL_stA (l' := MsgX.cells x) rfl rfl c30 (MsgX.cells_one _) (by rfl) ?_
       refine GL_v rfl (rv_as (v := .int .i64 _) vw) ?_
       refine GL_nil ?_
       refine GC_ret ?_
       exact finA (T' := [msgR x]) (.inr rfl) rfl rfl rfl inferInstance a30 rfl .nil sb ⟨x, rfl, rfl, rfl, rfl⟩
     ·
      have hd1 : ¬ dir = 1 := by have := h10; simpa using this
      rw [show form10 dir code = some Prod.mk by unfold form10; rw [if_neg c8, if_pos cc, if_neg hd1]] at hp
      simp only at hp
      refine GC_shift .nil (msg0 { code := code }) ?_
      refine GC_skip ?_
      refine GC_seq ?_
      refine GC_region ?_
      refine GL_v rfl (rv_mv (v := .pointer _) vw) ?_
      refine GL_call rfl cb159 (End_k B n1 k1 A1 b false 0) rfl pB sR ?_
      rintro _ _ _ ⟨e10, hc10, rfl, rfl, rfl⟩
      simp only [List.cons_append, List.nil_append]
      have hfin := hc10
      refine GL_nil ?_
      refine GC_seq ?_
      refine GC_seq ?_
      refine GC_region ?_
      refine GL_v rfl (rv_mv (v := .pointer _) vw) ?_
      refine GL_callD rfl cb160 (Err_ct B n1 k1 A1 false e10) rfl pB .nil ?_
      refine GL_v rfl (rv_as (v := .int .i64 _) vw) ?_
      refine GL_nil ?_
      refine GC_seq ?_
      refine GC_region ?_
      refine GL_v rfl (rv_mv (v := .int .i64 _) vw) ?_
      refine GL_v rfl (rv_neq vw vw) ?_
      refine GL_nil ?_
      refine GC_cond rfl (fun h12 => ?_) (fun h12 => ?_)
      ·
       have he : ¬ e10 = 0 := by have := h12; simpa using this
       rw [finish_no hfin he] at hp
       obtain rfl := hp
       refine GC_seq ?_
       refine GC_region ?_
       refine GL_v rfl (rv_bld (z' := [.int .u8 0, .int .u8 0, .int .u16 0, .int .u16 0, .int .u16 0, .int .u16 0, .int .u16 0, .int .u16 0, .int .u16 0, .int .u16 0, .int .u16 0, .int .u16 0, .slice none 0 0, .slice none 0 0, .slice none 0 0, .slice none 0 0, .int .u8 0, .int .u8 0, .int .u8 0, .int .u8 0, .int .u8 0, .slice none 0 0]) z30 l30 (fun _ => rfl)) ?_
       refine GL_v rfl (rv_mv (v := .int .i64 _) vw) ?_
       refine GL_stA rfl rfl c30 (by simp [Value.oneCell']) (by rfl) ?_
       refine GL_v rfl (rv_as (v := .int .i64 _) vw) ?_
       refine GL_nil ?_
       refine GC_shift .nil (msg0 {}) ?_
       refine GC_ret ?_
       exact finA (T' := [msgR { m := {} }]) (.inr rfl) rfl rfl rfl inferInstance a30 rfl .nil sb ⟨{ m := {} }, rfl, rfl, rfl, rfl⟩
      ·
       have he : e10 = 0 := by have := h12; simpa using this
       rw [finish_ok hfin he] at hp
       obtain rfl := hp
       refine GC_skip ?_
       refine GC_seq ?_
       refine GC_region ?_
       refine GL_v rfl (rv_ldA a30 vw rfl) ?_
       refine GL_stA (l' := MsgX.cells ({ m := { code := code } } : MsgX)) rfl rfl c30 (MsgX.cells_one _) (by rfl) ?_
       refine GL_v rfl (rv_as (v := .int .i64 _) vw) ?_
       refine GL_nil ?_
       refine GC_ret ?_
       exact finA (T' := [msgR ({ m := { code := code } } : MsgX)]) (.inr rfl) rfl rfl rfl inferInstance a30 rfl .nil sb ⟨({ m := { code := code } } : MsgX), rfl, rfl, rfl, rfl⟩
    ·
     refine GC_seq ?_
     refine GC_region ?_
     refine GL_v rfl (rv_eql vw vw) ?_
     refine GL_v rfl (rv_as (v := .bool _) vw) ?_
     refine GL_nil ?_
     refine GC_cond rfl (fun h13 => ?_) (fun h13 => ?_)
     ·
      have cc : code.toNat = 7 ∨ code.toNat = 11 ∨ code.toNat = 12 ∨ code.toNat = 17 := by simp at h13; omega
      refine GC_skip ?_
      refine GC_yes (congrArg Value.bool h13) ?_
      refine GC_seq ?_
      refine GC_region ?_
      refine GL_v rfl (rv_mv (v := .int .i64 _) vw) ?_
      refine GL_v rfl (rv_eql vw vw) ?_
      refine GL_nil ?_
      refine GC_cond rfl (fun h15 => ?_) (fun h15 => ?_)
      ·
       have hd1 : dir = 1 := by have := h15; simpa using this
       rw [show form10 dir code = some answerS by unfold form10; rw [if_neg c8, if_pos cc, if_pos hd1]] at hp
       simp only at hp
       refine GC_region ?_
       refine GL_v rfl (rv_mv (v := .pointer _) vw) ?_
       refine GL_call rfl cb165 (answer_ct B bb8 n1 k1 A1 b false 0 code hn1) rfl (pB2 (B := B) (B2 := bb8)) sR ?_
       rintro _ _ _ ⟨x, r, s, e, A9, n9, k9, hx, hn9, rfl, rfl, rfl⟩
       simp only [List.cons_append, List.nil_append]
       rw [hx] at hp
       refine GL_nil ?_
       refine GC_seq ?_
       refine GC_region ?_
       refine GL_v rfl (rv_mv (v := .pointer _) vw) ?_
       refine GL_call rfl cb159 (End_k B n9 k9 A9 r s e) rfl pB sR ?_
       rintro _ _ _ ⟨e12, hc12, rfl, rfl, rfl⟩
       simp only [List.cons_append, List.nil_append]
       have hfin := hc12
       refine GL_nil ?_
       refine GC_seq ?_
       refine GC_seq ?_
       refine GC_region ?_
       refine GL_v rfl (rv_mv (v := .pointer _) vw) ?_
       refine GL_callD rfl cb160 (Err_ct B n9 k9 A9 s e12) rfl pB .nil ?_
       refine GL_v rfl (rv_as (v := .int .i64 _) vw) ?_
       refine GL_nil ?_
       refine GC_seq ?_
       refine GC_region ?_
       refine GL_v rfl (rv_mv (v := .int .i64 _) vw) ?_
       refine GL_v rfl (rv_neq vw vw) ?_
       refine GL_nil ?_
       refine GC_cond rfl (fun h16 => ?_) (fun h16 => ?_)
       ·
        have he : ¬ e12 = 0 := by have := h16; simpa using this
        rw [finish_no hfin he] at hp
        obtain rfl := hp
        refine GC_seq ?_
        refine GC_region ?_
        refine GL_v rfl (rv_bld (z' := [.int .u8 0, .int .u8 0, .int .u16 0, .int .u16 0, .int .u16 0, .int .u16 0, .int .u16 0, .int .u16 0, .int .u16 0, .int .u16 0, .int .u16 0, .int .u16 0, .slice none 0 0, .slice none 0 0, .slice none 0 0, .slice none 0 0, .int .u8 0, .int .u8 0, .int .u8 0, .int .u8 0, .int .u8 0, .slice none 0 0]) z30 l30 (fun _ => rfl)) ?_
        refine GL_v rfl (rv_mv (v := .int .i64 _) vw) ?_
        refine GL_stA rfl rfl c30 (by simp [Value.oneCell']) (by rfl) ?_
        refine GL_v rfl (rv_as (v := .int .i64 _) vw) ?_
        refine GL_nil ?_
        refine GC_shift .nil (msg0 {}) ?_
        refine GC_ret ?_
        exact finA (T' := [msgR { m := {} }]) (.inr rfl) rfl rfl rfl inferInstance a30 rfl .nil sb ⟨{ m := {} }, rfl, rfl, rfl, rfl⟩
       ·
        have he : e12 = 0 := by have := h16; simpa using this
        rw [finish_ok hfin he] at hp
        obtain rfl := hp
        refine GC_skip ?_
        refine GC_seq ?_
        refine GC_region ?_
        refine GL_v rfl (rv_ldA a30 vw rfl) ?_
        refine GL_stA (l' := MsgX.cells x) rfl rfl c30 (MsgX.cells_one _) (by rfl) ?_
        refine GL_v rfl (rv_as (v := .int .i64 _) vw) ?_
        refine GL_nil ?_
        refine GC_ret ?_
        exact finA (T' := [msgR x]) (.inr rfl) rfl rfl rfl inferInstance a30 rfl .nil sb ⟨x, rfl, rfl, rfl, rfl⟩
      ·
       have hd1 : ¬ dir = 1 := by have := h15; simpa using this
       rw [show form10 dir code = some Prod.mk by unfold form10; rw [if_neg c8, if_pos cc, if_neg hd1]] at hp
       simp only at hp
       refine GC_shift .nil (msg0 { code := code }) ?_
       refine GC_skip ?_
       refine GC_seq ?_
       refine GC_region ?_
       refine GL_v rfl (rv_mv (v := .pointer _) vw) ?_
       refine GL_call rfl cb159 (End_k B n1 k1 A1 b false 0) rfl pB sR ?_
       rintro _ _ _ ⟨e14, hc14, rfl, rfl, rfl⟩
       simp only [List.cons_append, List.nil_append]
       have hfin := hc14
       refine GL_nil ?_
       refine GC_seq ?_
       refine GC_seq ?_
       refine GC_region ?_
       refine GL_v rfl (rv_mv (v := .pointer _) vw) ?_
       refine GL_callD rfl cb160 (Err_ct B n1 k1 A1 false e14) rfl pB .nil ?_
       refine GL_v rfl (rv_as (v := .int .i64 _) vw) ?_
       refine GL_nil ?_
       refine GC_seq ?_
       refine GC_region ?_
       refine GL_v rfl (rv_mv (v := .int .i64 _) vw) ?_
       refine GL_v rfl (rv_neq vw vw) ?_
       refine GL_nil ?_
       refine GC_cond rfl (fun h17 => ?_) (fun h17 => ?_)
       ·
        have he : ¬ e14 = 0 := by have := h17; simpa using this
        rw [finish_no hfin he] at hp
        obtain rfl := hp
        refine GC_seq ?_
        refine GC_region ?_
        refine GL_v rfl (rv_bld (z' := [.int .u8 0, .int .u8 0, .int .u16 0, .int .u16 0, .int .u16 0, .int .u16 0, .int .u16 0, .int .u16 0, .int .u16 0, .int .u16 0, .int .u16 0, .int .u16 0, .slice none 0 0, .slice none 0 0, .slice none 0 0, .slice none 0 0, .int .u8 0, .int .u8 0, .int .u8 0, .int .u8 0, .int .u8 0, .slice none 0 0]) z30 l30 (fun _ => rfl)) ?_
        refine GL_v rfl (rv_mv (v := .int .i64 _) vw) ?_
        refine GL_stA rfl rfl c30 (by simp [Value.oneCell']) (by rfl) ?_
        refine GL_v rfl (rv_as (v := .int .i64 _) vw) ?_
        refine GL_nil ?_
        refine GC_shift .nil (msg0 {}) ?_
        refine GC_ret ?_
        exact finA (T' := [msgR { m := {} }]) (.inr rfl) rfl rfl rfl inferInstance a30 rfl .nil sb ⟨{ m := {} }, rfl, rfl, rfl, rfl⟩
       ·
        have he : e14 = 0 := by have := h17; simpa using this
        rw [finish_ok hfin he] at hp
        obtain rfl := hp
        refine GC_skip ?_
        refine GC_seq ?_
        refine GC_region ?_
        refine GL_v rfl (rv_ldA a30 vw rfl) ?_
        refine GL_stA (l' := MsgX.cells ({ m := { code := code } } : MsgX)) rfl rfl c30 (MsgX.cells_one _) (by rfl) ?_
        refine GL_v rfl (rv_as (v := .int .i64 _) vw) ?_
        refine GL_nil ?_
        refine GC_ret ?_
        exact finA (T' := [msgR ({ m := { code := code } } : MsgX)]) (.inr rfl) rfl rfl rfl inferInstance a30 rfl .nil sb ⟨({ m := { code := code } } : MsgX), rfl, rfl, rfl, rfl⟩
     ·
      refine GC_region ?_
      refine GL_v rfl (rv_eql vw vw) ?_
      refine GL_v rfl (rv_as (v := .bool _) vw) ?_
      refine GL_nil ?_
      refine GC_cond rfl (fun h18 => ?_) (fun h18 => ?_)
      ·
       have cc : code.toNat = 7 ∨ code.toNat = 11 ∨ code.toNat = 12 ∨ code.toNat = 17 := by simp at h18; omega
       refine GC_seq ?_
       refine GC_region ?_
       refine GL_v rfl (rv_mv (v := .int .i64 _) vw) ?_
       refine GL_v rfl (rv_eql vw vw) ?_
       refine GL_nil ?_
       refine GC_cond rfl (fun h19 => ?_) (fun h19 => ?_)
       ·
        have hd1 : dir = 1 := by have := h19; simpa using this
        rw [show form10 dir code = some answerS by unfold form10; rw [if_neg c8, if_pos cc, if_pos hd1]] at hp
        simp only at hp
        refine GC_region ?_
        refine GL_v rfl (rv_mv (v := .pointer _) vw) ?_
        refine GL_call rfl cb165 (answer_ct B bb8 n1 k1 A1 b false 0 code hn1) rfl (pB2 (B := B) (B2 := bb8)) sR ?_
        rintro _ _ _ ⟨x, r, s, e, A9, n9, k9, hx, hn9, rfl, rfl, rfl⟩
        simp only [List.cons_append, List.nil_append]
        rw [hx] at hp
        refine GL_nil ?_
        refine GC_seq ?_
        refine GC_region ?_
        refine GL_v rfl (rv_mv (v := .pointer _) vw) ?_
        refine GL_call rfl cb159 (End_k B n9 k9 A9 r s e) rfl pB sR ?_
        rintro _ _ _ ⟨e16, hc16, rfl, rfl, rfl⟩
        simp only [List.cons_append, List.nil_append]
        have hfin := hc16
        refine GL_nil ?_
        refine GC_seq ?_
        refine GC_seq ?_
        refine GC_region ?_
        refine GL_v rfl (rv_mv (v := .pointer _) vw) ?_
        refine GL_callD rfl cb160 (Err_ct B n9 k9 A9 s e16) rfl pB .nil ?_
        refine GL_v rfl (rv_as (v := .int .i64 _) vw) ?_
        refine GL_nil ?_
        refine GC_seq ?_
        refine GC_region ?_
        refine GL_v rfl (rv_mv (v := .int .i64 _) vw) ?_
        refine GL_v rfl (rv_neq vw vw) ?_
        refine GL_nil ?_
        refine GC_cond rfl (fun h20 => ?_) (fun h20 => ?_)
        ·
         have he : ¬ e16 = 0 := by have := h20; simpa using this
         rw [finish_no hfin he] at hp
         obtain rfl := hp
         refine GC_seq ?_
         refine GC_region ?_
         refine GL_v rfl (rv_bld (z' := [.int .u8 0, .int .u8 0, .int .u16 0, .int .u16 0, .int .u16 0, .int .u16 0, .int .u16 0, .int .u16 0, .int .u16 0, .int .u16 0, .int .u16 0, .int .u16 0, .slice none 0 0, .slice none 0 0, .slice none 0 0, .slice none 0 0, .int .u8 0, .int .u8 0, .int .u8 0, .int .u8 0, .int .u8 0, .slice none 0 0]) z30 l30 (fun _ => rfl)) ?_
         refine GL_v rfl (rv_mv (v := .int .i64 _) vw) ?_
         refine GL_stA rfl rfl c30 (by simp [Value.oneCell']) (by rfl) ?_
         refine GL_v rfl (rv_as (v := .int .i64 _) vw) ?_
         refine GL_nil ?_
         refine GC_shift .nil (msg0 {}) ?_
         refine GC_ret ?_
         exact finA (T' := [msgR { m := {} }]) (.inr rfl) rfl rfl rfl inferInstance a30 rfl .nil sb ⟨{ m := {} }, rfl, rfl, rfl, rfl⟩
        ·
         have he : e16 = 0 := by have := h20; simpa using this
         rw [finish_ok hfin he] at hp
         obtain rfl := hp
         refine GC_skip ?_
         refine GC_seq ?_
         refine GC_region ?_
         refine GL_v rfl (rv_ldA a30 vw rfl) ?_
         refine GL_stA (l' := MsgX.cells x) rfl rfl c30 (MsgX.cells_one _) (by rfl) ?_
         refine GL_v rfl (rv_as (v := .int .i64 _) vw) ?_
         refine GL_nil ?_
         refine GC_ret ?_
         exact finA (T' := [msgR x]) (.inr rfl) rfl rfl rfl inferInstance a30 rfl .nil sb ⟨x, rfl, rfl, rfl, rfl⟩
       ·
        have hd1 : ¬ dir = 1 := by have := h19; simpa using this
        rw [show form10 dir code = some Prod.mk by unfold form10; rw [if_neg c8, if_pos cc, if_neg hd1]] at hp
        simp only at hp
        refine GC_shift .nil (msg0 { code := code }) ?_
        refine GC_skip ?_
        refine GC_seq ?_
        refine GC_region ?_
        refine GL_v rfl (rv_mv (v := .pointer _) vw) ?_
        refine GL_call rfl cb159 (End_k B n1 k1 A1 b false 0) rfl pB sR ?_
        rintro _ _ _ ⟨e18, hc18, rfl, rfl, rfl⟩
        simp only [List.cons_append, List.nil_append]
        have hfin := hc18
        refine GL_nil ?_
        refine GC_seq ?_
        refine GC_seq ?_
        refine GC_region ?_
        refine GL_v rfl (rv_mv (v := .pointer _) vw) ?_
        refine GL_callD rfl cb160 (Err_ct B n1 k1 A1 false e18) rfl pB .nil ?_
        refine GL_v rfl (rv_as (v := .int .i64 _) vw) ?_
        refine GL_nil ?_
        refine GC_seq ?_
        refine GC_region ?_
        refine GL_v rfl (rv_mv (v := .int .i64 _) vw) ?_
        refine GL_v rfl (rv_neq vw vw) ?_
        refine GL_nil ?_
        refine GC_cond rfl (fun h21 => ?_) (fun h21 => ?_)
        ·
         have he : ¬ e18 = 0 := by have := h21; simpa using this
         rw [finish_no hfin he] at hp
         obtain rfl := hp
         refine GC_seq ?_
         refine GC_region ?_
         refine GL_v rfl (rv_bld (z' := [.int .u8 0, .int .u8 0, .int .u16 0, .int .u16 0, .int .u16 0, .int .u16 0, .int .u16 0, .int .u16 0, .int .u16 0, .int .u16 0, .int .u16 0, .int .u16 0, .slice none 0 0, .slice none 0 0, .slice none 0 0, .slice none 0 0, .int .u8 0, .int .u8 0, .int .u8 0, .int .u8 0, .int .u8 0, .slice none 0 0]) z30 l30 (fun _ => rfl)) ?_
         refine GL_v rfl (rv_mv (v := .int .i64 _) vw) ?_
         refine GL_stA rfl rfl c30 (by simp [Value.oneCell']) (by rfl) ?_
         refine GL_v rfl (rv_as (v := .int .i64 _) vw) ?_
         refine GL_nil ?_
         refine GC_shift .nil (msg0 {}) ?_
         refine GC_ret ?_
         exact finA (T' := [msgR { m := {} }]) (.inr rfl) rfl rfl rfl inferInstance a30 rfl .nil sb ⟨{ m := {} }, rfl, rfl, rfl, rfl⟩
        ·
         have he : e18 = 0 := by have := h21; simpa using this
         rw [finish_ok hfin he] at hp
         obtain rfl := hp
         refine GC_skip ?_
         refine GC_seq ?_
         refine GC_region ?_
         refine GL_v rfl (rv_ldA a30 vw rfl) ?_
         refine GL_stA (l' := MsgX.cells ({ m := { code := code } } : MsgX)) rfl rfl c30 (MsgX.cells_one _) (by rfl) ?_
         refine GL_v rfl (rv_as (v := .int .i64 _) vw) ?_
         refine GL_nil ?_
         refine GC_ret ?_
         exact finA (T' := [msgR ({ m := { code := code } } : MsgX)]) (.inr rfl) rfl rfl rfl inferInstance a30 rfl .nil sb ⟨({ m := { code := code } } : MsgX), rfl, rfl, rfl, rfl⟩
      ·
       have cc : ¬ (code.toNat = 7 ∨ code.toNat = 11 ∨ code.toNat = 12 ∨ code.toNat = 17) := by simp at h3 h8 h13 h18; omega
       refine GC_seq ?_
       refine GC_region ?_
       refine GL_v rfl (rv_bld (z' := [.int .u8 0, .int .u8 0, .int .u16 0, .int .u16 0, .int .u16 0, .int .u16 0, .int .u16 0, .int .u16 0, .int .u16 0, .int .u16 0, .int .u16 0, .int .u16 0, .slice none 0 0, .slice none 0 0, .slice none 0 0, .slice none 0 0, .int .u8 0, .int .u8 0, .int .u8 0, .int .u8 0, .int .u8 0, .slice none 0 0]) z30 l30 (fun _ => rfl)) ?_
       refine GL_stA rfl rfl c30 (by simp [Value.oneCell']) (by rfl) ?_
       refine GL_v rfl (rv_as (v := .int .i64 _) vw) ?_
       refine GL_nil ?_
       rw [show form10 dir code = none by unfold form10; rw [if_neg c8, if_neg cc]] at hp
       obtain rfl := hp
       refine GC_shift .nil (msg0 {}) ?_
       refine GC_ret ?_
       exact finA (T' := [msgR { m := {} }]) (.inr rfl) rfl rfl rfl inferInstance a30 rfl .nil sb ⟨{ m := {} }, rfl, rfl, rfl, rfl⟩
theorem L10_ct (dir : Int) (x : MsgX) (hf : x.m.few) : Ct PG 166 [.int .i64 dir, .agg x.cells.toArray] [] [msgR x] (BytesO (L10 dir x.m)) := by
 refine Ct_of Tryz.func166 rfl 70 rfl (Nat.le_of_ble_eq_true rfl) fun w0 M N => ?_
 refine GC_msg x fun hx => ?_
 have hw := hx.words
 have hdata := hx.data
 obtain ⟨f1, f2, f3, f4, f5, f6, f7⟩ := hf
 obtain ⟨l, hl⟩ : ∃ l, L10 dir x.m = l := ⟨_, rfl⟩
 rw [hl]
 simp only [L10, hdata] at hl
 refine GC_shift .nil (msg_words (x := x)) ?_
 refine GC_shift .nil (msg_data (x := x)) ?_
 refine GC_seq ?_
 refine GC_region ?_
 refine GL_boxA (l := x.cells) rfl rfl (fun b3 => ?_)
 rw [x.cells_eq]
 refine GL_v rfl (rv_as (v := .slice _ _ _) vw) ?_
 refine GL_nil ?_
 refine GC_seq ?_
 refine GC_block ?_
 refine GC_seq ?_
 refine GC_region ?_
 refine GL_v rfl (rv_fa fa30_0 vw) ?_
 refine GL_v rfl (rv_ld Tryz.underlying5 rfl vw) ?_
 refine GL_v rfl (rv_eql vw vw) ?_
 refine GL_v rfl (rv_as (v := .bool _) vw) ?_
 refine GL_nil ?_
 refine GC_cond rfl (fun h0 => ?_) (fun h0 => ?_)
 ·
  have c0 : x.m.code.toNat = 8 := by have := h0; simp at this; omega
  rw [if_pos c0] at hl
  subst hl
  refine GC_seq ?_
  refine GC_draw 9 ([blk b3 [b8 x.m.code, b8 x.m.fail, w16 x.m.addr, w16 x.m.count, w16 x.m.value, w16 x.m.and, w16 x.m.or, w16 x.m.addr2, w16 x.m.sub, w16 x.m.status, w16 x.m.events, w16 x.m.messages, .slice x.w.A x.w.n x.w.k, .slice x.b.A x.b.n x.b.k, .slice x.d.A x.d.n x.d.k, .slice x.r.A x.r.n x.r.k, b8 x.m.mei, b8 x.m.kind, b8 x.m.level, b8 x.m.more, b8 x.m.next, .slice x.o.A x.o.n x.o.k] 30, row 1 x.w.A x.w.n x.w.k (wordsV x.m.words)]) mixed ?_
  refine GA_v (i := 0) rfl rfl rfl (by kernel_rfl) (rv_fa fa30_8 vw) ?_
  refine GA_v (i := 1) rfl rfl rfl (by kernel_rfl) (rv_ld Tryz.underlying24 rfl vw) ?_
  refine GA_v (i := 4) rfl rfl rfl (by kernel_rfl) (rv_fa fa30_12 vw) ?_
  refine GA_v (i := 5) rfl rfl rfl (by kernel_rfl) (rv_ld Tryz.underlying25 rfl vw) ?_
  refine GA_one 2 rfl rfl (by kernel_rfl) ?_
  refine GL_bs (l := wordsV [x.m.sub]) rfl el25 z24 rfl rfl rfl (fun b12 => ?_)
  refine GL_shift (.cons .here .nil) (blk_own (n := 1) (sz := 1) rfl (by decide)) ?_
  refine GL_shift (.cons .here .nil) own_toRow ?_
  refine GL_nil ⟨inferInstance, ?_⟩
  refine GA_one 3 rfl rfl (by kernel_rfl) ?_
  refine GL_call rfl cb77 (Put_ct _ 1 1 [x.m.sub] (by decide)) rfl .nil sb ?_
  rintro _ _ _ ⟨A3, k3, rfl, rfl, rfl⟩
  simp only [List.cons_append, List.nil_append]
  refine GL_nil ⟨inferInstance, ?_⟩
  refine GA_one 6 rfl rfl (by kernel_rfl) ?_
  refine GL_call rfl cb77 (Put_ct x.w.A x.w.n x.w.k x.m.words (by omega)) rfl .nil sR ?_
  rintro _ _ _ ⟨Aw, kw, rfl, rfl, rfl⟩
  simp only [List.cons_append, List.nil_append]
  refine GL_shift (.cons .here .nil) own_toRow ?_
  refine GL_nil ⟨inferInstance, ?_⟩
  refine GA_one 7 rfl rfl (by kernel_rfl) ?_
  refine GL_app (m := 2 * x.w.n) rfl el22 rfl rfl (pW (A := A3)) (by rw [bytesV_length, putW_length, hw, Nat.mul_one]) (bytesV_one _) (by omega) (by simp [maxLen]; omega) (fun A4 k4 => ?_)
  rw [← bytesV_append]
  refine GL_shift (.cons .here .nil) own_toRow ?_
  refine GL_nil ⟨inferInstance, ?_⟩
  refine GA_v (i := 8) rfl rfl rfl (by kernel_rfl) (rv_as (v := .slice _ _ _) vw) ?_
  refine GA_nil (by kernel_rfl) ?_
  refine GC_ret ?_
  exact fin1 (.inr rfl) rfl rfl .nil sb ⟨A4, _, k4, rfl, rfl, rfl⟩
 ·
  have c0 : ¬ x.m.code.toNat = 8 := by have := h0; simp at this; omega
  rw [if_neg c0] at hl
  refine GC_seq ?_
  refine GC_region ?_
  refine GL_v rfl (rv_mv (v := .int .i64 _) vw) ?_
  refine GL_v rfl (rv_eql vw vw) ?_
  refine GL_v rfl (rv_as (v := .bool _) vw) ?_
  refine GL_nil ?_
  refine GC_cond rfl (fun h1 => ?_) (fun h1 => ?_)
  ·
   have c1 : dir = 0 := by have := h1; simpa using this
   rw [if_pos c1] at hl
   subst hl
   refine GC_seq ?_
   refine GC_region ?_
   refine GL_v rfl (rv_as (v := .slice _ _ _) vw) ?_
   refine GL_nil ?_
   refine GC_shift .nil (nil_row (sz := 1)) ?_
   refine GC_ret ?_
   exact fin1 (T' := [row 1 none 0 0 []]) (.inr rfl) rfl rfl .nil sb ⟨none, 0, 0, rfl, rfl, rfl⟩
  ·
   have c1 : ¬ dir = 0 := by have := h1; simpa using this
   rw [if_neg c1] at hl
   refine GC_seq ?_
   refine GC_region ?_
   refine GL_v rfl (rv_fa fa30_0 vw) ?_
   refine GL_v rfl (rv_ld Tryz.underlying5 rfl vw) ?_
   refine GL_v rfl (rv_eql vw vw) ?_
   refine GL_v rfl (rv_as (v := .bool _) vw) ?_
   refine GL_nil ?_
   refine GC_cond rfl (fun h2 => ?_) (fun h2 => ?_)
   ·
    have c2 : x.m.code.toNat = 7 := by have := h2; simp at this; omega
    rw [if_pos c2] at hl
    subst hl
    refine GC_seq ?_
    refine GC_region ?_
    refine GL_v rfl (rv_fa fa30_4 vw) ?_
    refine GL_v rfl (rv_ld Tryz.underlying24 rfl vw) ?_
    refine GL_v rfl (rv_cnv (r := ((UInt8.ofNat x.m.value.toNat).toNat : Int)) Tryz.underlying24 Tryz.underlying5 vw (fun _ => wrap8 _)) ?_
    refine GL_bs (l := bytesV [UInt8.ofNat x.m.value.toNat]) rfl el22 z5 rfl rfl rfl (fun b28 => ?_)
    refine GL_shift (.cons .here .nil) (blk_own (n := 1) (sz := 1) rfl (by decide)) ?_
    refine GL_shift (.cons .here .nil) own_toRow ?_
    refine GL_v rfl (rv_as (v := .slice _ _ _) vw) ?_
    refine GL_nil ?_
    refine GC_ret ?_
    exact fin1 (.inr rfl) rfl rfl .nil sb ⟨_, 1, 1, rfl, rfl, rfl⟩
   ·
    have c2 : ¬ x.m.code.toNat = 7 := by have := h2; simp at this; omega
    rw [if_neg c2] at hl
    refine GC_seq ?_
    refine GC_region ?_
    refine GL_v rfl (rv_fa fa30_0 vw) ?_
    refine GL_v rfl (rv_ld Tryz.underlying5 rfl vw) ?_
    refine GL_v rfl (rv_eql vw vw) ?_
    refine GL_v rfl (rv_as (v := .bool _) vw) ?_
    refine GL_nil ?_
    refine GC_cond rfl (fun h3 => ?_) (fun h3 => ?_)
    ·
     have c3 : x.m.code.toNat = 11 := by have := h3; simp at this; omega
     rw [if_pos c3] at hl
     subst hl
     refine GC_seq ?_
     refine GC_region ?_
     refine GL_v rfl (rv_fa fa30_9 vw) ?_
     refine GL_v rfl (rv_ld Tryz.underlying24 rfl vw) ?_
     refine GL_v rfl (rv_fa fa30_10 vw) ?_
     refine GL_v rfl (rv_ld Tryz.underlying24 rfl vw) ?_
     refine GL_bs (l := wordsV [x.m.status, x.m.events]) rfl el25 z24 rfl rfl rfl (fun b37 => ?_)
     refine GL_shift (.cons .here .nil) (blk_own (n := 2) (sz := 1) rfl (by decide)) ?_
     refine GL_shift (.cons .here .nil) own_toRow ?_
     refine GL_call rfl cb77 (Put_ct _ 2 2 [x.m.status, x.m.events] (by decide)) rfl .nil sb ?_
     rintro _ _ _ ⟨A3, k3, rfl, rfl, rfl⟩
     simp only [List.cons_append, List.nil_append]
     refine GL_shift (.cons .here .nil) own_toRow ?_
     refine GL_v rfl (rv_as (v := .slice _ _ _) vw) ?_
     refine GL_nil ?_
     refine GC_ret ?_
     exact fin1 (.inr rfl) rfl rfl .nil sb ⟨A3, _, k3, rfl, rfl, rfl⟩
    ·
     have c3 : ¬ x.m.code.toNat = 11 := by have := h3; simp at this; omega
     rw [if_neg c3] at hl
     refine GC_seq ?_
     refine GC_region ?_
     refine GL_v rfl (rv_fa fa30_0 vw) ?_
     refine GL_v rfl (rv_ld Tryz.underlying5 rfl vw) ?_
     refine GL_v rfl (rv_eql vw vw) ?_
     refine GL_v rfl (rv_as (v := .bool _) vw) ?_
     refine GL_nil ?_
     refine GC_cond rfl (fun h4 => ?_) (fun h4 => ?_)
     ·
      have c4 : x.m.code.toNat = 12 := by have := h4; simp at this; omega
      rw [if_pos c4] at hl
      subst hl
      refine GC_seq ?_
      refine GC_draw 16 ([blk b3 [b8 x.m.code, b8 x.m.fail, w16 x.m.addr, w16 x.m.count, w16 x.m.value, w16 x.m.and, w16 x.m.or, w16 x.m.addr2, w16 x.m.sub, w16 x.m.status, w16 x.m.events, w16 x.m.messages, .slice x.w.A x.w.n x.w.k, .slice x.b.A x.b.n x.b.k, .slice x.d.A x.d.n x.d.k, .slice x.r.A x.r.n x.r.k, b8 x.m.mei, b8 x.m.kind, b8 x.m.level, b8 x.m.more, b8 x.m.next, .slice x.o.A x.o.n x.o.k] 30]) mixed ?_
      refine GA_v (i := 0) rfl rfl rfl (by kernel_rfl) (rv_fa fa30_14 vw) ?_
      refine GA_v (i := 1) rfl rfl rfl (by kernel_rfl) (rv_ld Tryz.underlying22 rfl vw) ?_
      refine GA_v (i := 2) rfl rfl rfl (by kernel_rfl) (rv_len el22 vw) ?_
      refine GA_v (i := 3) rfl rfl rfl (by kernel_rfl) (rv_add (r := ((6 + x.d.n : Nat) : Int)) vw vw (fun _ => by rw [IntWalk.i64_in _ (by omega)]; omega)) ?_
      refine GA_v (i := 4) rfl rfl rfl (by kernel_rfl) (rv_cnv (r := ((UInt8.ofNat (6 + x.d.n)).toNat : Int)) Tryz.underlying3 Tryz.underlying5 vw (fun _ => wrap8 _)) ?_
      refine GA_v (i := 6) rfl rfl rfl (by kernel_rfl) (rv_fa fa30_9 vw) ?_
      refine GA_v (i := 7) rfl rfl rfl (by kernel_rfl) (rv_ld Tryz.underlying24 rfl vw) ?_
      refine GA_v (i := 8) rfl rfl rfl (by kernel_rfl) (rv_fa fa30_10 vw) ?_
      refine GA_v (i := 9) rfl rfl rfl (by kernel_rfl) (rv_ld Tryz.underlying24 rfl vw) ?_
      refine GA_v (i := 10) rfl rfl rfl (by kernel_rfl) (rv_fa fa30_11 vw) ?_
      refine GA_v (i := 11) rfl rfl rfl (by kernel_rfl) (rv_ld Tryz.underlying24 rfl vw) ?_
      refine GA_two 5 12 rfl rfl rfl rfl (by kernel_rfl) ?_ ?_
      ·
       refine GL_bs (l := bytesV [UInt8.ofNat (6 + x.d.n)]) rfl el22 z5 rfl rfl rfl (fun b48 => ?_)
       refine GL_shift (.cons .here .nil) (blk_own (n := 1) (sz := 1) rfl (by decide)) ?_
       refine GL_nil ⟨inferInstance, ?_⟩
       refine GA_one 12 rfl rfl (by kernel_rfl) ?_
       refine GL_bs (l := wordsV [x.m.status, x.m.events, x.m.messages]) rfl el25 z24 rfl rfl rfl (fun b55 => ?_)
       refine GL_shift (.cons .here .nil) (blk_own (n := 3) (sz := 1) rfl (by decide)) ?_
       refine GL_shift (.cons .here .nil) own_toRow ?_
       refine GL_nil ⟨inferInstance, ?_⟩
       refine GA_one 13 rfl rfl (by kernel_rfl) ?_
       refine GL_call rfl cb77 (Put_ct _ 3 3 [x.m.status, x.m.events, x.m.messages] (by decide)) rfl .nil sb ?_
       rintro _ _ _ ⟨A3, k3, rfl, rfl, rfl⟩
       simp only [List.cons_append, List.nil_append]
       refine GL_shift (pW (A := A3)) own_toRow ?_
       refine GL_nil ⟨inferInstance, ?_⟩
       refine GA_one 14 rfl rfl (by kernel_rfl) ?_
       refine GL_app (m := 2 * 3) rfl el22 rfl rfl (pW (A := some ⟨b48, 0, none⟩)) rfl (bytesV_one _) (by omega) (by simp [maxLen]) (fun A4 k4 => ?_)
       refine GL_nil ⟨inferInstance, ?_⟩
       refine GA_v (i := 15) rfl rfl rfl (by kernel_rfl) (rv_as (v := .slice _ _ _) vw) ?_
       refine GA_nil (by kernel_rfl) ?_
       refine GC_seq ?_
       refine GC_region ?_
       refine GL_v rfl (rv_mv (v := .slice _ _ _) vw) ?_
       refine GL_v rfl (rv_fa fa30_14 vw) ?_
       refine GL_v rfl (rv_ld Tryz.underlying22 rfl vw) ?_
       refine GL_app (m := x.d.n) rfl el22 rfl rfl pW (by rw [bytesV_length, hdata, Nat.mul_one]) (bytesV_one _) (by omega) (by simp [maxLen]; omega) (fun A5 k5 => ?_)
       rw [← bytesV_append, ← bytesV_append]
       refine GL_shift (pW (A := A5)) own_toRow ?_
       refine GL_v rfl (rv_as (v := .slice _ _ _) vw) ?_
       refine GL_nil ?_
       refine GC_ret ?_
       exact fin1 (T' := [row 1 A5 (1 + 2 * 3 + x.d.n) k5 (bytesV ([UInt8.ofNat (6 + x.d.n)] ++ putW [x.m.status, x.m.events, x.m.messages] ++ x.m.data))]) (.inr rfl) rfl rfl .nil sb ⟨A5, _, k5, rfl, rfl, rfl⟩
      ·
       refine GL_bs (l := wordsV [x.m.status, x.m.events, x.m.messages]) rfl el25 z24 rfl rfl rfl (fun b55 => ?_)
       refine GL_shift (.cons .here .nil) (blk_own (n := 3) (sz := 1) rfl (by decide)) ?_
       refine GL_shift (.cons .here .nil) own_toRow ?_
       refine GL_nil ⟨inferInstance, ?_⟩
       refine GA_two 5 13 rfl rfl rfl rfl (by kernel_rfl) ?_ ?_
       ·
        refine GL_bs (l := bytesV [UInt8.ofNat (6 + x.d.n)]) rfl el22 z5 rfl rfl rfl (fun b48 => ?_)
        refine GL_shift (.cons .here .nil) (blk_own (n := 1) (sz := 1) rfl (by decide)) ?_
        refine GL_nil ⟨inferInstance, ?_⟩
        refine GA_one 13 rfl rfl (by kernel_rfl) ?_
        refine GL_call rfl cb77 (Put_ct _ 3 3 [x.m.status, x.m.events, x.m.messages] (by decide)) rfl .nil sb ?_
        rintro _ _ _ ⟨A3, k3, rfl, rfl, rfl⟩
        simp only [List.cons_append, List.nil_append]
        refine GL_shift (pW (A := A3)) own_toRow ?_
        refine GL_nil ⟨inferInstance, ?_⟩
        refine GA_one 14 rfl rfl (by kernel_rfl) ?_
        refine GL_app (m := 2 * 3) rfl el22 rfl rfl (pW (A := some ⟨b48, 0, none⟩)) rfl (bytesV_one _) (by omega) (by simp [maxLen]) (fun A4 k4 => ?_)
        refine GL_nil ⟨inferInstance, ?_⟩
        refine GA_v (i := 15) rfl rfl rfl (by kernel_rfl) (rv_as (v := .slice _ _ _) vw) ?_
        refine GA_nil (by kernel_rfl) ?_
        refine GC_seq ?_
        refine GC_region ?_
        refine GL_v rfl (rv_mv (v := .slice _ _ _) vw) ?_
        refine GL_v rfl (rv_fa fa30_14 vw) ?_
        refine GL_v rfl (rv_ld Tryz.underlying22 rfl vw) ?_
        refine GL_app (m := x.d.n) rfl el22 rfl rfl pW (by rw [bytesV_length, hdata, Nat.mul_one]) (bytesV_one _) (by omega) (by simp [maxLen]; omega) (fun A5 k5 => ?_)
        rw [← bytesV_append, ← bytesV_append]
        refine GL_shift (pW (A := A5)) own_toRow ?_
        refine GL_v rfl (rv_as (v := .slice _ _ _) vw) ?_
        refine GL_nil ?_
        refine GC_ret ?_
        exact fin1 (T' := [row 1 A5 (1 + 2 * 3 + x.d.n) k5 (bytesV ([UInt8.ofNat (6 + x.d.n)] ++ putW [x.m.status, x.m.events, x.m.messages] ++ x.m.data))]) (.inr rfl) rfl rfl .nil sb ⟨A5, _, k5, rfl, rfl, rfl⟩
       ·
        refine GL_call rfl cb77 (Put_ct _ 3 3 [x.m.status, x.m.events, x.m.messages] (by decide)) rfl .nil sb ?_
        rintro _ _ _ ⟨A3, k3, rfl, rfl, rfl⟩
        simp only [List.cons_append, List.nil_append]
        refine GL_shift (pW (A := A3)) own_toRow ?_
        refine GL_nil ⟨inferInstance, ?_⟩
        refine GA_one 5 rfl rfl (by kernel_rfl) ?_
        refine GL_bs (l := bytesV [UInt8.ofNat (6 + x.d.n)]) rfl el22 z5 rfl rfl rfl (fun b48 => ?_)
        refine GL_shift (.cons .here .nil) (blk_own (n := 1) (sz := 1) rfl (by decide)) ?_
        refine GL_nil ⟨inferInstance, ?_⟩
        refine GA_one 14 rfl rfl (by kernel_rfl) ?_
        refine GL_app (m := 2 * 3) rfl el22 rfl rfl (pW (A := some ⟨b48, 0, none⟩)) rfl (bytesV_one _) (by omega) (by simp [maxLen]) (fun A4 k4 => ?_)
        refine GL_nil ⟨inferInstance, ?_⟩
        refine GA_v (i := 15) rfl rfl rfl (by kernel_rfl) (rv_as (v := .slice _ _ _) vw) ?_
        refine GA_nil (by kernel_rfl) ?_
        refine GC_seq ?_
        refine GC_region ?_
        refine GL_v rfl (rv_mv (v := .slice _ _ _) vw) ?_
        refine GL_v rfl (rv_fa fa30_14 vw) ?_
        refine GL_v rfl (rv_ld Tryz.underlying22 rfl vw) ?_
        refine GL_app (m := x.d.n) rfl el22 rfl rfl pW (by rw [bytesV_length, hdata, Nat.mul_one]) (bytesV_one _) (by omega) (by simp [maxLen]; omega) (fun A5 k5 => ?_)
        rw [← bytesV_append, ← bytesV_append]
        refine GL_shift (pW (A := A5)) own_toRow ?_
        refine GL_v rfl (rv_as (v := .slice _ _ _) vw) ?_
        refine GL_nil ?_
        refine GC_ret ?_
        exact fin1 (T' := [row 1 A5 (1 + 2 * 3 + x.d.n) k5 (bytesV ([UInt8.ofNat (6 + x.d.n)] ++ putW [x.m.status, x.m.events, x.m.messages] ++ x.m.data))]) (.inr rfl) rfl rfl .nil sb ⟨A5, _, k5, rfl, rfl, rfl⟩
     ·
      have c4 : ¬ x.m.code.toNat = 12 := by have := h4; simp at this; omega
      rw [if_neg c4] at hl
      subst hl
      refine GC_skip ?_
      refine GC_seq ?_
      refine GC_region ?_
      refine GL_v rfl (rv_fa fa30_14 vw) ?_
      refine GL_v rfl (rv_ld Tryz.underlying22 rfl vw) ?_
      refine GL_v rfl (rv_len el22 vw) ?_
      refine GL_v rfl (rv_cnv (r := ((UInt8.ofNat x.d.n).toNat : Int)) Tryz.underlying3 Tryz.underlying5 vw (fun _ => wrap8 _)) ?_
      refine GL_bs (l := bytesV [UInt8.ofNat x.d.n]) rfl el22 z5 rfl rfl rfl (fun b66 => ?_)
      refine GL_shift (.cons .here .nil) (blk_own (n := 1) (sz := 1) rfl (by decide)) ?_
      refine GL_v rfl (rv_fa fa30_14 vw) ?_
      refine GL_v rfl (rv_ld Tryz.underlying22 rfl vw) ?_
      refine GL_app (m := x.d.n) rfl el22 rfl rfl pW (by rw [bytesV_length, hdata, Nat.mul_one]) (bytesV_one _) (by omega) (by simp [maxLen]; omega) (fun A5 k5 => ?_)
      rw [← bytesV_append]
      refine GL_shift (.cons .here .nil) own_toRow ?_
      refine GL_v rfl (rv_as (v := .slice _ _ _) vw) ?_
      refine GL_nil ?_
      refine GC_ret ?_
      exact fin1 (T' := [row 1 A5 (1 + x.d.n) k5 (bytesV ([UInt8.ofNat x.d.n] ++ x.m.data))]) (.inr rfl) rfl rfl .nil sb ⟨A5, _, k5, rfl, rfl, rfl⟩
theorem W10_ct (dir : Int) (x : MsgX) (hf : x.m.few) : Ct PG 103 [.int .i64 dir, .agg x.cells.toArray] [] [msgR x] (BytesOut (W10 dir x.m)) := by
 refine Ct_of Tryz.func103 rfl 29 rfl (Nat.le_of_ble_eq_true rfl) fun w0 M N => ?_
 refine GC_seq ?_
 refine GC_region ?_
 refine GL_boxA (l := x.cells) rfl rfl (fun b3 => ?_)
 refine GL_v rfl (rv_as (v := .slice _ _ _) vw) ?_
 refine GL_v rfl (rv_as (v := .int .i64 _) vw) ?_
 refine GL_nil ?_
 refine GC_seq ?_
 refine GC_region ?_
 refine GL_v rfl (rv_mv (v := .int .i64 _) vw) ?_
 refine GL_v rfl (rv_ldA (l := x.cells) a30 vw rfl) ?_
 refine GL_call rfl cb166 (L10_ct dir x hf) rfl .nil sb ?_
 rintro _ _ _ ⟨A, n, k, rfl, rfl, rfl⟩
 simp only [List.cons_append, List.nil_append]
 refine GL_row A fun hr => ?_
 have hn : (L10 dir x.m).length = n := by have := hr.1; simpa [bytesV] using this
 have hlen := L10_len dir x.m hf
 refine GL_v rfl (rv_as (v := .slice _ _ _) vw) ?_
 refine GL_nil ?_
 refine GC_seq ?_
 refine GC_region ?_
 refine GL_v rfl (rv_mv (v := .int .i64 _) vw) ?_
 refine GL_v rfl (rv_fa fa30_0 vw) ?_
 rw [x.cells_eq]
 refine GL_v rfl (rv_ld (v := b8 x.m.code) Tryz.underlying5 rfl vw) ?_
 refine GL_v rfl (rv_mv (v := .slice _ _ _) vw) ?_
 refine GL_call rfl cb102 (P10_ct dir x.m.code A n k (L10 dir x.m) (by omega)) rfl .nil sb ?_
 rintro _ _ _ ⟨y, rfl, hy, rfl, rfl⟩
 simp only [List.cons_append, List.nil_append]
 obtain ⟨p, e, hp⟩ : ∃ p e, P10 dir x.m.code (L10 dir x.m) = (p, e) := ⟨_, _, rfl⟩
 rw [hp] at hy ⊢
 simp only at hy ⊢
 refine GL_v rfl (rv_mv (v := .tuple [.agg y.cells.toArray, .int .i64 e].toArray) vw) ?_
 refine GL_v rfl (rv_ext vw rfl) ?_
 refine GL_v rfl (rv_ext vw rfl) ?_
 refine GL_alloc rfl z30 (fun b7 => ?_)
 refine GL_stA (l' := y.cells) rfl rfl c30 (MsgX.cells_one _) (by rfl) ?_
 rw [← x.cells_eq]
 refine GL_v rfl (rv_as (v := .int .i64 _) vw) ?_
 refine GL_nil ?_
 refine GC_seq ?_
 refine GC_seq ?_
 refine GC_region ?_
 refine GL_v rfl (rv_mv (v := .int .i64 _) vw) ?_
 refine GL_v rfl (rv_neq vw vw) ?_
 refine GL_v rfl (rv_mv (v := .bool _) vw) ?_
 refine GL_g rfl rfl gvf (rv_ldA (l := y.cells) a30 vw rfl) ?_
 refine GL_g rfl rfl gvf (rv_ldA (l := x.cells) a30 vw rfl) ?_
 refine GL_callG rfl rfl gvf cb125 (fun _ => SameP_ct y x) (fun q => by show [gd _ _, gd _ _] = _; rw [vwg q, vwg q]) (fun _ => sb) ?_
 refine GL_g rfl rfl gvf (rv_not vwg) ?_
 refine GL_v rfl (rv_or vw vwg) ?_
 refine GL_nil ?_
 refine GC_cond rfl (fun h0 => ?_) (fun h0 => ?_)
 ·
  have hh : ¬ (e = 0 ∧ p = x.m) := by
   rintro ⟨rfl, rfl⟩
   rw [hy] at h0; simp at h0
  have he : W10 dir x.m = ([], 1) := by unfold W10 writeBy; rw [hp]; exact if_neg hh
  rw [he]
  refine GC_seq ?_
  refine GC_region ?_
  refine GL_v rfl (rv_as (v := .slice _ _ _) vw) ?_
  refine GL_v rfl (rv_as (v := .int .i64 _) vw) ?_
  refine GL_nil ?_
  refine GC_shift .nil (nil_row (sz := 1)) ?_
  refine GC_ret ?_
  exact fin2 (T' := [row 1 none 0 0 []]) (.inr rfl) rfl rfl rfl .nil sb ⟨none, 0, 0, rfl, rfl, rfl⟩
 ·
  have hh : e = 0 ∧ p = x.m := by
   rw [hy] at h0; simpa using h0
  have he : W10 dir x.m = (L10 dir x.m, 0) := by unfold W10 writeBy; rw [hp]; exact if_pos hh
  rw [he]
  refine GC_skip ?_
  refine GC_seq ?_
  refine GC_region ?_
  refine GL_v rfl (rv_mv (v := .slice _ _ _) vw) ?_
  refine GL_v rfl (rv_as (v := .slice _ _ _) vw) ?_
  refine GL_v rfl (rv_as (v := .int .i64 _) vw) ?_
  refine GL_nil ?_
  refine GC_ret ?_
  exact fin2 (.inr rfl) rfl rfl rfl .nil sb ⟨A, n, k, rfl, rfl, rfl⟩
end Go.Bus
