/- Part of the proof: Ref12. No condition. -/
import Derived.Test.YtlfjioigkojjdaaGreatUBRef10
import Derived.Test.YtlfjioigkojjdaaGreatUBMei
set_option linter.unusedVariables false
set_option linter.unusedSimpArgs false
set_option maxRecDepth 100000
set_option maxHeartbeats 8000000
namespace Go.Bus
open Go Go.Proofs
theorem need_eq {d : Cu} {ok ok' : Bool} {j : Int} (h : d.e = 0 → ok = ok') : d.need ok j = d.need ok' j := by
 by_cases he : d.e = 0
 · rw [h he]
 · show (⟨d.r, d.s, needE d.e ok j⟩ : Cu) = ⟨d.r, d.s, needE d.e ok' j⟩
   unfold needE; rw [if_neg (fun q => he q.1), if_neg (fun q => he q.1)]
theorem byte_e {c c' : Cu} {a : UInt8} (h : c.byte = (a, c')) (h0 : c'.e = 0) : c.e = 0 := by
 have h1 : (c.bytes 1).2 = c' := congrArg Prod.snd h
 rw [← h1] at h0
 unfold Cu.bytes at h0
 split at h0
 · exact (needE_ok (by decide) h0).1
 · exact h0
theorem need_ok0 {c c' : Cu} {ok : Bool} {j : Int} (h : c.need ok j = c') (hj : j ≠ 0) (h0 : c'.e = 0) : ok = true := by
 rw [← h] at h0; exact (needE_ok hj h0).2
theorem level_eq (lv : UInt8) : (decide ((1 : Int) ≤ (lv.toNat : Int) % 128) && decide ((lv.toNat : Int) % 128 ≤ 3)) = levelS lv := by
 have := lv.toNat_lt
 rw [Bool.eq_iff_iff]; unfold levelS; simp; omega
theorem kind_eq (kd : Int) : (decide (0 < kd) && decide (kd < 5)) = (decide (1 ≤ kd) && decide (kd ≤ 4)) := by
 rw [Bool.eq_iff_iff]; simp; omega
theorem rP12_ct (dir : Int) (code : UInt8) (A : Option Addr) (n k : Nat) (b : List UInt8) (hn : n ≤ 35184372088832) : Ct PG 62 [.int .i64 dir, b8 code, .slice A n k] [] [row 1 A n k (bytesV b)] (MsgOut (P12 dir code b)) := by
 refine Ct_of Tryz.func62 rfl 176 rfl (Nat.le_of_ble_eq_true rfl) fun w0 M N => ?_
 refine GC_row A fun hrow => ?_
 have hbl : b.length = n := by have := hrow.1; simpa [bytesV] using this
 obtain ⟨pp, hpp⟩ : ∃ pp, P12 dir code b = pp := ⟨_, rfl⟩
 rw [hpp]
 refine GC_seq ?_
 refine GC_region ?_
 refine GL_alloc rfl z30 (fun b6 => ?_)
 refine GL_v rfl (rv_as (v := .int .i64 _) vw) ?_
 refine GL_nil ?_
 refine GC_seq ?_
 refine GC_seq ?_
 refine GC_region ?_
 refine GL_v rfl (rv_mv (v := .int .i64 _) vw) ?_
 refine GL_v rfl (rv_neq vw vw) ?_
 refine GL_v rfl (rv_mv (v := .bool _) vw) ?_
 refine GL_g rfl rfl gvt (rv_mv (v := .int .i64 _) vw) ?_
 refine GL_g rfl rfl gvt (rv_neq vwg vw) ?_
 refine GL_v rfl (rv_and vw vwg) ?_
 refine GL_nil ?_
 refine GC_cond rfl (fun h0 => ?_) (fun h0 => ?_)
 ·
  have hd : dir ≠ 0 ∧ dir ≠ 1 := by have := h0; simpa using this
  have he : P12 dir code b = ({}, 1) := if_pos hd
  obtain rfl := hpp.symm.trans he
  refine GC_seq ?_
  refine GC_region ?_
  refine GL_v rfl (rv_bld (z' := [.int .u8 0, .int .u8 0, .int .u16 0, .int .u16 0, .int .u16 0, .int .u16 0, .int .u16 0, .int .u16 0, .int .u16 0, .int .u16 0, .int .u16 0, .int .u16 0, .slice none 0 0, .slice none 0 0, .slice none 0 0, .slice none 0 0, .int .u8 0, .int .u8 0, .int .u8 0, .int .u8 0, .int .u8 0, .slice none 0 0]) z30 l30 (fun _ => rfl)) ?_
  refine GL_stA rfl rfl c30 (by simp [Value.oneCell']) (by rfl) ?_
  refine GL_v rfl (rv_as (v := .int .i64 _) vw) ?_
  refine GL_nil ?_
  refine GC_shift .nil (msg0 {}) ?_
  refine GC_ret ?_
  exact finA (T' := [msgR { m := {} }]) (.inr rfl) rfl rfl rfl inferInstance a30 rfl .nil sb ⟨{ m := {} }, rfl, rfl, rfl, rfl⟩
 ·
  have hd : ¬ (dir ≠ 0 ∧ dir ≠ 1) := by have := h0; simpa using this
  simp only [P12, parseBy, if_neg hd] at hpp
  have hcode := code.toNat_lt
  refine GC_skip ?_
  refine GC_seq ?_
  refine GC_seq ?_
  refine GC_region ?_
  refine GL_v rfl (rv_mv (v := .int .u8 _) vw) ?_
  refine GL_v rfl (rv_neq vw vw) ?_
  refine GL_nil ?_
  refine GC_cond rfl (fun h1 => ?_) (fun h1 => ?_)
  ·
   have hc : ¬ code.toNat = 43 := by have := h1; simp at this; omega
   have hf : form12 dir code = none := if_neg hc
   simp only [hf] at hpp
   obtain rfl := hpp
   refine GC_seq ?_
   refine GC_region ?_
   refine GL_v rfl (rv_bld (z' := [.int .u8 0, .int .u8 0, .int .u16 0, .int .u16 0, .int .u16 0, .int .u16 0, .int .u16 0, .int .u16 0, .int .u16 0, .int .u16 0, .int .u16 0, .int .u16 0, .slice none 0 0, .slice none 0 0, .slice none 0 0, .slice none 0 0, .int .u8 0, .int .u8 0, .int .u8 0, .int .u8 0, .int .u8 0, .slice none 0 0]) z30 l30 (fun _ => rfl)) ?_
   refine GL_stA rfl rfl c30 (by simp [Value.oneCell']) (by rfl) ?_
   refine GL_v rfl (rv_as (v := .int .i64 _) vw) ?_
   refine GL_nil ?_
   refine GC_shift .nil (msg0 {}) ?_
   refine GC_ret ?_
   exact finA (T' := [msgR { m := {} }]) (.inr rfl) rfl rfl rfl inferInstance a30 rfl .nil sb ⟨{ m := {} }, rfl, rfl, rfl, rfl⟩
  ·
   have hc : code.toNat = 43 := by have := h1; simp at this; omega
   obtain rfl : code = 43 := u8_ext hc
   have hf : form12 dir 43 = some (meiS dir) := if_pos rfl
   simp only [hf] at hpp
   refine GC_skip ?_
   refine GC_seq ?_
   refine GC_region ?_
   refine GL_v rfl (rv_mv (v := .slice _ _ _) vw) ?_
   refine GL_v rfl (rv_bld (z' := [.slice _ _ _, .int .i64 0, .bool false, .int .i64 0]) z113 l113 (fun _ => rfl)) ?_
   refine GL_boxA rfl rfl (fun b29 => ?_)
   refine GL_v rfl (rv_as (v := .pointer _) vw) ?_
   refine GL_nil ?_
   refine GC_seq ?_
   refine GC_region ?_
   refine GL_v rfl (rv_bld (z' := [.int .u8 43, .int .u8 0, .int .u16 0, .int .u16 0, .int .u16 0, .int .u16 0, .int .u16 0, .int .u16 0, .int .u16 0, .int .u16 0, .int .u16 0, .int .u16 0, .slice none 0 0, .slice none 0 0, .slice none 0 0, .slice none 0 0, .int .u8 0, .int .u8 0, .int .u8 0, .int .u8 0, .int .u8 0, .slice none 0 0]) z30 l30 (fun _ => rfl)) ?_
   refine GL_alloc rfl z30 (fun b9 => ?_)
   refine GL_stA (l' := [.int .u8 43, .int .u8 0, .int .u16 0, .int .u16 0, .int .u16 0, .int .u16 0, .int .u16 0, .int .u16 0, .int .u16 0, .int .u16 0, .int .u16 0, .int .u16 0, .slice none 0 0, .slice none 0 0, .slice none 0 0, .slice none 0 0, .int .u8 0, .int .u8 0, .int .u8 0, .int .u8 0, .int .u8 0, .slice none 0 0]) rfl rfl c30 (by simp [Value.oneCell']) (by rfl) ?_
   refine GL_nil ?_
   refine GC_seq ?_
   refine GC_region ?_
   refine GL_v rfl (rv_mv (v := .pointer _) vw) ?_
   refine GL_call rfl cb111 (rByte_k b29 n k 0 A b false 0 ⟨Nat.zero_le _, hn⟩) rfl pB sR ?_
   rintro _ _ _ ⟨a, p1, s1, e1, hc1, hp1, rfl, rfl, rfl⟩
   simp only [List.cons_append, List.nil_append]
   have ha := a.toNat_lt
   refine GL_v rfl (rv_fa fa30_16 vw) ?_
   refine GL_st (u := b8 a) rfl rfl c5 rfl ?_
   refine GL_nil ?_
   refine GC_seq ?_
   refine GC_region ?_
   refine GL_v rfl (rv_mv (v := .pointer _) vw) ?_
   refine GL_v rfl (rv_fa fa30_16 vw) ?_
   refine GL_v rfl (rv_ld Tryz.underlying5 rfl vw) ?_
   refine GL_v rfl (rv_eql vw vw) ?_
   refine GL_v rfl (rv_mv (v := .bool _) vw) ?_
   refine GL_g rfl rfl gvf (rv_fa fa30_16 vw) ?_
   refine GL_g rfl rfl gvf (rv_ld Tryz.underlying5 rfl vwg) ?_
   refine GL_g rfl rfl gvf (rv_eql vwg vw) ?_
   refine GL_v rfl (rv_or vw vwg) ?_
   refine GL_call rfl cb112 (rNeed_k b29 n k p1 A b s1 e1 (decide ((a.toNat : Int) = 13) || decide ((a.toNat : Int) = 14)) 8) rfl pB .nil ?_
   rintro _ _ _ ⟨e2, hc2, rfl, rfl, rfl⟩
   simp only [List.cons_append, List.nil_append]
   refine GL_nil ?_
   refine GC_seq ?_
   refine GC_cutM (fun E S T => ∃ (x : MsgX) (p : Nat) (s : Bool) (e : Int), finish (x.m, ⟨b.drop p, s, e⟩) = pp ∧ (p ≤ n ∧ n ≤ 35184372088832) ∧ At E [(6, .pointer (some ⟨b6, 0, none⟩)), (8, .pointer (some ⟨b29, 0, none⟩)), (9, .pointer (some ⟨b9, 0, none⟩))] ∧ S = [rcub b29 A n k p s e, blk b9 x.cells 30, blk b6 (MsgX.cells { m := {} }) 30] ∧ T = [msgR x, row 1 A n k (bytesV b)]) ?_ ?_
   ·
    refine GC_block ?_
    refine GC_seq ?_
    refine GC_region ?_
    refine GL_v rfl (rv_fa fa30_16 vw) ?_
    refine GL_v rfl (rv_ld Tryz.underlying5 rfl vw) ?_
    refine GL_v rfl (rv_eql vw vw) ?_
    refine GL_v rfl (rv_as (v := .bool _) vw) ?_
    refine GL_nil ?_
    refine GC_cond rfl (fun h2 => ?_) (fun h2 => ?_)
    ·
     have ga : a.toNat = 13 := by have := h2; simp at this; omega
     have hrl : (b.drop p1).length ≤ n := by rw [List.length_drop]; omega
     refine GC_seq ?_
     refine GC_region ?_
     refine GL_v rfl (rv_mv (v := .pointer _) vw) ?_
     refine GL_callD rfl cb121 (rLeft_k b29 n k p1 A b s1 e2 hp1) rfl pB sR ?_
     refine GL_v rfl (rv_as (v := .int .i64 _) vw) ?_
     refine GL_nil ?_
     refine GC_seq ?_
     refine GC_region ?_
     refine GL_v rfl (rv_mv (v := .pointer _) vw) ?_
     refine GL_v rfl (rv_mv (v := .int .i64 _) vw) ?_
     refine GL_v rfl (rv_leq vw vw) ?_
     refine GL_call rfl cb112 (rNeed_k b29 n k p1 A b s1 e2 (decide (((b.drop p1).length : Int) ≤ 251)) 5) rfl pB .nil ?_
     rintro _ _ _ ⟨e4, hc4, rfl, rfl, rfl⟩
     simp only [List.cons_append, List.nil_append]
     refine GL_nil ?_
     refine GC_region ?_
     refine GL_v rfl (rv_mv (v := .pointer _) vw) ?_
     refine GL_v rfl (rv_mv (v := .int .i64 _) vw) ?_
     refine GL_call rfl cb113 (rBytes_k b29 n k p1 A b s1 e4 ((b.drop p1).length : Int) hp1) rfl pB sR ?_
     rintro _ _ _ ⟨v, p5, s5, e5, Ax5, nx5, kx5, hc5, hp5, hnx5, rfl, rfl, rfl⟩
     simp only [List.cons_append, List.nil_append]
     refine GL_shift .nil (msgData { code := 43, mei := a, data := v } ⟨Ax5, nx5, kx5⟩) ?_
     refine GL_v rfl (rv_fa fa30_14 vw) ?_
     refine GL_st (u := .slice _ _ _) rfl rfl c22 rfl ?_
     refine GL_nil ?_
     show Weak _ _ _ _
     exact weak pB3 sb ⟨{ m := { code := 43, mei := a, data := v }, d := ⟨Ax5, nx5, kx5⟩ }, p5, s5, e5, by rw [← hpp]; rw [show (⟨b, false, 0⟩ : Cu) = ⟨b.drop 0, false, 0⟩ from rfl]; unfold meiS; simp only [hc1, hc2, hc4, hc5]; rw [if_pos ga], hp5, ⟨rfl, rfl, rfl, trivial⟩, rfl, rfl⟩
    ·
     have ga : ¬ a.toNat = 13 := by have := h2; simp at this; omega
     refine GC_seq ?_
     refine GC_region ?_
     refine GL_v rfl (rv_mv (v := .int .i64 _) vw) ?_
     refine GL_v rfl (rv_eql vw vw) ?_
     refine GL_v rfl (rv_as (v := .bool _) vw) ?_
     refine GL_nil ?_
     refine GC_cond rfl (fun h3 => ?_) (fun h3 => ?_)
     ·
      have gd : ¬ dir = 1 := by have := h3; simp at this; omega
      refine GC_seq ?_
      refine GC_region ?_
      refine GL_v rfl (rv_mv (v := .pointer _) vw) ?_
      refine GL_call rfl cb111 (rByte_k b29 n k p1 A b s1 e2 hp1) rfl pB sR ?_
      rintro _ _ _ ⟨kd, p6, s6, e6, hc6, hp6, rfl, rfl, rfl⟩
      simp only [List.cons_append, List.nil_append]
      refine GL_v rfl (rv_fa fa30_17 vw) ?_
      refine GL_st (u := b8 kd) rfl rfl c5 rfl ?_
      refine GL_nil ?_
      refine GC_seq ?_
      refine GC_region ?_
      refine GL_v rfl (rv_mv (v := .pointer _) vw) ?_
      refine GL_v rfl (rv_fa fa30_17 vw) ?_
      refine GL_v rfl (rv_ld Tryz.underlying5 rfl vw) ?_
      refine GL_v rfl (rv_gtr vw vw) ?_
      refine GL_v rfl (rv_mv (v := .bool _) vw) ?_
      refine GL_g rfl rfl gvt (rv_fa fa30_17 vw) ?_
      refine GL_g rfl rfl gvt (rv_ld Tryz.underlying5 rfl vwg) ?_
      refine GL_g rfl rfl gvt (rv_lss vwg vw) ?_
      refine GL_v rfl (rv_and vw vwg) ?_
      refine GL_call rfl cb112 (rNeed_k b29 n k p6 A b s6 e6 (decide ((0 : Int) < kd.toNat) && decide ((kd.toNat : Int) < 5)) 6) rfl pB .nil ?_
      rintro _ _ _ ⟨e7, hc7, rfl, rfl, rfl⟩
      simp only [List.cons_append, List.nil_append]
      rw [kind_eq] at hc7
      refine GL_nil ?_
      refine GC_region ?_
      refine GL_v rfl (rv_mv (v := .pointer _) vw) ?_
      refine GL_call rfl cb111 (rByte_k b29 n k p6 A b s6 e7 hp6) rfl pB sR ?_
      rintro _ _ _ ⟨nx, p8, s8, e8, hc8, hp8, rfl, rfl, rfl⟩
      simp only [List.cons_append, List.nil_append]
      refine GL_v rfl (rv_fa fa30_20 vw) ?_
      refine GL_st (u := b8 nx) rfl rfl c5 rfl ?_
      refine GL_shift .nil (msg0 { code := 43, mei := a, kind := kd, next := nx }) ?_
      refine GL_nil ?_
      show Weak _ _ _ _
      exact weak pB3 sb ⟨{ m := { code := 43, mei := a, kind := kd, next := nx } }, p8, s8, e8, by rw [← hpp]; rw [show (⟨b, false, 0⟩ : Cu) = ⟨b.drop 0, false, 0⟩ from rfl]; unfold meiS; simp only [hc1, hc2, hc6, hc7, hc8]; rw [if_neg ga, if_neg gd], hp8, ⟨rfl, rfl, rfl, trivial⟩, rfl, rfl⟩
     ·
      have gd : dir = 1 := by have := h3; simp at this; omega
      refine GC_seq ?_
      refine GC_region ?_
      refine GL_v rfl (rv_mv (v := .pointer _) vw) ?_
      refine GL_call rfl cb111 (rByte_k b29 n k p1 A b s1 e2 hp1) rfl pB sR ?_
      rintro _ _ _ ⟨kd, p9, s9, e9, hc9, hp9, rfl, rfl, rfl⟩
      simp only [List.cons_append, List.nil_append]
      refine GL_v rfl (rv_fa fa30_17 vw) ?_
      refine GL_st (u := b8 kd) rfl rfl c5 rfl ?_
      refine GL_nil ?_
      refine GC_seq ?_
      refine GC_region ?_
      refine GL_v rfl (rv_mv (v := .pointer _) vw) ?_
      refine GL_v rfl (rv_fa fa30_17 vw) ?_
      refine GL_v rfl (rv_ld Tryz.underlying5 rfl vw) ?_
      refine GL_v rfl (rv_gtr vw vw) ?_
      refine GL_v rfl (rv_mv (v := .bool _) vw) ?_
      refine GL_g rfl rfl gvt (rv_fa fa30_17 vw) ?_
      refine GL_g rfl rfl gvt (rv_ld Tryz.underlying5 rfl vwg) ?_
      refine GL_g rfl rfl gvt (rv_lss vwg vw) ?_
      refine GL_v rfl (rv_and vw vwg) ?_
      refine GL_call rfl cb112 (rNeed_k b29 n k p9 A b s9 e9 (decide ((0 : Int) < kd.toNat) && decide ((kd.toNat : Int) < 5)) 6) rfl pB .nil ?_
      rintro _ _ _ ⟨e10, hc10, rfl, rfl, rfl⟩
      simp only [List.cons_append, List.nil_append]
      rw [kind_eq] at hc10
      refine GL_nil ?_
      refine GC_seq ?_
      refine GC_region ?_
      refine GL_v rfl (rv_mv (v := .pointer _) vw) ?_
      refine GL_call rfl cb111 (rByte_k b29 n k p9 A b s9 e10 hp9) rfl pB sR ?_
      rintro _ _ _ ⟨lv, p11, s11, e11, hc11, hp11, rfl, rfl, rfl⟩
      simp only [List.cons_append, List.nil_append]
      have hlv := lv.toNat_lt
      refine GL_v rfl (rv_fa fa30_18 vw) ?_
      refine GL_st (u := b8 lv) rfl rfl c5 rfl ?_
      refine GL_nil ?_
      refine GC_seq ?_
      refine GC_region ?_
      refine GL_v rfl (rv_fa fa30_18 vw) ?_
      refine GL_v rfl (rv_ld Tryz.underlying5 rfl vw) ?_
      refine GL_v rfl (rv_rem (r := (lv.toNat : Int) % 128) vw vw (fun _ => by decide) (fun _ => Int.tmod_eq_emod_of_nonneg (by omega))) ?_
      refine GL_v rfl (rv_as (v := .int .u8 _) vw) ?_
      refine GL_nil ?_
      refine GC_seq ?_
      refine GC_region ?_
      refine GL_v rfl (rv_mv (v := .pointer _) vw) ?_
      refine GL_v rfl (rv_mv (v := .int .u8 _) vw) ?_
      refine GL_v rfl (rv_geq vw vw) ?_
      refine GL_v rfl (rv_mv (v := .bool _) vw) ?_
      refine GL_g rfl rfl gvt (rv_mv (v := .int .u8 _) vw) ?_
      refine GL_g rfl rfl gvt (rv_leq vwg vw) ?_
      refine GL_v rfl (rv_and vw vwg) ?_
      refine GL_call rfl cb112 (rNeed_k b29 n k p11 A b s11 e11 (decide ((1 : Int) ≤ (lv.toNat : Int) % 128) && decide ((lv.toNat : Int) % 128 ≤ 3)) 6) rfl pB .nil ?_
      rintro _ _ _ ⟨e12, hc12, rfl, rfl, rfl⟩
      simp only [List.cons_append, List.nil_append]
      rw [level_eq] at hc12
      refine GL_nil ?_
      refine GC_seq ?_
      refine GC_region ?_
      refine GL_v rfl (rv_mv (v := .pointer _) vw) ?_
      refine GL_call rfl cb111 (rByte_k b29 n k p11 A b s11 e12 hp11) rfl pB sR ?_
      rintro _ _ _ ⟨mo, p13, s13, e13, hc13, hp13, rfl, rfl, rfl⟩
      simp only [List.cons_append, List.nil_append]
      refine GL_v rfl (rv_fa fa30_19 vw) ?_
      refine GL_st (u := b8 mo) rfl rfl c5 rfl ?_
      refine GL_nil ?_
      refine GC_seq ?_
      refine GC_region ?_
      refine GL_v rfl (rv_mv (v := .pointer _) vw) ?_
      refine GL_v rfl (rv_fa fa30_19 vw) ?_
      refine GL_v rfl (rv_ld Tryz.underlying5 rfl vw) ?_
      refine GL_v rfl (rv_eql vw vw) ?_
      refine GL_v rfl (rv_mv (v := .bool _) vw) ?_
      refine GL_g rfl rfl gvf (rv_fa fa30_19 vw) ?_
      refine GL_g rfl rfl gvf (rv_ld Tryz.underlying5 rfl vwg) ?_
      refine GL_g rfl rfl gvf (rv_eql vwg vw) ?_
      refine GL_v rfl (rv_or vw vwg) ?_
      refine GL_call rfl cb112 (rNeed_k b29 n k p13 A b s13 e13 (decide ((mo.toNat : Int) = 0) || decide ((mo.toNat : Int) = 255)) 6) rfl pB .nil ?_
      rintro _ _ _ ⟨e14, hc14, rfl, rfl, rfl⟩
      simp only [List.cons_append, List.nil_append]
      refine GL_nil ?_
      refine GC_seq ?_
      refine GC_region ?_
      refine GL_v rfl (rv_mv (v := .pointer _) vw) ?_
      refine GL_call rfl cb111 (rByte_k b29 n k p13 A b s13 e14 hp13) rfl pB sR ?_
      rintro _ _ _ ⟨nx, p15, s15, e15, hc15, hp15, rfl, rfl, rfl⟩
      simp only [List.cons_append, List.nil_append]
      refine GL_v rfl (rv_fa fa30_20 vw) ?_
      refine GL_st (u := b8 nx) rfl rfl c5 rfl ?_
      refine GL_nil ?_
      refine GC_seq ?_
      refine GC_region ?_
      refine GL_v rfl (rv_mv (v := .pointer _) vw) ?_
      refine GL_v rfl (rv_fa fa30_20 vw) ?_
      refine GL_v rfl (rv_ld Tryz.underlying5 rfl vw) ?_
      refine GL_v rfl (rv_eql vw vw) ?_
      refine GL_v rfl (rv_mv (v := .bool _) vw) ?_
      refine GL_g rfl rfl gvf (rv_fa fa30_19 vw) ?_
      refine GL_g rfl rfl gvf (rv_ld Tryz.underlying5 rfl vwg) ?_
      refine GL_g rfl rfl gvf (rv_eql vwg vw) ?_
      refine GL_v rfl (rv_or vw vwg) ?_
      refine GL_call rfl cb112 (rNeed_k b29 n k p15 A b s15 e15 (decide ((nx.toNat : Int) = 0) || decide ((mo.toNat : Int) = 255)) 6) rfl pB .nil ?_
      rintro _ _ _ ⟨e16, hc16, rfl, rfl, rfl⟩
      simp only [List.cons_append, List.nil_append]
      rw [need_eq (ok' := (!decide ((mo.toNat : Int) = 0)) || decide ((nx.toNat : Int) = 0)) (fun he => by
       have q := need_ok0 hc14 (by decide) (byte_e hc15 he)
       simp at q
       rw [Bool.eq_iff_iff]; simp; omega)] at hc16
      refine GL_nil ?_
      refine GC_seq ?_
      refine GC_region ?_
      refine GL_v rfl (rv_mv (v := .pointer _) vw) ?_
      refine GL_call rfl cb111 (rByte_k b29 n k p15 A b s15 e16 hp15) rfl pB sR ?_
      rintro _ _ _ ⟨q, p17, s17, e17, hc17, hp17, rfl, rfl, rfl⟩
      simp only [List.cons_append, List.nil_append]
      have hq := q.toNat_lt
      refine GL_v rfl (rv_cnv (r := (q.toNat : Int)) Tryz.underlying5 Tryz.underlying3 vw (fun _ => IntWalk.i64_in _ (by omega))) ?_
      refine GL_v rfl (rv_as (v := .int .i64 _) vw) ?_
      refine GL_nil ?_
      refine GC_seq ?_
      refine GC_region ?_
      refine GL_v rfl (rv_mv (v := .pointer _) vw) ?_
      refine GL_v rfl (rv_mv (v := .int .i64 _) vw) ?_
      refine GL_v rfl (rv_eql vw vw) ?_
      refine GL_v rfl (rv_mv (v := .bool _) vw) ?_
      refine GL_g rfl rfl gvf (rv_fa fa30_17 vw) ?_
      refine GL_g rfl rfl gvf (rv_ld Tryz.underlying5 rfl vwg) ?_
      refine GL_g rfl rfl gvf (rv_neq vwg vw) ?_
      refine GL_v rfl (rv_or vw vwg) ?_
      refine GL_call rfl cb112 (rNeed_k b29 n k p17 A b s17 e17 (decide ((q.toNat : Int) = 1) || !decide ((kd.toNat : Int) = 4)) 5) rfl pB .nil ?_
      rintro _ _ _ ⟨e18, hc18, rfl, rfl, rfl⟩
      simp only [List.cons_append, List.nil_append]
      rw [Bool.or_comm] at hc18
      refine GL_nil ?_
      refine GC_seq ?_
      refine GC_region ?_
      refine GL_v rfl (rv_as (v := .int .i64 _) vw) ?_
      refine GL_nil ?_
      refine GC_shift .nil (nil_own (t := 78) (sz := 2)) ?_
      refine GC_shift .nil (bun_nil (p := ([] : List Hd).length = ([] : List ObjD).length) rfl) ?_
      refine GC_dropT (T' := [row 1 A n k (bytesV b), bun (([] : List Hd).length = ([] : List ObjD).length) []]) sb ?_
      refine GC_block ?_
      refine GC_loop (fun (i : Nat) E S T => i ≤ q.toNat ∧ ∃ l hs p s e Ao ko, objsS ⟨(b.drop p17), s17, e18⟩ i = (l, ⟨b.drop p, s, e⟩) ∧ hs.length = l.length ∧ (p ≤ n ∧ n ≤ 35184372088832) ∧ At E [(6, .pointer (some ⟨b6, 0, none⟩)), (8, .pointer (some ⟨b29, 0, none⟩)), (9, .pointer (some ⟨b9, 0, none⟩)), (12, .int .i64 q.toNat), (13, .int .i64 i)] ∧ S = [own 78 2 Ao i ko (objsV l hs), rcub b29 A n k p s e, blk b9 [.int .u8 43, .int .u8 0, .int .u16 0, .int .u16 0, .int .u16 0, .int .u16 0, .int .u16 0, .int .u16 0, .int .u16 0, .int .u16 0, .int .u16 0, .int .u16 0, .slice none 0 0, .slice none 0 0, .slice none 0 0, .slice none 0 0, b8 a, b8 kd, b8 lv, b8 mo, b8 nx, .slice Ao i ko] 30, blk b6 (MsgX.cells { m := {} }) 30] ∧ T = [row 1 A n k (bytesV b), bun (hs.length = l.length) (objRows l hs)]) (fun i => q.toNat - i) 0 ⟨Nat.zero_le _, [], [], p17, s17, e18, none, 0, rfl, rfl, hp17, ⟨rfl, rfl, rfl, rfl, rfl, trivial⟩, rfl, rfl⟩ ?_
      rintro i E S T ⟨hi, l, hs, p, s, e, Ao, ko, hob, hlen, hp, hE, rfl, rfl⟩
      obtain ⟨E0, rfl⟩ := hE.ex
      refine GC_seq ?_
      refine GC_seq ?_
      refine GC_region ?_
      refine GL_v rfl (rv_mv (v := .int .i64 _) vw) ?_
      refine GL_v rfl (rv_mv (v := .int .i64 _) vw) ?_
      refine GL_v rfl (rv_lss vw vw) ?_
      refine GL_nil ?_
      refine GC_cond rfl (fun h4 => ?_) (fun h4 => ?_)
      ·
       have hlt : i < q.toNat := by have := h4; simp at this; omega
       refine GC_skip ?_
       refine GC_seq ?_
       refine GC_block ?_
       refine GC_seq ?_
       refine GC_region ?_
       refine GL_v rfl (rv_mv (v := .pointer _) vw) ?_
       refine GL_call rfl cb111 (rByte_k b29 n k p A b s e hp) rfl pB sR ?_
       rintro _ _ _ ⟨id, p19, s19, e19, hc19, hp19, rfl, rfl, rfl⟩
       simp only [List.cons_append, List.nil_append]
       refine GL_v rfl (rv_as (v := b8 id) vw) ?_
       refine GL_nil ?_
       refine GC_seq ?_
       refine GC_region ?_
       refine GL_v rfl (rv_mv (v := .pointer _) vw) ?_
       refine GL_call rfl cb111 (rByte_k b29 n k p19 A b s19 e19 hp19) rfl pB sR ?_
       rintro _ _ _ ⟨j, p20, s20, e20, hc20, hp20, rfl, rfl, rfl⟩
       simp only [List.cons_append, List.nil_append]
       have hj := j.toNat_lt
       refine GL_v rfl (rv_cnv (r := (j.toNat : Int)) Tryz.underlying5 Tryz.underlying3 vw (fun _ => IntWalk.i64_in _ (by omega))) ?_
       refine GL_v rfl (rv_as (v := .int .i64 _) vw) ?_
       refine GL_nil ?_
       refine GC_seq ?_
       refine GC_region ?_
       refine GL_v rfl (rv_mv (v := .pointer _) vw) ?_
       refine GL_v rfl (rv_mv (v := .int .i64 _) vw) ?_
       refine GL_call rfl cb113 (rBytes_k b29 n k p20 A b s20 e20 (j.toNat : Int) hp20) rfl pB sR ?_
       rintro _ _ _ ⟨v, p21, s21, e21, Ax21, nx21, kx21, hc21, hp21, hnx21, rfl, rfl, rfl⟩
       simp only [List.cons_append, List.nil_append]
       refine GL_v rfl (rv_as (v := .slice _ _ _) vw) ?_
       refine GL_nil ?_
       refine GC_region ?_
       refine GL_v rfl (rv_fa fa30_21 vw) ?_
       refine GL_v rfl (rv_ld Tryz.underlying28 rfl vw) ?_
       refine GL_v rfl (rv_mv (v := b8 id) vw) ?_
       refine GL_v rfl (rv_mv (v := .slice _ _ _) vw) ?_
       refine GL_v rfl (rv_bld (z' := objCells ⟨id, v⟩ ⟨Ax21, nx21, kx21⟩) z78 l78 (fun _ => rfl)) ?_
       refine GL_bs (l := objCells ⟨id, v⟩ ⟨Ax21, nx21, kx21⟩) rfl el28 z78 rfl rfl rfl (fun b127 => ?_)
       refine GL_app (m := 1) rfl el28 rfl rfl pW rfl (objCells_one _ _) (by omega) (by simp [maxLen]; omega) (fun A9 k9 => ?_)
       refine GL_v rfl (rv_fa fa30_21 vw) ?_
       refine GL_st (u := .slice A9 (i + 1) k9) rfl rfl c28 rfl ?_
       rw [← objsV_snoc l hs ⟨id, v⟩ ⟨Ax21, nx21, kx21⟩ hlen]
       refine GL_shift .nil (bun_snocM (hs.length = l.length) (objRows l hs) (row 1 Ax21 nx21 kx21 (bytesV v)) (p2 := (hs ++ [(⟨Ax21, nx21, kx21⟩ : Hd)]).length = (l ++ [(⟨id, v⟩ : ObjD)]).length) (by simp [hlen]) (objRows_snoc l hs ⟨id, v⟩ ⟨Ax21, nx21, kx21⟩ hlen)) ?_
       refine GL_dropT (T' := [row 1 A n k (bytesV b), bun ((hs ++ [(⟨Ax21, nx21, kx21⟩ : Hd)]).length = (l ++ [(⟨id, v⟩ : ObjD)]).length) (objRows (l ++ [(⟨id, v⟩ : ObjD)]) (hs ++ [(⟨Ax21, nx21, kx21⟩ : Hd)]))]) sb ?_
       refine GL_drop (.cons .here (.cons (.there .here) (.cons (.there .here) (.cons (.there .here) .nil)))) ?_
       refine GL_nil ?_
       refine GC_region ?_
       refine GL_v rfl (rv_mv (v := .int .i64 _) vw) ?_
       refine GL_v rfl (rv_add (r := ((i + 1 : Nat) : Int)) vw vw (fun _ => by rw [IntWalk.i64_in _ (by omega)]; omega)) ?_
       refine GL_v rfl (rv_as (v := .int .i64 _) vw) ?_
       refine GL_nil ?_
       refine ⟨i + 1, ⟨by omega, l ++ [(⟨id, v⟩ : ObjD)], hs ++ [(⟨Ax21, nx21, kx21⟩ : Hd)], p21, s21, e21, A9, k9, ?_, by simp [hlen], hp21, ⟨rfl, rfl, rfl, rfl, rfl, trivial⟩, ?_, rfl⟩, by omega⟩
       · simp only [objsS, hob, hc19, hc20, hc21]
       · rfl
      ·
       obtain rfl : i = q.toNat := by have := h4; simp at this; omega
       refine GC_shift (.cons .here .nil) own_toRow ?_
       refine GC_shift .nil (msgObjs { code := 43, mei := a, kind := kd, level := lv, more := mo, next := nx, objects := l } ⟨Ao, q.toNat, ko⟩ hs hlen (by simp) (fun R hR => inT_bun (p := hs.length = l.length) (L := objRows l hs) (by simp) hR)) ?_
       refine GC_exit ?_
       show Weak _ _ _ _
       exact weak pB3 sb ⟨{ m := { code := 43, mei := a, kind := kd, level := lv, more := mo, next := nx, objects := l }, o := ⟨Ao, q.toNat, ko⟩, ow := hs }, p, s, e, by rw [← hpp]; rw [show (⟨b, false, 0⟩ : Cu) = ⟨b.drop 0, false, 0⟩ from rfl]; unfold meiS; simp only [hc1, hc2, hc9, hc10, hc11, hc12, hc13, hc14, hc15, hc16, hc17, hc18]; rw [if_neg ga, if_pos gd]; unfold answer12; simp only [hc1, hc2, hc9, hc10, hc11, hc12, hc13, hc14, hc15, hc16, hc17, hc18, hob], hp, ⟨rfl, rfl, rfl, trivial⟩, rfl, rfl⟩
   ·
    rintro E S T ⟨S1, r1, T1, hS, hT, hM⟩
    refine GC_drop hS (GC_dropT hT ?_)
    clear hS hT
    revert hM
    rintro ⟨x, p, s, e, hfin, hp, hE, rfl, rfl⟩
    obtain ⟨E0, rfl⟩ := hE.ex
    refine GC_seq ?_
    refine GC_region ?_
    refine GL_v rfl (rv_mv (v := .pointer _) vw) ?_
    refine GL_call rfl cb117 (rEnd_k b29 n k p A b s e hp) rfl pB sR ?_
    rintro _ _ _ ⟨e22, hc22, rfl, rfl, rfl⟩
    simp only [List.cons_append, List.nil_append]
    refine GL_nil ?_
    refine GC_seq ?_
    refine GC_seq ?_
    refine GC_region ?_
    refine GL_v rfl (rv_mv (v := .pointer _) vw) ?_
    refine GL_v rfl (rv_nil vw) ?_
    refine GL_v rfl (rv_fa fa113_3 vw) ?_
    refine GL_v rfl (rv_ld Tryz.underlying31 rfl vw) ?_
    refine GL_v rfl (rv_neq vw vw) ?_
    refine GL_nil ?_
    refine GC_cond rfl (fun h5 => ?_) (fun h5 => ?_)
    ·
     have he : ¬ e22 = 0 := by have := h5; simpa using this
     rw [finish_no hc22 he] at hfin
     obtain rfl := hfin
     refine GC_seq ?_
     refine GC_draw 7 ([rcub b29 A n k p s e22]) mixed ?_
     refine GA_v (i := 0) rfl rfl rfl (by kernel_rfl) (rv_bld (z' := [.int .u8 0, .int .u8 0, .int .u16 0, .int .u16 0, .int .u16 0, .int .u16 0, .int .u16 0, .int .u16 0, .int .u16 0, .int .u16 0, .int .u16 0, .int .u16 0, .slice none 0 0, .slice none 0 0, .slice none 0 0, .slice none 0 0, .int .u8 0, .int .u8 0, .int .u8 0, .int .u8 0, .int .u8 0, .slice none 0 0]) z30 l30 (fun _ => rfl)) ?_
     refine GA_v (i := 1) rfl rfl rfl (by kernel_rfl) (rv_mv (v := .pointer _) vw) ?_
     refine GA_v (i := 2) rfl rfl rfl (by kernel_rfl) (rv_nil vw) ?_
     refine GA_v (i := 3) rfl rfl rfl (by kernel_rfl) (rv_fa fa113_3 vw) ?_
     refine GA_v (i := 4) rfl rfl rfl (by kernel_rfl) (rv_ld Tryz.underlying31 rfl vw) ?_
     refine GA_one 5 rfl rfl (by kernel_rfl) ?_
     refine GL_stA rfl rfl c30 (by simp [Value.oneCell']) (by rfl) ?_
     refine GL_nil ⟨inferInstance, ?_⟩
     refine GA_v (i := 6) rfl rfl rfl (by kernel_rfl) (rv_as (v := .int .i64 _) vw) ?_
     refine GA_nil (by kernel_rfl) ?_
     refine GC_shift .nil (msg0 {}) ?_
     refine GC_ret ?_
     exact finA (T' := [msgR { m := {} }]) (.inr rfl) rfl rfl rfl inferInstance a30 rfl .nil sb ⟨{ m := {} }, rfl, rfl, rfl, rfl⟩
    ·
     have he : e22 = 0 := by have := h5; simpa using this
     rw [finish_ok hc22 he] at hfin
     obtain rfl := hfin
     refine GC_skip ?_
     refine GC_seq ?_
     refine GC_region ?_
     refine GL_v rfl (rv_ldA (l := x.cells) a30 vw rfl) ?_
     refine GL_stA (l' := x.cells) rfl rfl c30 (MsgX.cells_one _) (by rfl) ?_
     refine GL_v rfl (rv_as (v := .int .i64 _) vw) ?_
     refine GL_nil ?_
     refine GC_ret ?_
     exact finA (T' := [msgR x]) (.inr rfl) rfl rfl rfl inferInstance a30 rfl .nil sb ⟨x, rfl, rfl, rfl, rfl⟩
end Go.Bus
