/- Walks of the reference: what a device is. No condition. -/
import Derived.Test.YtlfjioigkojjdaaGreatRef10
import Derived.Test.YtlfjioigkojjdaaGreatMei
set_option linter.unusedVariables false
set_option linter.unusedSimpArgs false
set_option maxRecDepth 100000
set_option maxHeartbeats 8000000
namespace Go.Bus
open Go Go.Proofs
theorem need_eq {d : Cu} {ok ok' : Bool} {j : Int} (h : d.e = 0 → ok = ok') : d.need ok j = d.need ok' j := by
  by_cases he : d.e = 0
  · rw [h he]
  · show (⟨d.r, d.s, needE d.e ok j⟩ : Cu) = ⟨d.r, d.s, needE d.e ok' j⟩
    unfold needE; rw [if_neg (fun q => he q.1), if_neg (fun q => he q.1)]
theorem byte_e {c c' : Cu} {a : UInt8} (h : c.byte = (a, c')) (h0 : c'.e = 0) : c.e = 0 := by
  have h1 : (c.bytes 1).2 = c' := congrArg Prod.snd h
  rw [← h1] at h0
  unfold Cu.bytes at h0
  split at h0
  · exact (needE_ok (by decide) h0).1
  · exact h0
theorem need_ok0 {c c' : Cu} {ok : Bool} {j : Int} (h : c.need ok j = c') (hj : j ≠ 0) (h0 : c'.e = 0) : ok = true := by
  rw [← h] at h0; exact (needE_ok hj h0).2
theorem level_eq (lv : UInt8) : (decide ((1 : Int) ≤ (lv.toNat : Int) % 128) && decide ((lv.toNat : Int) % 128 ≤ 3)) = levelS lv := by
  have := lv.toNat_lt
  rw [Bool.eq_iff_iff]; unfold levelS; simp; omega
theorem kind_eq (kd : Int) : (decide (0 < kd) && decide (kd < 5)) = (decide (1 ≤ kd) && decide (kd ≤ 4)) := by
  rw [Bool.eq_iff_iff]; simp; omega

theorem rP12_ct (dir : Int) (code : UInt8) (A : Option Addr) (n k : Nat) (b : List UInt8) (hn : n ≤ 35184372088832) : Ct PG 62 [.int .i64 dir, b8 code, .slice A n k] [] [row 1 A n k (bytesV b)] (MsgOut (P12 dir code b)) := by
  refine Ct_of Tryz.func62 rfl 176 rfl (Nat.le_of_ble_eq_true rfl) fun w0 M N => ?_
  refine GC_row A fun hrow => ?_
  have hbl : b.length = n := by have := hrow.1; simpa [bytesV] using this
  obtain ⟨pp, hpp⟩ : ∃ pp, P12 dir code b = pp := ⟨_, rfl⟩
  rw [hpp]
  refine GC_seq ?_
  refine GC_region ?_
  refine GL_alloc rfl z30 (fun b6 => ?_)
  refine GL_v rfl (rv_as (v := .int .i64 _) vw) ?_
  refine GL_nil ?_
  refine GC_seq ?_
  refine GC_seq ?_
  refine GC_region ?_
  refine GL_v rfl (rv_mv (v := .int .i64 _) vw) ?_
  refine GL_v rfl (rv_neq vw vw) ?_
  refine GL_v rfl (rv_mv (v := .bool _) vw) ?_
  refine GL_g rfl rfl gvt (rv_mv (v := .int .i64 _) vw) ?_
  refine GL_g rfl rfl gvt (rv_neq vwg vw) ?_
  refine GL_v rfl (rv_and vw vwg) ?_
  refine GL_nil ?_
  refine GC_cond rfl (fun h0 => ?_) (fun h0 => ?_)
  ·
    have hd : dir ≠ 0 ∧ dir ≠ 1 := by have := h0; simpa using this
    have he : P12 dir code b = ({}, 1) := if_pos hd
    obtain rfl := hpp.symm.trans he
    refine GC_seq ?_
    refine GC_region ?_
    refine GL_v rfl (rv_bld (z' := [.int .u8 0, .int .u8 0, .int .u16 0, .int .u16 0, .int .u16 0, .int .u16 0, .int .u16 0, .int .u16 0, .int .u16 0, .int .u16 0, .int .u16 0, .int .u16 0, .slice none 0 0, .slice none 0 0, .slice none 0 0, .slice none 0 0, .int .u8 0, .int .u8 0, .int .u8 0, .int .u8 0, .int .u8 0, .slice none 0 0]) z30 l30 (fun _ => rfl)) ?_
    refine GL_stA rfl rfl c30 (by simp [Value.oneCell']) (by rfl) ?_
    refine GL_v rfl (rv_as (v := .int .i64 _) vw) ?_
    refine GL_nil ?_
    refine GC_shift .nil (msg0 {}) ?_
    refine GC_ret ?_
    exact finA (T' := [msgR { m := {} }]) (.inr rfl) rfl rfl rfl inferInstance a30 rfl .nil sb ⟨{ m := {} }, rfl, rfl, rfl, rfl⟩
  ·
    have hd : ¬ (dir ≠ 0 ∧ dir ≠ 1) := by have := h0; simpa using this
    simp only [P12, parseBy, if_neg hd] at hpp
    have hcode := code.toNat_lt
    refine GC_skip ?_
    refine GC_seq ?_
    refine GC_seq ?_
    refine GC_region ?_
    refine GL_v rfl (rv_mv (v := .int .u8 _) vw) ?_
    refine GL_v rfl (rv_neq vw vw) ?_
    refine GL_nil ?_
    refine GC_cond rfl (fun h1 => ?_) (fun h1 => ?_)
    ·
      have hc : ¬ code.toNat = 43 := by have := h1; simp at this; omega
      have hf : form12 dir code = none := if_neg hc
      simp only [hf] at hpp
      obtain rfl := hpp
      refine GC_seq ?_
      refine GC_region ?_
      refine GL_v rfl (rv_bld (z' := [.int .u8 0, .int .u8 0, .int .u16 0, .int .u16 0, .int .u16 0, .int .u16 0, .int .u16 0, .int .u16 0, .int .u16 0, .int .u16 0, .int .u16 0, .int .u16 0, .slice none 0 0, .slice none 0 0, .slice none 0 0, .slice none 0 0, .int .u8 0, .int .u8 0, .int .u8 0, .int .u8 0, .int .u8 0, .slice none 0 0]) z30 l30 (fun _ => rfl)) ?_
      refine GL_stA rfl rfl c30 (by simp [Value.oneCell']) (by rfl) ?_
      refine GL_v rfl (rv_as (v := .int .i64 _) vw) ?_
      refine GL_nil ?_
      refine GC_shift .nil (msg0 {}) ?_
      refine GC_ret ?_
      exact finA (T' := [msgR { m := {} }]) (.inr rfl) rfl rfl rfl inferInstance a30 rfl .nil sb ⟨{ m := {} }, rfl, rfl, rfl, rfl⟩
    ·
      have hc : code.toNat = 43 := by have := h1; simp at this; omega
      obtain rfl : code = 43 := u8_ext hc
      have hf : form12 dir 43 = some (meiS dir) := if_pos rfl
      simp only [hf] at hpp
      refine GC_skip ?_
      refine GC_seq ?_
      refine GC_region ?_
      refine GL_v rfl (rv_mv (v := .slice _ _ _) vw) ?_
      refine GL_v rfl (rv_bld (z' := [.slice _ _ _, .int .i64 0, .bool false, .int .i64 0]) z113 l113 (fun _ => rfl)) ?_
      refine GL_boxA rfl rfl (fun b29 => ?_)
      refine GL_v rfl (rv_as (v := .pointer _) vw) ?_
      refine GL_nil ?_
      refine GC_seq ?_
      refine GC_region ?_
      refine GL_v rfl (rv_bld (z' := [.int .u8 43, .int .u8 0, .int .u16 0, .int .u16 0, .int .u16 0, .int .u16 0, .int .u16 0, .int .u16 0, .int .u16 0, .int .u16 0, .int .u16 0, .int .u16 0, .slice none 0 0, .slice none 0 0, .slice none 0 0, .slice none 0 0, .int .u8 0, .int .u8 0, .int .u8 0, .int .u8 0, .int .u8 0, .slice none 0 0]) z30 l30 (fun _ => rfl)) ?_
      refine GL_alloc rfl z30 (fun b9 => ?_)
      refine GL_stA (l' := [.int .u8 43, .int .u8 0, .int .u16 0, .int .u16 0, .int .u16 0, .int .u16 0, .int .u16 0, .int .u16 0, .int .u16 0, .int .u16 0, .int .u16 0, .int .u16 0, .slice none 0 0, .slice none 0 0, .slice none 0 0, .slice none 0 0, .int .u8 0, .int .u8 0, .int .u8 0, .int .u8 0, .int .u8 0, .slice none 0 0]) rfl rfl c30 (by simp [Value.oneCell']) (by rfl) ?_
      refine GL_nil ?_
      refine GC_seq ?_
      refine GC_region ?_
      refine GL_v rfl (rv_mv (v := .pointer _) vw) ?_
      refine GL_call rfl cb111 (rByte_k b29 n k 0 A b false 0 ⟨Nat.zero_le _, hn⟩) rfl pB sR ?_
      rintro _ _ _ ⟨a, p1, s1, e1, hc1, hp1, rfl, rfl, rfl⟩
      simp only [List.cons_append, List.nil_append]
      have ha := a.toNat_lt
      refine GL_v rfl (rv_fa fa30_16 vw) ?_
      refine GL_st (u := b8 a) rfl rfl c5 rfl ?_
      refine GL_nil ?_
      refine GC_seq ?_
      refine GC_region ?_
      refine GL_v rfl (rv_mv (v := .pointer _) vw) ?_
      refine GL_v rfl (rv_fa fa30_16 vw) ?_
      refine GL_v rfl (rv_ld Tryz.underlying5 rfl vw) ?_
      refine GL_v rfl (rv_eql vw vw) ?_
      refine GL_v rfl (rv_mv (v := .bool _) vw) ?_
      refine GL_g rfl rfl gvf (rv_fa fa30_16 vw) ?_
      refine GL_g rfl rfl gvf (rv_ld Tryz.underlying5 rfl vwg) ?_
      refine GL_g rfl rfl gvf (rv_eql vwg vw) ?_
      refine GL_v rfl (rv_or vw vwg) ?_
      refine GL_call rfl cb112 (rNeed_k b29 n k p1 A b s1 e1 (decide ((a.toNat : Int) = 13) || decide ((a.toNat : Int) = 14)) 8) rfl pB .nil ?_
      rintro _ _ _ ⟨e2, hc2, rfl, rfl, rfl⟩
      simp only [List.cons_append, List.nil_append]
      refine GL_nil ?_
      refine GC_seq ?_
      refine GC_cutM (fun E S T => ∃ (x : MsgX) (p : Nat) (s : Bool) (e : Int), finish (x.m, ⟨b.drop p, s, e⟩) = pp ∧ (p ≤ n ∧ n ≤ 35184372088832) ∧ At E [(6, .pointer (some ⟨b6, 0, none⟩)), (8, .pointer (some ⟨b29, 0, none⟩)), (9, .pointer (some ⟨b9, 0, none⟩))] ∧ S = [rcub b29 A n k p s e, blk b9 x.cells 30, blk b6 (MsgX.cells { m := {} }) 30] ∧ T = [msgR x, row 1 A n k (bytesV b)]) ?_ ?_
      ·
        refine GC_block ?_
        refine GC_seq ?_
        refine GC_region ?_
        refine GL_v rfl (rv_fa fa30_16 vw) ?_
        refine GL_v rfl (rv_ld Tryz.underlying5 rfl vw) ?_
        refine GL_v rfl (rv_eql vw vw) ?_
        refine GL_v rfl (rv_as (v := .bool _) vw) ?_
        refine GL_nil ?_
        refine GC_cond rfl (fun h2 => ?_) (fun h2 => ?_)
        ·
          have ga : a.toNat = 13 := by have := h2; simp at this; omega
          have hrl : (b.drop p1).length ≤ n := by rw [List.length_drop]; omega
          refine GC_seq ?_
          refine GC_region ?_
          refine GL_v rfl (rv_mv (v := .pointer _) vw) ?_
          refine GL_callD rfl cb121 (rLeft_k b29 n k p1 A b s1 e2 hp1) rfl pB sR ?_
          refine GL_v rfl (rv_as (v := .int .i64 _) vw) ?_
          refine GL_nil ?_
          refine GC_seq ?_
          refine GC_region ?_
          refine GL_v rfl (rv_mv (v := .pointer _) vw) ?_
          refine GL_v rfl (rv_mv (v := .int .i64 _) vw) ?_
          refine GL_v rfl (rv_leq vw vw) ?_
          refine GL_call rfl cb112 (rNeed_k b29 n k p1 A b s1 e2 (decide (((b.drop p1).length : Int) ≤ 251)) 5) rfl pB .nil ?_
          rintro _ _ _ ⟨e4, hc4, rfl, rfl, rfl⟩
          simp only [List.cons_append, List.nil_append]
          refine GL_nil ?_
          refine GC_region ?_
          refine GL_v rfl (rv_mv (v := .pointer _) vw) ?_
          refine GL_v rfl (rv_mv (v := .int .i64 _) vw) ?_
          refine GL_call rfl cb113 (rBytes_k b29 n k p1 A b s1 e4 ((b.drop p1).length : Int) hp1) rfl pB sR ?_
          rintro _ _ _ ⟨v, p5, s5, e5, Ax5, nx5, kx5, hc5, hp5, hnx5, rfl, rfl, rfl⟩
          simp only [List.cons_append, List.nil_append]
          refine GL_shift .nil (msgData { code := 43, mei := a, data := v } ⟨Ax5, nx5, kx5⟩) ?_
          refine GL_v rfl (rv_fa fa30_14 vw) ?_
          refine GL_st (u := .slice _ _ _) rfl rfl c22 rfl ?_
          refine GL_nil ?_
          show Weak _ _ _ _
          exact weak pB3 sb ⟨{ m := { code := 43, mei := a, data := v }, d := ⟨Ax5, nx5, kx5⟩ }, p5, s5, e5, by rw [← hpp]; rw [show (⟨b, false, 0⟩ : Cu) = ⟨b.drop 0, false, 0⟩ from rfl]; unfold meiS; simp only [hc1, hc2, hc4, hc5]; rw [if_pos ga], hp5, ⟨rfl, rfl, rfl, trivial⟩, rfl, rfl⟩
        ·
          have ga : ¬ a.toNat = 13 := by have := h2; simp at this; omega
          refine GC_seq ?_
          refine GC_region ?_
          refine GL_v rfl (rv_mv (v := .int .i64 _) vw) ?_
          refine GL_v rfl (rv_eql vw vw) ?_
          refine GL_v rfl (rv_as (v := .bool _) vw) ?_
          refine GL_nil ?_
          refine GC_cond rfl (fun h3 => ?_) (fun h3 => ?_)
          ·
            have gd : ¬ dir = 1 := by have := h3; simp at this; omega
            refine GC_seq ?_
            refine GC_region ?_
            refine GL_v rfl (rv_mv (v := .pointer _) vw) ?_
            refine GL_call rfl cb111 (rByte_k b29 n k p1 A b s1 e2 hp1) rfl pB sR ?_
            rintro _ _ _ ⟨kd, p6, s6, e6, hc6, hp6, rfl, rfl, rfl⟩
            simp only [List.cons_append, List.nil_append]
            refine GL_v rfl (rv_fa fa30_17 vw) ?_
            refine GL_st (u := b8 kd) rfl rfl c5 rfl ?_
            refine GL_nil ?_
            refine GC_seq ?_
            refine GC_region ?_
            refine GL_v rfl (rv_mv (v := .pointer _) vw) ?_
            refine GL_v rfl (rv_fa fa30_17 vw) ?_
            refine GL_v rfl (rv_ld Tryz.underlying5 rfl vw) ?_
            refine GL_v rfl (rv_gtr vw vw) ?_
            refine GL_v rfl (rv_mv (v := .bool _) vw) ?_
            refine GL_g rfl rfl gvt (rv_fa fa30_17 vw) ?_
            refine GL_g rfl rfl gvt (rv_ld Tryz.underlying5 rfl vwg) ?_
            refine GL_g rfl rfl gvt (rv_lss vwg vw) ?_
            refine GL_v rfl (rv_and vw vwg) ?_
            refine GL_call rfl cb112 (rNeed_k b29 n k p6 A b s6 e6 (decide ((0 : Int) < kd.toNat) && decide ((kd.toNat : Int) < 5)) 6) rfl pB .nil ?_
            rintro _ _ _ ⟨e7, hc7, rfl, rfl, rfl⟩
            simp only [List.cons_append, List.nil_append]
            rw [kind_eq] at hc7
            refine GL_nil ?_
            refine GC_region ?_
            refine GL_v rfl (rv_mv (v := .pointer _) vw) ?_
            refine GL_call rfl cb111 (rByte_k b29 n k p6 A b s6 e7 hp6) rfl pB sR ?_
            rintro _ _ _ ⟨nx, p8, s8, e8, hc8, hp8, rfl, rfl, rfl⟩
            simp only [List.cons_append, List.nil_append]
            refine GL_v rfl (rv_fa fa30_20 vw) ?_
            refine GL_st (u := b8 nx) rfl rfl c5 rfl ?_
            refine GL_shift .nil (msg0 { code := 43, mei := a, kind := kd, next := nx }) ?_
            refine GL_nil ?_
            show Weak _ _ _ _
            exact weak pB3 sb ⟨{ m := { code := 43, mei := a, kind := kd, next := nx } }, p8, s8, e8, by rw [← hpp]; rw [show (⟨b, false, 0⟩ : Cu) = ⟨b.drop 0, false, 0⟩ from rfl]; unfold meiS; simp only [hc1, hc2, hc6, hc7, hc8]; rw [if_neg ga, if_neg gd], hp8, ⟨rfl, rfl, rfl, trivial⟩, rfl, rfl⟩
          ·
            have gd : dir = 1 := by have := h3; simp at this; omega
            refine GC_seq ?_
            refine GC_region ?_
            refine GL_v rfl (rv_mv (v := .pointer _) vw) ?_
            refine GL_call rfl cb111 (rByte_k b29 n k p1 A b s1 e2 hp1) rfl pB sR ?_
            rintro _ _ _ ⟨kd, p9, s9, e9, hc9, hp9, rfl, rfl, rfl⟩
            simp only [List.cons_append, List.nil_append]
            refine GL_v rfl (rv_fa fa30_17 vw) ?_
            refine GL_st (u := b8 kd) rfl rfl c5 rfl ?_
            refine GL_nil ?_
            refine GC_seq ?_
            refine GC_region ?_
            refine GL_v rfl (rv_mv (v := .pointer _) vw) ?_
            refine GL_v rfl (rv_fa fa30_17 vw) ?_
            refine GL_v rfl (rv_ld Tryz.underlying5 rfl vw) ?_
            refine GL_v rfl (rv_gtr vw vw) ?_
            refine GL_v rfl (rv_mv (v := .bool _) vw) ?_
            refine GL_g rfl rfl gvt (rv_fa fa30_17 vw) ?_
            refine GL_g rfl rfl gvt (rv_ld Tryz.underlying5 rfl vwg) ?_
            refine GL_g rfl rfl gvt (rv_lss vwg vw) ?_
            refine GL_v rfl (rv_and vw vwg) ?_
            refine GL_call rfl cb112 (rNeed_k b29 n k p9 A b s9 e9 (decide ((0 : Int) < kd.toNat) && decide ((kd.toNat : Int) < 5)) 6) rfl pB .nil ?_
            rintro _ _ _ ⟨e10, hc10, rfl, rfl, rfl⟩
            simp only [List.cons_append, List.nil_append]
            rw [kind_eq] at hc10
            refine GL_nil ?_
            refine GC_seq ?_
            refine GC_region ?_
            refine GL_v rfl (rv_mv (v := .pointer _) vw) ?_
            refine GL_call rfl cb111 (rByte_k b29 n k p9 A b s9 e10 hp9) rfl pB sR ?_
            rintro _ _ _ ⟨lv, p11, s11, e11, hc11, hp11, rfl, rfl, rfl⟩
            simp only [List.cons_append, List.nil_append]
            have hlv := lv.toNat_lt
            refine GL_v rfl (rv_fa fa30_18 vw) ?_
            refine GL_st (u := b8 lv) rfl rfl c5 rfl ?_
            refine GL_nil ?_
            refine GC_seq ?_
            refine GC_region ?_
            refine GL_v rfl (rv_fa fa30_18 vw) ?_
            refine GL_v rfl (rv_ld Tryz.underlying5 rfl vw) ?_
            refine GL_v rfl (rv_rem (r := (lv.toNat : Int) % 128) vw vw (fun _ => by decide) (fun _ => Int.tmod_eq_emod_of_nonneg (by omega))) ?_
            refine GL_v rfl (rv_as (v := .int .u8 _) vw) ?_
            refine GL_nil ?_
            refine GC_seq ?_
            refine GC_region ?_
            refine GL_v rfl (rv_mv (v := .pointer _) vw) ?_
            refine GL_v rfl (rv_mv (v := .int .u8 _) vw) ?_
            refine GL_v rfl (rv_geq vw vw) ?_
            refine GL_v rfl (rv_mv (v := .bool _) vw) ?_
            refine GL_g rfl rfl gvt (rv_mv (v := .int .u8 _) vw) ?_
            refine GL_g rfl rfl gvt (rv_leq vwg vw) ?_
            refine GL_v rfl (rv_and vw vwg) ?_
            refine GL_call rfl cb112 (rNeed_k b29 n k p11 A b s11 e11 (decide ((1 : Int) ≤ (lv.toNat : Int) % 128) && decide ((lv.toNat : Int) % 128 ≤ 3)) 6) rfl pB .nil ?_
            rintro _ _ _ ⟨e12, hc12, rfl, rfl, rfl⟩
            simp only [List.cons_append, List.nil_append]
            rw [level_eq] at hc12
            refine GL_nil ?_
            refine GC_seq ?_
            refine GC_region ?_
            refine GL_v rfl (rv_mv (v := .pointer _) vw) ?_
            refine GL_call rfl cb111 (rByte_k b29 n k p11 A b s11 e12 hp11) rfl pB sR ?_
            rintro _ _ _ ⟨mo, p13, s13, e13, hc13, hp13, rfl, rfl, rfl⟩
            simp only [List.cons_append, List.nil_append]
            refine GL_v rfl (rv_fa fa30_19 vw) ?_
            refine GL_st (u := b8 mo) rfl rfl c5 rfl ?_
            refine GL_nil ?_
            refine GC_seq ?_
            refine GC_region ?_
            refine GL_v rfl (rv_mv (v := .pointer _) vw) ?_
            refine GL_v rfl (rv_fa fa30_19 vw) ?_
            refine GL_v rfl (rv_ld Tryz.underlying5 rfl vw) ?_
            refine GL_v rfl (rv_eql vw vw) ?_
            refine GL_v rfl (rv_mv (v := .bool _) vw) ?_
            refine GL_g rfl rfl gvf (rv_fa fa30_19 vw) ?_
            refine GL_g rfl rfl gvf (rv_ld Tryz.underlying5 rfl vwg) ?_
            refine GL_g rfl rfl gvf (rv_eql vwg vw) ?_
            refine GL_v rfl (rv_or vw vwg) ?_
            refine GL_call rfl cb112 (rNeed_k b29 n k p13 A b s13 e13 (decide ((mo.toNat : Int) = 0) || decide ((mo.toNat : Int) = 255)) 6) rfl pB .nil ?_
            rintro _ _ _ ⟨e14, hc14, rfl, rfl, rfl⟩
            simp only [List.cons_append, List.nil_append]
            refine GL_nil ?_
            refine GC_seq ?_
            refine GC_region ?_
            refine GL_v rfl (rv_mv (v := .pointer _) vw) ?_
            refine GL_call rfl cb111 (rByte_k b29 n k p13 A b s13 e14 hp13) rfl pB sR ?_
            rintro _ _ _ ⟨nx, p15, s15, e15, hc15, hp15, rfl, rfl, rfl⟩
            simp only [List.cons_append, List.nil_append]
            refine GL_v rfl (rv_fa fa30_20 vw) ?_
            refine GL_st (u := b8 nx) rfl rfl c5 rfl ?_
            refine GL_nil ?_
            refine GC_seq ?_
            refine GC_region ?_
            refine GL_v rfl (rv_mv (v := .pointer _) vw) ?_
            refine GL_v rfl (rv_fa fa30_20 vw) ?_
            refine GL_v rfl (rv_ld Tryz.underlying5 rfl vw) ?_
            refine GL_v rfl (rv_eql vw vw) ?_
            refine GL_v rfl (rv_mv (v := .bool _) vw) ?_
            refine GL_g rfl rfl gvf (rv_fa fa30_19 vw) ?_
            refine GL_g rfl rfl gvf (rv_ld Tryz.underlying5 rfl vwg) ?_
            refine GL_g rfl rfl gvf (rv_eql vwg vw) ?_
            refine GL_v rfl (rv_or vw vwg) ?_
            refine GL_call rfl cb112 (rNeed_k b29 n k p15 A b s15 e15 (decide ((nx.toNat : Int) = 0) || decide ((mo.toNat : Int) = 255)) 6) rfl pB .nil ?_
            rintro _ _ _ ⟨e16, hc16, rfl, rfl, rfl⟩
            simp only [List.cons_append, List.nil_append]
            rw [need_eq (ok' := (!decide ((mo.toNat : Int) = 0)) || decide ((nx.toNat : Int) = 0)) (fun he => by
              have q := need_ok0 hc14 (by decide) (byte_e hc15 he)
              simp at q
              rw [Bool.eq_iff_iff]; simp; omega)] at hc16
            refine GL_nil ?_
            refine GC_seq ?_
            refine GC_region ?_
            refine GL_v rfl (rv_mv (v := .pointer _) vw) ?_
            refine GL_call rfl cb111 (rByte_k b29 n k p15 A b s15 e16 hp15) rfl pB sR ?_
            rintro _ _ _ ⟨q, p17, s17, e17, hc17, hp17, rfl, rfl, rfl⟩
            simp only [List.cons_append, List.nil_append]
            have hq := q.toNat_lt
            refine GL_v rfl (rv_cnv (r := (q.toNat : Int)) Tryz.underlying5 Tryz.underlying3 vw (fun _ => IntWalk.i64_in _ (by omega))) ?_
            refine GL_v rfl (rv_as (v := .int .i64 _) vw) ?_
            refine GL_nil ?_
            refine GC_seq ?_
            refine GC_region ?_
            refine GL_v rfl (rv_mv (v := .pointer _) vw) ?_
            refine GL_v rfl (rv_mv (v := .int .i64 _) vw) ?_
            refine GL_v rfl (rv_eql vw vw) ?_
            refine GL_v rfl (rv_mv (v := .bool _) vw) ?_
            refine GL_g rfl rfl gvf (rv_fa fa30_17 vw) ?_
            refine GL_g rfl rfl gvf (rv_ld Tryz.underlying5 rfl vwg) ?_
            refine GL_g rfl rfl gvf (rv_neq vwg vw) ?_
            refine GL_v rfl (rv_or vw vwg) ?_
            refine GL_call rfl cb112 (rNeed_k b29 n k p17 A b s17 e17 (decide ((q.toNat : Int) = 1) || !decide ((kd.toNat : Int) = 4)) 5) rfl pB .nil ?_
            rintro _ _ _ ⟨e18, hc18, rfl, rfl, rfl⟩
            simp only [List.cons_append, List.nil_append]
            rw [Bool.or_comm] at hc18
            refine GL_nil ?_
            refine GC_seq ?_
            refine GC_region ?_
            refine GL_v rfl (rv_as (v := .int .i64 _) vw) ?_
            refine GL_nil ?_
            refine GC_shift .nil (nil_own (t := 78) (sz := 2)) ?_
            refine GC_shift .nil (bun_nil (p := ([] : List Hd).length = ([] : List ObjD).length) rfl) ?_
            refine GC_dropT (T' := [row 1 A n k (bytesV b), bun (([] : List Hd).length = ([] : List ObjD).length) []]) sb ?_
            refine GC_block ?_
            refine GC_loop (fun (i : Nat) E S T => i ≤ q.toNat ∧ ∃ l hs p s e Ao ko, objsS ⟨(b.drop p17), s17, e18⟩ i = (l, ⟨b.drop p, s, e⟩) ∧ hs.length = l.length ∧ (p ≤ n ∧ n ≤ 35184372088832) ∧ At E [(6, .pointer (some ⟨b6, 0, none⟩)), (8, .pointer (some ⟨b29, 0, none⟩)), (9, .pointer (some ⟨b9, 0, none⟩)), (12, .int .i64 q.toNat), (13, .int .i64 i)] ∧ S = [own 78 2 Ao i ko (objsV l hs), rcub b29 A n k p s e, blk b9 [.int .u8 43, .int .u8 0, .int .u16 0, .int .u16 0, .int .u16 0, .int .u16 0, .int .u16 0, .int .u16 0, .int .u16 0, .int .u16 0, .int .u16 0, .int .u16 0, .slice none 0 0, .slice none 0 0, .slice none 0 0, .slice none 0 0, b8 a, b8 kd, b8 lv, b8 mo, b8 nx, .slice Ao i ko] 30, blk b6 (MsgX.cells { m := {} }) 30] ∧ T = [row 1 A n k (bytesV b), bun (hs.length = l.length) (objRows l hs)]) (fun i => q.toNat - i) 0 ⟨Nat.zero_le _, [], [], p17, s17, e18, none, 0, rfl, rfl, hp17, ⟨rfl, rfl, rfl, rfl, rfl, trivial⟩, rfl, rfl⟩ ?_
            rintro i E S T ⟨hi, l, hs, p, s, e, Ao, ko, hob, hlen, hp, hE, rfl, rfl⟩
            obtain ⟨E0, rfl⟩ := hE.ex
            refine GC_seq ?_
            refine GC_seq ?_
            refine GC_region ?_
            refine GL_v rfl (rv_mv (v := .int .i64 _) vw) ?_
            refine GL_v rfl (rv_mv (v := .int .i64 _) vw) ?_
            refine GL_v rfl (rv_lss vw vw) ?_
            refine GL_nil ?_
            refine GC_cond rfl (fun h4 => ?_) (fun h4 => ?_)
            ·
              have hlt : i < q.toNat := by have := h4; simp at this; omega
              refine GC_skip ?_
              refine GC_seq ?_
              refine GC_block ?_
              refine GC_seq ?_
              refine GC_region ?_
              refine GL_v rfl (rv_mv (v := .pointer _) vw) ?_
              refine GL_call rfl cb111 (rByte_k b29 n k p A b s e hp) rfl pB sR ?_
              rintro _ _ _ ⟨id, p19, s19, e19, hc19, hp19, rfl, rfl, rfl⟩
              simp only [List.cons_append, List.nil_append]
              refine GL_v rfl (rv_as (v := b8 id) vw) ?_
              refine GL_nil ?_
              refine GC_seq ?_
              refine GC_region ?_
              refine GL_v rfl (rv_mv (v := .pointer _) vw) ?_
              refine GL_call rfl cb111 (rByte_k b29 n k p19 A b s19 e19 hp19) rfl pB sR ?_
              rintro _ _ _ ⟨j, p20, s20, e20, hc20, hp20, rfl, rfl, rfl⟩
              simp only [List.cons_append, List.nil_append]
              have hj := j.toNat_lt
              refine GL_v rfl (rv_cnv (r := (j.toNat : Int)) Tryz.underlying5 Tryz.underlying3 vw (fun _ => IntWalk.i64_in _ (by omega))) ?_
              refine GL_v rfl (rv_as (v := .int .i64 _) vw) ?_
              refine GL_nil ?_
              refine GC_seq ?_
              refine GC_region ?_
              refine GL_v rfl (rv_mv (v := .pointer _) vw) ?_
              refine GL_v rfl (rv_mv (v := .int .i64 _) vw) ?_
              refine GL_call rfl cb113 (rBytes_k b29 n k p20 A b s20 e20 (j.toNat : Int) hp20) rfl pB sR ?_
              rintro _ _ _ ⟨v, p21, s21, e21, Ax21, nx21, kx21, hc21, hp21, hnx21, rfl, rfl, rfl⟩
              simp only [List.cons_append, List.nil_append]
              refine GL_v rfl (rv_as (v := .slice _ _ _) vw) ?_
              refine GL_nil ?_
              refine GC_region ?_
              refine GL_v rfl (rv_fa fa30_21 vw) ?_
              refine GL_v rfl (rv_ld Tryz.underlying28 rfl vw) ?_
              refine GL_v rfl (rv_mv (v := b8 id) vw) ?_
              refine GL_v rfl (rv_mv (v := .slice _ _ _) vw) ?_
              refine GL_v rfl (rv_bld (z' := objCells ⟨id, v⟩ ⟨Ax21, nx21, kx21⟩) z78 l78 (fun _ => rfl)) ?_
              refine GL_bs (l := objCells ⟨id, v⟩ ⟨Ax21, nx21, kx21⟩) rfl el28 z78 rfl rfl rfl (fun b127 => ?_)
              refine GL_app (m := 1) rfl el28 rfl rfl pW rfl (objCells_one _ _) (by omega) (by simp [maxLen]; omega) (fun A9 k9 => ?_)
              refine GL_v rfl (rv_fa fa30_21 vw) ?_
              refine GL_st (u := .slice A9 (i + 1) k9) rfl rfl c28 rfl ?_
              rw [← objsV_snoc l hs ⟨id, v⟩ ⟨Ax21, nx21, kx21⟩ hlen]
              refine GL_shift .nil (bun_snocM (hs.length = l.length) (objRows l hs) (row 1 Ax21 nx21 kx21 (bytesV v)) (p2 := (hs ++ [(⟨Ax21, nx21, kx21⟩ : Hd)]).length = (l ++ [(⟨id, v⟩ : ObjD)]).length) (by simp [hlen]) (objRows_snoc l hs ⟨id, v⟩ ⟨Ax21, nx21, kx21⟩ hlen)) ?_
              refine GL_dropT (T' := [row 1 A n k (bytesV b), bun ((hs ++ [(⟨Ax21, nx21, kx21⟩ : Hd)]).length = (l ++ [(⟨id, v⟩ : ObjD)]).length) (objRows (l ++ [(⟨id, v⟩ : ObjD)]) (hs ++ [(⟨Ax21, nx21, kx21⟩ : Hd)]))]) sb ?_
              refine GL_drop (.cons .here (.cons (.there .here) (.cons (.there .here) (.cons (.there .here) .nil)))) ?_
              refine GL_nil ?_
              refine GC_region ?_
              refine GL_v rfl (rv_mv (v := .int .i64 _) vw) ?_
              refine GL_v rfl (rv_add (r := ((i + 1 : Nat) : Int)) vw vw (fun _ => by rw [IntWalk.i64_in _ (by omega)]; omega)) ?_
              refine GL_v rfl (rv_as (v := .int .i64 _) vw) ?_
              refine GL_nil ?_
              refine ⟨i + 1, ⟨by omega, l ++ [(⟨id, v⟩ : ObjD)], hs ++ [(⟨Ax21, nx21, kx21⟩ : Hd)], p21, s21, e21, A9, k9, ?_, by simp [hlen], hp21, ⟨rfl, rfl, rfl, rfl, rfl, trivial⟩, ?_, rfl⟩, by omega⟩
              · simp only [objsS, hob, hc19, hc20, hc21]
              · rfl
            ·
              obtain rfl : i = q.toNat := by have := h4; simp at this; omega
              refine GC_shift (.cons .here .nil) own_toRow ?_
              refine GC_shift .nil (msgObjs { code := 43, mei := a, kind := kd, level := lv, more := mo, next := nx, objects := l } ⟨Ao, q.toNat, ko⟩ hs hlen (by simp) (fun R hR => inT_bun (p := hs.length = l.length) (L := objRows l hs) (by simp) hR)) ?_
              refine GC_exit ?_
              show Weak _ _ _ _
              exact weak pB3 sb ⟨{ m := { code := 43, mei := a, kind := kd, level := lv, more := mo, next := nx, objects := l }, o := ⟨Ao, q.toNat, ko⟩, ow := hs }, p, s, e, by rw [← hpp]; rw [show (⟨b, false, 0⟩ : Cu) = ⟨b.drop 0, false, 0⟩ from rfl]; unfold meiS; simp only [hc1, hc2, hc9, hc10, hc11, hc12, hc13, hc14, hc15, hc16, hc17, hc18]; rw [if_neg ga, if_pos gd]; unfold answer12; simp only [hc1, hc2, hc9, hc10, hc11, hc12, hc13, hc14, hc15, hc16, hc17, hc18, hob], hp, ⟨rfl, rfl, rfl, trivial⟩, rfl, rfl⟩
      ·
        rintro E S T ⟨S1, r1, T1, hS, hT, hM⟩
        refine GC_drop hS (GC_dropT hT ?_)
        clear hS hT
        revert hM
        rintro ⟨x, p, s, e, hfin, hp, hE, rfl, rfl⟩
        obtain ⟨E0, rfl⟩ := hE.ex
        refine GC_seq ?_
        refine GC_region ?_
        refine GL_v rfl (rv_mv (v := .pointer _) vw) ?_
        refine GL_call rfl cb117 (rEnd_k b29 n k p A b s e hp) rfl pB sR ?_
        rintro _ _ _ ⟨e22, hc22, rfl, rfl, rfl⟩
        simp only [List.cons_append, List.nil_append]
        refine GL_nil ?_
        refine GC_seq ?_
        refine GC_seq ?_
        refine GC_region ?_
        refine GL_v rfl (rv_mv (v := .pointer _) vw) ?_
        refine GL_v rfl (rv_nil vw) ?_
        refine GL_v rfl (rv_fa fa113_3 vw) ?_
        refine GL_v rfl (rv_ld Tryz.underlying31 rfl vw) ?_
        refine GL_v rfl (rv_neq vw vw) ?_
        refine GL_nil ?_
        refine GC_cond rfl (fun h5 => ?_) (fun h5 => ?_)
        ·
          have he : ¬ e22 = 0 := by have := h5; simpa using this
          rw [finish_no hc22 he] at hfin
          obtain rfl := hfin
          refine GC_seq ?_
          refine GC_draw 7 ([rcub b29 A n k p s e22]) mixed ?_
          refine GA_v (i := 0) rfl rfl rfl (by kernel_rfl) (rv_bld (z' := [.int .u8 0, .int .u8 0, .int .u16 0, .int .u16 0, .int .u16 0, .int .u16 0, .int .u16 0, .int .u16 0, .int .u16 0, .int .u16 0, .int .u16 0, .int .u16 0, .slice none 0 0, .slice none 0 0, .slice none 0 0, .slice none 0 0, .int .u8 0, .int .u8 0, .int .u8 0, .int .u8 0, .int .u8 0, .slice none 0 0]) z30 l30 (fun _ => rfl)) ?_
          refine GA_v (i := 1) rfl rfl rfl (by kernel_rfl) (rv_mv (v := .pointer _) vw) ?_
          refine GA_v (i := 2) rfl rfl rfl (by kernel_rfl) (rv_nil vw) ?_
          refine GA_v (i := 3) rfl rfl rfl (by kernel_rfl) (rv_fa fa113_3 vw) ?_
          refine GA_v (i := 4) rfl rfl rfl (by kernel_rfl) (rv_ld Tryz.underlying31 rfl vw) ?_
          refine GA_one 5 rfl rfl (by kernel_rfl) ?_
          refine GL_stA rfl rfl c30 (by simp [Value.oneCell']) (by rfl) ?_
          refine GL_nil ⟨inferInstance, ?_⟩
          refine GA_v (i := 6) rfl rfl rfl (by kernel_rfl) (rv_as (v := .int .i64 _) vw) ?_
          refine GA_nil (by kernel_rfl) ?_
          refine GC_shift .nil (msg0 {}) ?_
          refine GC_ret ?_
          exact finA (T' := [msgR { m := {} }]) (.inr rfl) rfl rfl rfl inferInstance a30 rfl .nil sb ⟨{ m := {} }, rfl, rfl, rfl, rfl⟩
        ·
          have he : e22 = 0 := by have := h5; simpa using this
          rw [finish_ok hc22 he] at hfin
          obtain rfl := hfin
          refine GC_skip ?_
          refine GC_seq ?_
          refine GC_region ?_
          refine GL_v rfl (rv_ldA (l := x.cells) a30 vw rfl) ?_
          refine GL_stA (l' := x.cells) rfl rfl c30 (MsgX.cells_one _) (by rfl) ?_
          refine GL_v rfl (rv_as (v := .int .i64 _) vw) ?_
          refine GL_nil ?_
          refine GC_ret ?_
          exact finA (T' := [msgR x]) (.inr rfl) rfl rfl rfl inferInstance a30 rfl .nil sb ⟨x, rfl, rfl, rfl, rfl⟩

theorem lay12R {dir : Int} {m : MsgD} {lay : List UInt8} (hf : m.few) (hL : L12 dir m = lay) : LayR dir m P12 W12 lay := by subst hL; exact ⟨rfl, L12_len dir m hf⟩
theorem rL12_ct (dir : Int) (x : MsgX) (hf : x.m.few) : Ct PG 130 [.int .i64 dir, .agg x.cells.toArray] [] [msgR x] (BytesR dir x.m P12 W12) := by
  refine Ct_of Tryz.func130 rfl 71 rfl (Nat.le_of_ble_eq_true rfl) fun w0 M N => ?_
  refine GC_msg x fun hx => ?_
  have hdata := hx.data
  have hobj := hx.objs
  have hsame := hx.1.2
  have hro := hx.2.2.2.2.2
  have hlay := @lay12R dir x.m (L12 dir x.m) hf rfl
  obtain ⟨f1, f2, f3, f4, f5, f6, f7⟩ := hf
  obtain ⟨l, hl⟩ : ∃ l, L12 dir x.m = l := ⟨_, rfl⟩
  rw [hl] at hlay
  simp only [L12] at hl
  refine GC_shift .nil (msg_data (x := x)) ?_
  refine GC_shift .nil (msg_objs (x := x)) ?_
  refine GC_seq ?_
  refine GC_region ?_
  refine GL_boxA (l := x.cells) rfl rfl (fun b3 => ?_)
  rw [x.cells_eq]
  refine GL_v rfl (rv_as (v := .slice _ _ _) vw) ?_
  refine GL_nil ?_
  refine GC_seq ?_
  refine GC_seq ?_
  refine GC_region ?_
  refine GL_v rfl (rv_fa fa30_16 vw) ?_
  refine GL_v rfl (rv_ld Tryz.underlying5 rfl vw) ?_
  refine GL_v rfl (rv_eql vw vw) ?_
  refine GL_nil ?_
  refine GC_cond rfl (fun h0 => ?_) (fun h0 => ?_)
  ·
    have c0 : x.m.mei.toNat = 13 := by have := h0; simp at this; omega
    rw [if_pos c0, show x.m.mei = 13 from u8_ext c0] at hl
    subst hl
    refine GC_seq ?_
    refine GC_region ?_
    refine GL_bs (l := bytesV [13]) rfl el22 z5 rfl rfl rfl (fun b10 => ?_)
    refine GL_shift (.cons .here .nil) (blk_own (n := 1) (sz := 1) rfl (by decide)) ?_
    refine GL_v rfl (rv_fa fa30_14 vw) ?_
    refine GL_v rfl (rv_ld Tryz.underlying22 rfl vw) ?_
    refine GL_app (m := x.d.n) rfl el22 rfl rfl pW (by rw [bytesV_length, hdata, Nat.mul_one]) (bytesV_one _) (by omega) (by simp [maxLen]; omega) (fun A5 k5 => ?_)
    rw [← bytesV_append]
    refine GL_shift (.cons .here .nil) own_toRow ?_
    refine GL_v rfl (rv_as (v := .slice _ _ _) vw) ?_
    refine GL_nil ?_
    refine GC_ret ?_
    exact fin1 (T' := [row 1 A5 (1 + x.d.n) k5 (bytesV ([13] ++ x.m.data))]) (.inr rfl) rfl rfl .nil sb ⟨_, hlay, A5, _, k5, rfl, rfl, rfl⟩
  ·
    have c0 : ¬ x.m.mei.toNat = 13 := by have := h0; simp at this; omega
    rw [if_neg c0] at hl
    refine GC_skip ?_
    refine GC_seq ?_
    refine GC_seq ?_
    refine GC_region ?_
    refine GL_v rfl (rv_mv (v := .int .i64 _) vw) ?_
    refine GL_v rfl (rv_eql vw vw) ?_
    refine GL_nil ?_
    refine GC_cond rfl (fun h1 => ?_) (fun h1 => ?_)
    ·
      have c1 : dir = 0 := by have := h1; simpa using this
      rw [if_pos c1] at hl
      subst hl
      refine GC_seq ?_
      refine GC_region ?_
      refine GL_v rfl (rv_fa fa30_16 vw) ?_
      refine GL_v rfl (rv_ld Tryz.underlying5 rfl vw) ?_
      refine GL_v rfl (rv_fa fa30_17 vw) ?_
      refine GL_v rfl (rv_ld Tryz.underlying5 rfl vw) ?_
      refine GL_v rfl (rv_fa fa30_20 vw) ?_
      refine GL_v rfl (rv_ld Tryz.underlying5 rfl vw) ?_
      refine GL_bs (l := bytesV [x.m.mei, x.m.kind, x.m.next]) rfl el22 z5 rfl rfl rfl (fun b22 => ?_)
      refine GL_shift (.cons .here .nil) (blk_own (n := 3) (sz := 1) rfl (by decide)) ?_
      refine GL_shift (.cons .here .nil) own_toRow ?_
      refine GL_v rfl (rv_as (v := .slice _ _ _) vw) ?_
      refine GL_nil ?_
      refine GC_ret ?_
      exact fin1 (.inr rfl) rfl rfl .nil sb ⟨_, hlay, _, 3, 3, rfl, rfl, rfl⟩
    ·
      have c1 : ¬ dir = 0 := by have := h1; simpa using this
      rw [if_neg c1] at hl
      refine GC_skip ?_
      refine GC_seq ?_
      refine GC_region ?_
      refine GL_v rfl (rv_fa fa30_16 vw) ?_
      refine GL_v rfl (rv_ld Tryz.underlying5 rfl vw) ?_
      refine GL_v rfl (rv_fa fa30_17 vw) ?_
      refine GL_v rfl (rv_ld Tryz.underlying5 rfl vw) ?_
      refine GL_v rfl (rv_fa fa30_18 vw) ?_
      refine GL_v rfl (rv_ld Tryz.underlying5 rfl vw) ?_
      refine GL_v rfl (rv_fa fa30_19 vw) ?_
      refine GL_v rfl (rv_ld Tryz.underlying5 rfl vw) ?_
      refine GL_v rfl (rv_fa fa30_20 vw) ?_
      refine GL_v rfl (rv_ld Tryz.underlying5 rfl vw) ?_
      refine GL_v rfl (rv_fa fa30_21 vw) ?_
      refine GL_v rfl (rv_ld Tryz.underlying28 rfl vw) ?_
      refine GL_v rfl (rv_len el28 vw) ?_
      refine GL_v rfl (rv_cnv (r := ((UInt8.ofNat x.o.n).toNat : Int)) Tryz.underlying3 Tryz.underlying5 vw (fun _ => wrap8 _)) ?_
      refine GL_bs (l := bytesV [x.m.mei, x.m.kind, x.m.level, x.m.more, x.m.next, UInt8.ofNat x.o.n]) rfl el22 z5 rfl rfl rfl (fun b37 => ?_)
      refine GL_shift (.cons .here .nil) (blk_own (n := 6) (sz := 1) rfl (by decide)) ?_
      refine GL_v rfl (rv_as (v := .slice _ _ _) vw) ?_
      refine GL_nil ?_
      refine GC_seq ?_
      refine GC_seq ?_
      refine GC_region ?_
      refine GL_v rfl (rv_as (v := .int .i64 _) vw) ?_
      refine GL_nil ?_
      refine GC_dropT (T' := [row 2 x.o.A x.o.n x.o.k (objsV x.m.objects x.ow), msgR x]) sb ?_
      refine GC_block ?_
      refine GC_loop (fun (i : Nat) E S T => i ≤ x.o.n ∧ ∃ Ao no ko, no = 6 + (objsB (x.m.objects.take i)).length ∧ no ≤ 6 + 302 * i ∧ At E [(3, .pointer (some ⟨b3, 0, none⟩)), (5, .slice Ao no ko), (6, .int .i64 i)] ∧ S = [own 5 1 Ao no ko (bytesV ([x.m.mei, x.m.kind, x.m.level, x.m.more, x.m.next, UInt8.ofNat x.o.n] ++ objsB (x.m.objects.take i))), blk b3 [b8 x.m.code, b8 x.m.fail, w16 x.m.addr, w16 x.m.count, w16 x.m.value, w16 x.m.and, w16 x.m.or, w16 x.m.addr2, w16 x.m.sub, w16 x.m.status, w16 x.m.events, w16 x.m.messages, .slice x.w.A x.w.n x.w.k, .slice x.b.A x.b.n x.b.k, .slice x.d.A x.d.n x.d.k, .slice x.r.A x.r.n x.r.k, b8 x.m.mei, b8 x.m.kind, b8 x.m.level, b8 x.m.more, b8 x.m.next, .slice x.o.A x.o.n x.o.k] 30] ∧ T = [row 2 x.o.A x.o.n x.o.k (objsV x.m.objects x.ow), msgR x]) (fun i => x.o.n - i) 0 ?_ ?_
      · refine ⟨Nat.zero_le _, _, 6, 6, rfl, Nat.le_refl _, ⟨rfl, rfl, rfl, trivial⟩, ?_, rfl⟩
        rfl
      rintro i E S T ⟨hi, Ao, no, ko, hno, hbd, hE, rfl, rfl⟩
      obtain ⟨E0, rfl⟩ := hE.ex
      refine GC_seq ?_
      refine GC_seq ?_
      refine GC_region ?_
      refine GL_v rfl (rv_mv (v := .int .i64 _) vw) ?_
      refine GL_v rfl (rv_fa fa30_21 vw) ?_
      refine GL_v rfl (rv_ld Tryz.underlying28 rfl vw) ?_
      refine GL_v rfl (rv_len el28 vw) ?_
      refine GL_v rfl (rv_lss vw vw) ?_
      refine GL_nil ?_
      refine GC_cond rfl (fun h2 => ?_) (fun h2 => ?_)
      ·
        have hlt : i < x.m.objects.length := by have := h2; simp at this; omega
        have hio : i < x.ow.length := by omega
        have hA : x.o.A ≠ none := hro.2.2.2.2 (by omega) (by decide)
        have hv := f7 _ (List.getElem_mem hlt)
        refine GC_shift .nil (msg_obj (x := x) i hlt hio) ?_
        refine GC_row (x.ow[i]'hio).A fun hrv => ?_
        have hvl : (x.m.objects[i]'hlt).value.length = (x.ow[i]'hio).n := by have := hrv.1; simpa [bytesV] using this
        refine GC_skip ?_
        refine GC_seq ?_
        refine GC_block ?_
        refine GC_seq ?_
        refine GC_draw 18 ([blk b3 [b8 x.m.code, b8 x.m.fail, w16 x.m.addr, w16 x.m.count, w16 x.m.value, w16 x.m.and, w16 x.m.or, w16 x.m.addr2, w16 x.m.sub, w16 x.m.status, w16 x.m.events, w16 x.m.messages, .slice x.w.A x.w.n x.w.k, .slice x.b.A x.b.n x.b.k, .slice x.d.A x.d.n x.d.k, .slice x.r.A x.r.n x.r.k, b8 x.m.mei, b8 x.m.kind, b8 x.m.level, b8 x.m.more, b8 x.m.next, .slice x.o.A x.o.n x.o.k] 30, row 2 x.o.A x.o.n x.o.k (objsV x.m.objects x.ow)]) mixed ?_
        refine GA_v (i := 0) rfl rfl rfl (by kernel_rfl) (rv_mv (v := .slice _ _ _) vw) ?_
        refine GA_v (i := 1) rfl rfl rfl (by kernel_rfl) (rv_fa fa30_21 vw) ?_
        refine GA_v (i := 2) rfl rfl rfl (by kernel_rfl) (rv_ld Tryz.underlying28 rfl vw) ?_
        refine GA_v (i := 3) rfl rfl rfl (by kernel_rfl) (rv_mv (v := .int .i64 _) vw) ?_
        refine GA_v (i := 4) rfl rfl rfl (by kernel_rfl) (rv_ix (i := i) el28 vw vw (fun _ => rfl) (fun _ => by omega) (fun _ => hA)) ?_
        refine GA_v (i := 5) rfl rfl rfl (by kernel_rfl) (rv_faE fa78_0 vw) ?_
        refine GA_v (i := 6) rfl rfl rfl (by kernel_rfl) (rv_ldE (sz := 2) (n := x.o.n) (c := x.o.k) (cells := objsV x.m.objects x.ow) (hl := ⟨fun w q => q _ (by simp)⟩) Tryz.underlying5 rfl vw (fun _ => objsV_id _ _ i hlt hio)) ?_
        refine GA_v (i := 7) rfl rfl rfl (by kernel_rfl) (rv_fa fa30_21 vw) ?_
        refine GA_v (i := 8) rfl rfl rfl (by kernel_rfl) (rv_ld Tryz.underlying28 rfl vw) ?_
        refine GA_v (i := 9) rfl rfl rfl (by kernel_rfl) (rv_mv (v := .int .i64 _) vw) ?_
        refine GA_v (i := 10) rfl rfl rfl (by kernel_rfl) (rv_ix (i := i) el28 vw vw (fun _ => rfl) (fun _ => by omega) (fun _ => hA)) ?_
        refine GA_v (i := 11) rfl rfl rfl (by kernel_rfl) (rv_faE fa78_1 vw) ?_
        refine GA_v (i := 12) rfl rfl rfl (by kernel_rfl) (rv_ldE (sz := 2) (n := x.o.n) (c := x.o.k) (cells := objsV x.m.objects x.ow) (hl := ⟨fun w q => q _ (by simp)⟩) Tryz.underlying22 rfl vw (fun _ => objsV_val _ _ i hlt hio)) ?_
        refine GA_v (i := 13) rfl rfl rfl (by kernel_rfl) (rv_len el22 vw) ?_
        refine GA_v (i := 14) rfl rfl rfl (by kernel_rfl) (rv_cnv (r := ((UInt8.ofNat (x.ow[i]'hio).n).toNat : Int)) Tryz.underlying3 Tryz.underlying5 vw (fun _ => wrap8 _)) ?_
        refine GA_one 15 rfl rfl (by kernel_rfl) ?_
        refine GL_bs (l := bytesV [(x.m.objects[i]'hlt).id, UInt8.ofNat (x.ow[i]'hio).n]) rfl el22 z5 rfl rfl rfl (fun b60 => ?_)
        refine GL_shift (.cons .here .nil) (blk_own (n := 2) (sz := 1) rfl (by decide)) ?_
        refine GL_shift (.cons .here .nil) own_toRow ?_
        refine GL_nil ⟨inferInstance, ?_⟩
        refine GA_one 16 rfl rfl (by kernel_rfl) ?_
        refine GL_app (m := 2) rfl el22 rfl rfl pW rfl (bytesV_one _) (by omega) (by simp [maxLen]; omega) (fun A3 k3 => ?_)
        refine GL_nil ⟨inferInstance, ?_⟩
        refine GA_v (i := 17) rfl rfl rfl (by kernel_rfl) (rv_as (v := .slice _ _ _) vw) ?_
        refine GA_nil (by kernel_rfl) ?_
        refine GC_region ?_
        refine GL_v rfl (rv_mv (v := .slice _ _ _) vw) ?_
        refine GL_v rfl (rv_fa fa30_21 vw) ?_
        refine GL_v rfl (rv_ld Tryz.underlying28 rfl vw) ?_
        refine GL_v rfl (rv_mv (v := .int .i64 _) vw) ?_
        refine GL_v rfl (rv_ix (i := i) el28 vw vw (fun _ => rfl) (fun _ => by omega) (fun _ => hA)) ?_
        refine GL_v rfl (rv_faE fa78_1 vw) ?_
        refine GL_v rfl (rv_ldE (sz := 2) (n := x.o.n) (c := x.o.k) (cells := objsV x.m.objects x.ow) (hl := ⟨fun w q => q.sat.okT _ (by simp)⟩) Tryz.underlying22 rfl vw (fun _ => objsV_val _ _ i hlt hio)) ?_
        refine GL_app (m := (x.ow[i]'hio).n) rfl el22 rfl rfl pW (by rw [bytesV_length, hvl, Nat.mul_one]) (bytesV_one _) (by omega) (by simp [maxLen]; omega) (fun A4 k4 => ?_)
        refine GL_v rfl (rv_as (v := .slice _ _ _) vw) ?_
        refine GL_nil ?_
        refine GC_region ?_
        refine GL_v rfl (rv_mv (v := .int .i64 _) vw) ?_
        refine GL_v rfl (rv_add (r := ((i + 1 : Nat) : Int)) vw vw (fun _ => by rw [IntWalk.i64_in _ (by omega)]; omega)) ?_
        refine GL_v rfl (rv_as (v := .int .i64 _) vw) ?_
        rw [← bytesV_append, ← bytesV_append, ← hvl, List.append_assoc, List.append_assoc, show objsB (x.m.objects.take i) ++ ([(x.m.objects[i]'hlt).id, UInt8.ofNat (x.m.objects[i]'hlt).value.length] ++ (x.m.objects[i]'hlt).value) = objsB (x.m.objects.take (i + 1)) by rw [take_snoc _ i hlt, objsB_snoc]]
        refine GL_dropT (T' := [row 2 x.o.A x.o.n x.o.k (objsV x.m.objects x.ow), msgR x]) sb ?_
        refine GL_nil ?_
        refine ⟨i + 1, ⟨by omega, A4, _, k4, ?_, ?_, ⟨rfl, rfl, rfl, trivial⟩, rfl, rfl⟩, by omega⟩
        · rw [take_snoc _ i hlt, objsB_snoc]; simp; omega
        · omega
      ·
        obtain rfl : i = x.o.n := by have := h2; simp at this; omega
        rw [List.take_of_length_le (by omega)] at hno ⊢
        rw [hobj] at hl
        subst hl
        refine GC_shift (.cons .here .nil) own_toRow ?_
        refine GC_exit ?_
        refine GC_seq ?_
        refine GC_region ?_
        refine GL_v rfl (rv_mv (v := .slice _ _ _) vw) ?_
        refine GL_v rfl (rv_as (v := .slice _ _ _) vw) ?_
        refine GL_nil ?_
        refine GC_ret ?_
        exact fin1 (.inr rfl) rfl rfl .nil sb ⟨_, hlay, Ao, _, ko, rfl, rfl, rfl⟩
theorem rW12_ct (dir : Int) (x : MsgX) (hf : x.m.few) : Ct PG 71 [.int .i64 dir, .agg x.cells.toArray] [] [msgR x] (BytesOut (W12 dir x.m)) := by
  refine Ct_of Tryz.func71 rfl 31 rfl (Nat.le_of_ble_eq_true rfl) fun w0 M N => ?_
  refine GC_seq ?_
  refine GC_region ?_
  refine GL_boxA (l := x.cells) rfl rfl (fun b3 => ?_)
  refine GL_v rfl (rv_as (v := .slice _ _ _) vw) ?_
  refine GL_v rfl (rv_as (v := .int .i64 _) vw) ?_
  refine GL_nil ?_
  refine GC_seq ?_
  refine GC_region ?_
  refine GL_v rfl (rv_mv (v := .int .i64 _) vw) ?_
  refine GL_v rfl (rv_ldA (l := x.cells) a30 vw rfl) ?_
  refine GL_call rfl cb130 (rL12_ct dir x hf) rfl .nil sb ?_
  rintro _ _ _ ⟨lay, ⟨hW, hlen⟩, A, n, k, rfl, rfl, rfl⟩
  simp only [List.cons_append, List.nil_append]
  refine GL_row A fun hr => ?_
  have hn : lay.length = n := by have := hr.1; simpa [bytesV] using this
  refine GL_v rfl (rv_as (v := .slice _ _ _) vw) ?_
  refine GL_nil ?_
  refine GC_seq ?_
  refine GC_region ?_
  refine GL_v rfl (rv_mv (v := .int .i64 _) vw) ?_
  refine GL_v rfl (rv_fa fa30_0 vw) ?_
  rw [x.cells_eq]
  refine GL_v rfl (rv_ld (v := b8 x.m.code) Tryz.underlying5 rfl vw) ?_
  refine GL_v rfl (rv_mv (v := .slice _ _ _) vw) ?_
  refine GL_call rfl cb62 (rP12_ct dir x.m.code A n k lay (by omega)) rfl .nil sb ?_
  rintro _ _ _ ⟨y, rfl, hy, rfl, rfl⟩
  simp only [List.cons_append, List.nil_append]
  obtain ⟨p, e, hp⟩ : ∃ p e, P12 dir x.m.code lay = (p, e) := ⟨_, _, rfl⟩
  rw [hp] at hy ⊢
  simp only at hy ⊢
  refine GL_v rfl (rv_mv (v := .tuple [.agg y.cells.toArray, .int .i64 e].toArray) vw) ?_
  refine GL_v rfl (rv_ext vw rfl) ?_
  refine GL_v rfl (rv_ext vw rfl) ?_
  refine GL_alloc rfl z30 (fun b7 => ?_)
  refine GL_stA (l' := y.cells) rfl rfl c30 (MsgX.cells_one _) (by rfl) ?_
  rw [← x.cells_eq]
  refine GL_v rfl (rv_as (v := .int .i64 _) vw) ?_
  refine GL_nil ?_
  refine GC_seq ?_
  refine GC_region ?_
  refine GL_v rfl (rv_ldA (l := y.cells) a30 vw rfl) ?_
  refine GL_v rfl (rv_ldA (l := x.cells) a30 vw rfl) ?_
  refine GL_callD rfl cb17 (rSame_ct y x) rfl .nil sb ?_
  refine GL_v rfl (rv_as (v := .bool _) vw) ?_
  refine GL_nil ?_
  refine GC_seq ?_
  refine GC_seq ?_
  refine GC_region ?_
  refine GL_v rfl (rv_mv (v := .int .i64 _) vw) ?_
  refine GL_v rfl (rv_neq vw vw) ?_
  refine GL_v rfl (rv_mv (v := .bool _) vw) ?_
  refine GL_g rfl rfl gvf (rv_mv (v := .bool _) vw) ?_
  refine GL_g rfl rfl gvf (rv_not vwg) ?_
  refine GL_v rfl (rv_or vw vwg) ?_
  refine GL_nil ?_
  refine GC_cond rfl (fun h0 => ?_) (fun h0 => ?_)
  ·
    have hh : ¬ (e = 0 ∧ p = x.m) := by
      rintro ⟨rfl, rfl⟩
      have q := h0
      rw [hy] at q; simp at q
    have he : W12 dir x.m = ([], 1) := by rw [hW]; unfold writeBy; rw [hp]; exact if_neg hh
    rw [he]
    refine GC_seq ?_
    refine GC_region ?_
    refine GL_v rfl (rv_as (v := .slice _ _ _) vw) ?_
    refine GL_v rfl (rv_as (v := .int .i64 _) vw) ?_
    refine GL_nil ?_
    refine GC_shift .nil (nil_row (sz := 1)) ?_
    refine GC_ret ?_
    exact fin2 (T' := [row 1 none 0 0 []]) (.inr rfl) rfl rfl rfl .nil sb ⟨none, 0, 0, rfl, rfl, rfl⟩
  ·
    have hh : e = 0 ∧ p = x.m := by
      have q := h0
      rw [hy] at q; simpa using q
    have he : W12 dir x.m = (lay, 0) := by rw [hW]; unfold writeBy; rw [hp]; exact if_pos hh
    rw [he]
    refine GC_skip ?_
    refine GC_seq ?_
    refine GC_region ?_
    refine GL_v rfl (rv_mv (v := .slice _ _ _) vw) ?_
    refine GL_v rfl (rv_as (v := .slice _ _ _) vw) ?_
    refine GL_v rfl (rv_as (v := .int .i64 _) vw) ?_
    refine GL_nil ?_
    refine GC_ret ?_
    exact fin2 (.inr rfl) rfl rfl rfl .nil sb ⟨A, n, k, rfl, rfl, rfl⟩
end Go.Bus
