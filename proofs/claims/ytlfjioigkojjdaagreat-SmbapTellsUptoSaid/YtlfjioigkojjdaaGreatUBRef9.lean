/- Part of the proof: Ref9. No condition. -/
import Derived.Test.YtlfjioigkojjdaaGreatUBRef8
import Derived.Test.YtlfjioigkojjdaaGreatUBRegs
set_option linter.unusedVariables false
set_option linter.unusedSimpArgs false
set_option maxRecDepth 100000
set_option maxHeartbeats 8000000
namespace Go.Bus
open Go Go.Proofs
theorem ev2 (n : Int) : (decide (n % 2 = 0) && decide (0 < n)) = (decide (n % 2 = 0) && decide (2 ≤ n)) := by
 rw [Bool.eq_iff_iff]; simp; omega
theorem eq22 (n k : Int) : decide (n = 2 * k + 2) = decide (2 + 2 * k = n) := by congr 1; apply propext; omega
theorem rspanN_ct (B n k p : Nat) (A : Option Addr) (l : List UInt8) (s : Bool) (e : Int) (a : UInt16) (most : Int) (hp : p ≤ n ∧ n ≤ 35184372088832) : Ct PG 119 [.pointer (some ⟨B, 0, none⟩), w16 a, .int .i64 most] [rcub B A n k p s e] [row 1 A n k (bytesV l)]
 (fun v S' T' => ∃ j p1 s1 e1, spanN most a ⟨l.drop p, s, e⟩ = (j, ⟨l.drop p1, s1, e1⟩) ∧ (p1 ≤ n ∧ n ≤ 35184372088832) ∧ v = .int .i64 (UInt16.toNat j) ∧ S' = [rcub B A n k p1 s1 e1] ∧ T' = []) := by
 refine Ct_of Tryz.func119 rfl 26 rfl (Nat.le_of_ble_eq_true rfl) fun w0 M N => ?_
 refine GC_seq ?_
 refine GC_region ?_
 refine GL_v rfl (rv_as (v := .int .i64 _) vw) ?_
 refine GL_nil ?_
 refine GC_seq ?_
 refine GC_region ?_
 refine GL_v rfl (rv_mv (v := .pointer _) vw) ?_
 refine GL_call rfl cb114 (rWord_k B n k p A l s e hp) rfl pB sR ?_
 rintro _ _ _ ⟨j, p1, s1, e1, hc1, hp1, rfl, rfl, rfl⟩
 simp only [List.cons_append, List.nil_append]
 have hj := j.toNat_lt
 refine GL_v rfl (rv_cnv (r := (j.toNat : Int)) Tryz.underlying24 Tryz.underlying3 vw (fun _ => IntWalk.i64_in _ (by omega))) ?_
 refine GL_v rfl (rv_as (v := .int .i64 _) vw) ?_
 refine GL_nil ?_
 refine GC_seq ?_
 refine GC_region ?_
 refine GL_v rfl (rv_mv (v := .pointer _) vw) ?_
 refine GL_v rfl (rv_mv (v := .int .i64 _) vw) ?_
 refine GL_v rfl (rv_gtr vw vw) ?_
 refine GL_v rfl (rv_mv (v := .bool _) vw) ?_
 refine GL_g rfl rfl gvt (rv_mv (v := .int .i64 _) vw) ?_
 refine GL_g rfl rfl gvt (rv_mv (v := .int .i64 _) vw) ?_
 refine GL_g rfl rfl gvt (rv_leq vwg vwg) ?_
 refine GL_v rfl (rv_and vw vwg) ?_
 refine GL_call rfl cb112 (rNeed_k B n k p1 A l s1 e1 (decide ((0 : Int) < j.toNat) && decide ((j.toNat : Int) ≤ most)) 5) rfl pB .nil ?_
 rintro _ _ _ ⟨e2, hc2, rfl, rfl, rfl⟩
 simp only [List.cons_append, List.nil_append]
 rw [lt1] at hc2
 refine GL_nil ?_
 refine GC_seq ?_
 refine GC_region ?_
 refine GL_v rfl (rv_mv (v := .pointer _) vw) ?_
 refine GL_v rfl (rv_mv (v := w16 a) vw) ?_
 refine GL_v rfl (rv_mv (v := .int .i64 _) vw) ?_
 refine GL_callD rfl cb173 (rWithin_ct a j.toNat (by omega)) rfl .nil .nil ?_
 refine GL_call rfl cb112 (rNeed_k B n k p1 A l s1 e2 (within a j.toNat) 7) rfl pB .nil ?_
 rintro _ _ _ ⟨e3, hc3, rfl, rfl, rfl⟩
 simp only [List.cons_append, List.nil_append]
 refine GL_nil ?_
 refine GC_seq ?_
 refine GC_region ?_
 refine GL_v rfl (rv_mv (v := .int .i64 _) vw) ?_
 refine GL_v rfl (rv_as (v := .int .i64 _) vw) ?_
 refine GL_nil ?_
 refine GC_ret ?_
 exact fin1 (.inr rfl) rfl rfl pB sb ⟨j, p1, s1, e3, by simp only [spanN, hc1, hc2, hc3], hp1, rfl, rfl, rfl⟩
theorem rP09_ct (dir : Int) (code : UInt8) (A : Option Addr) (n k : Nat) (b : List UInt8) (hn : n ≤ 35184372088832) : Ct PG 59 [.int .i64 dir, b8 code, .slice A n k] [] [row 1 A n k (bytesV b)] (MsgOut (P09 dir code b)) := by
 refine Ct_of Tryz.func59 rfl 221 rfl (Nat.le_of_ble_eq_true rfl) fun w0 M N => ?_
 refine GC_row A fun hrow => ?_
 have hbl : b.length = n := by have := hrow.1; simpa [bytesV] using this
 obtain ⟨pp, hpp⟩ : ∃ pp, P09 dir code b = pp := ⟨_, rfl⟩
 rw [hpp]
 refine GC_seq ?_
 refine GC_region ?_
 refine GL_alloc rfl z30 (fun b6 => ?_)
 refine GL_v rfl (rv_as (v := .int .i64 _) vw) ?_
 refine GL_nil ?_
 refine GC_seq ?_
 refine GC_seq ?_
 refine GC_region ?_
 refine GL_v rfl (rv_mv (v := .int .i64 _) vw) ?_
 refine GL_v rfl (rv_neq vw vw) ?_
 refine GL_v rfl (rv_mv (v := .bool _) vw) ?_
 refine GL_g rfl rfl gvt (rv_mv (v := .int .i64 _) vw) ?_
 refine GL_g rfl rfl gvt (rv_neq vwg vw) ?_
 refine GL_v rfl (rv_and vw vwg) ?_
 refine GL_nil ?_
 refine GC_cond rfl (fun h0 => ?_) (fun h0 => ?_)
 ·
  have hd : dir ≠ 0 ∧ dir ≠ 1 := by have := h0; simpa using this
  have he : P09 dir code b = ({}, 1) := if_pos hd
  obtain rfl := hpp.symm.trans he
  refine GC_seq ?_
  refine GC_region ?_
  refine GL_v rfl (rv_bld (z' := [.int .u8 0, .int .u8 0, .int .u16 0, .int .u16 0, .int .u16 0, .int .u16 0, .int .u16 0, .int .u16 0, .int .u16 0, .int .u16 0, .int .u16 0, .int .u16 0, .slice none 0 0, .slice none 0 0, .slice none 0 0, .slice none 0 0, .int .u8 0, .int .u8 0, .int .u8 0, .int .u8 0, .int .u8 0, .slice none 0 0]) z30 l30 (fun _ => rfl)) ?_
  refine GL_stA rfl rfl c30 (by simp [Value.oneCell']) (by rfl) ?_
  refine GL_v rfl (rv_as (v := .int .i64 _) vw) ?_
  refine GL_nil ?_
  refine GC_shift .nil (msg0 {}) ?_
  refine GC_ret ?_
  exact finA (T' := [msgR { m := {} }]) (.inr rfl) rfl rfl rfl inferInstance a30 rfl .nil sb ⟨{ m := {} }, rfl, rfl, rfl, rfl⟩
 ·
  have hd : ¬ (dir ≠ 0 ∧ dir ≠ 1) := by have := h0; simpa using this
  simp only [P09, parseBy, if_neg hd] at hpp
  have hcode := code.toNat_lt
  refine GC_skip ?_
  refine GC_seq ?_
  refine GC_region ?_
  refine GL_v rfl (rv_mv (v := .slice _ _ _) vw) ?_
  refine GL_v rfl (rv_bld (z' := [.slice _ _ _, .int .i64 0, .bool false, .int .i64 0]) z113 l113 (fun _ => rfl)) ?_
  refine GL_boxA rfl rfl (fun b25 => ?_)
  refine GL_v rfl (rv_as (v := .pointer _) vw) ?_
  refine GL_nil ?_
  refine GC_seq ?_
  refine GC_region ?_
  refine GL_v rfl (rv_mv (v := b8 code) vw) ?_
  refine GL_v rfl (rv_bld (z' := [.int .u8 _, .int .u8 0, .int .u16 0, .int .u16 0, .int .u16 0, .int .u16 0, .int .u16 0, .int .u16 0, .int .u16 0, .int .u16 0, .int .u16 0, .int .u16 0, .slice none 0 0, .slice none 0 0, .slice none 0 0, .slice none 0 0, .int .u8 0, .int .u8 0, .int .u8 0, .int .u8 0, .int .u8 0, .slice none 0 0]) z30 l30 (fun _ => rfl)) ?_
  refine GL_alloc rfl z30 (fun b9 => ?_)
  refine GL_stA (l' := [b8 code, .int .u8 0, .int .u16 0, .int .u16 0, .int .u16 0, .int .u16 0, .int .u16 0, .int .u16 0, .int .u16 0, .int .u16 0, .int .u16 0, .int .u16 0, .slice none 0 0, .slice none 0 0, .slice none 0 0, .slice none 0 0, .int .u8 0, .int .u8 0, .int .u8 0, .int .u8 0, .int .u8 0, .slice none 0 0]) rfl rfl c30 (by simp [b8, Value.oneCell']) (by rfl) ?_
  refine GL_nil ?_
  refine GC_seq ?_
  refine GC_cutM (fun E S T => ∃ (x : MsgX) (p : Nat) (s : Bool) (e : Int), finish (x.m, ⟨b.drop p, s, e⟩) = pp ∧ (p ≤ n ∧ n ≤ 35184372088832) ∧ At E [(6, .pointer (some ⟨b6, 0, none⟩)), (8, .pointer (some ⟨b25, 0, none⟩)), (9, .pointer (some ⟨b9, 0, none⟩))] ∧ S = [rcub b25 A n k p s e, blk b9 x.cells 30, blk b6 (MsgX.cells { m := {} }) 30] ∧ T = [msgR x, row 1 A n k (bytesV b)]) ?_ ?_
  ·
   refine GC_block ?_
   refine GC_seq ?_
   refine GC_region ?_
   refine GL_v rfl (rv_mv (v := .int .i64 _) vw) ?_
   refine GL_v rfl (rv_eql vw vw) ?_
   refine GL_v rfl (rv_mv (v := .bool _) vw) ?_
   refine GL_g rfl rfl gvt (rv_mv (v := .int .u8 _) vw) ?_
   refine GL_g rfl rfl gvt (rv_eql vwg vw) ?_
   refine GL_g rfl rfl gvt (rv_mv (v := .bool _) vwg) ?_
   refine GL_g rfl rfl gvgf (rv_mv (v := .int .u8 _) vw) ?_
   refine GL_g rfl rfl gvgf (rv_eql vwg vw) ?_
   refine GL_g rfl rfl gvt (rv_or vwg vwg) ?_
   refine GL_g rfl rfl gvt (rv_mv (v := .bool _) vwg) ?_
   refine GL_g rfl rfl gvgf (rv_mv (v := .int .u8 _) vw) ?_
   refine GL_g rfl rfl gvgf (rv_eql vwg vw) ?_
   refine GL_g rfl rfl gvt (rv_or vwg vwg) ?_
   refine GL_v rfl (rv_and vw vwg) ?_
   refine GL_v rfl (rv_as (v := .bool _) vw) ?_
   refine GL_nil ?_
   refine GC_cond rfl (fun h1 => ?_) (fun h1 => ?_)
   ·
    have g : dir = 1 ∧ (code.toNat = 3 ∨ code.toNat = 4 ∨ code.toNat = 23) := by have := h1; simp at this; omega
    have hf : form09 dir code = some toldR := by unfold form09; rw [if_neg (by omega), if_pos (by omega)]
    simp only [hf] at hpp
    refine GC_seq ?_
    refine GC_region ?_
    refine GL_v rfl (rv_mv (v := .pointer _) vw) ?_
    refine GL_call rfl cb111 (rByte_k b25 n k 0 A b false 0 ⟨Nat.zero_le _, hn⟩) rfl pB sR ?_
    rintro _ _ _ ⟨a, p1, s1, e1, hc1, hp1, rfl, rfl, rfl⟩
    simp only [List.cons_append, List.nil_append]
    have ha := a.toNat_lt
    refine GL_v rfl (rv_cnv (r := (a.toNat : Int)) Tryz.underlying5 Tryz.underlying3 vw (fun _ => IntWalk.i64_in _ (by omega))) ?_
    refine GL_v rfl (rv_as (v := .int .i64 _) vw) ?_
    refine GL_nil ?_
    refine GC_seq ?_
    refine GC_region ?_
    refine GL_v rfl (rv_mv (v := .pointer _) vw) ?_
    refine GL_v rfl (rv_mv (v := .int .i64 _) vw) ?_
    refine GL_v rfl (rv_rem (r := (a.toNat : Int) % 2) vw vw (fun _ => by decide) (fun _ => Int.tmod_eq_emod_of_nonneg (by omega))) ?_
    refine GL_v rfl (rv_eql vw vw) ?_
    refine GL_v rfl (rv_mv (v := .bool _) vw) ?_
    refine GL_g rfl rfl gvt (rv_mv (v := .int .i64 _) vw) ?_
    refine GL_g rfl rfl gvt (rv_gtr vwg vw) ?_
    refine GL_v rfl (rv_and vw vwg) ?_
    refine GL_v rfl (rv_mv (v := .bool _) vw) ?_
    refine GL_g rfl rfl gvt (rv_mv (v := .int .i64 _) vw) ?_
    refine GL_g rfl rfl gvt (rv_leq vwg vw) ?_
    refine GL_v rfl (rv_and vw vwg) ?_
    refine GL_call rfl cb112 (rNeed_k b25 n k p1 A b s1 e1 (decide ((a.toNat : Int) % 2 = 0) && decide ((0 : Int) < a.toNat) && decide ((a.toNat : Int) ≤ 250)) 5) rfl pB .nil ?_
    rintro _ _ _ ⟨e2, hc2, rfl, rfl, rfl⟩
    simp only [List.cons_append, List.nil_append]
    rw [ev2] at hc2
    refine GL_nil ?_
    refine GC_region ?_
    refine GL_v rfl (rv_mv (v := .pointer _) vw) ?_
    refine GL_v rfl (rv_mv (v := .int .i64 _) vw) ?_
    refine GL_v rfl (rv_quo (r := (a.toNat : Int) / 2) vw vw (fun _ => by decide) (fun _ => by rw [Int.tdiv_eq_ediv_of_nonneg (by omega)]; exact IntWalk.i64_in _ (by omega))) ?_
    refine GL_call rfl cb118 (rWords_k b25 n k p1 A b s1 e2 ((a.toNat : Int) / 2) hp1) rfl pB sR ?_
    rintro _ _ _ ⟨v, p3, s3, e3, Ax3, nx3, kx3, hc3, hp3, rfl, rfl, rfl⟩
    simp only [List.cons_append, List.nil_append]
    refine GL_shift .nil (msgWords { code := code, words := v } ⟨Ax3, nx3, kx3⟩) ?_
    refine GL_v rfl (rv_fa fa30_12 vw) ?_
    refine GL_st (u := .slice _ _ _) rfl rfl c25 rfl ?_
    refine GL_nil ?_
    show Weak _ _ _ _
    exact weak pB3 sb ⟨{ m := { code := code, words := v }, w := ⟨Ax3, nx3, kx3⟩ }, p3, s3, e3, by rw [← hpp]; simp only [toldR]; rw [show (⟨b, false, 0⟩ : Cu) = ⟨b.drop 0, false, 0⟩ from rfl]; simp only [hc1, hc2, hc3], hp3, ⟨rfl, rfl, rfl, trivial⟩, rfl, rfl⟩
   ·
    have g0 : ¬ (dir = 1 ∧ (code.toNat = 3 ∨ code.toNat = 4 ∨ code.toNat = 23)) := by have := h1; simp at this; omega
    refine GC_seq ?_
    refine GC_region ?_
    refine GL_v rfl (rv_mv (v := .int .u8 _) vw) ?_
    refine GL_v rfl (rv_eql vw vw) ?_
    refine GL_v rfl (rv_mv (v := .bool _) vw) ?_
    refine GL_g rfl rfl gvf (rv_mv (v := .int .u8 _) vw) ?_
    refine GL_g rfl rfl gvf (rv_eql vwg vw) ?_
    refine GL_v rfl (rv_or vw vwg) ?_
    refine GL_v rfl (rv_as (v := .bool _) vw) ?_
    refine GL_nil ?_
    refine GC_cond rfl (fun h2 => ?_) (fun h2 => ?_)
    ·
     have g : dir = 0 ∧ (code.toNat = 3 ∨ code.toNat = 4) := by have := h2; simp at this; omega
     have hf : form09 dir code = some (asksR 125) := by unfold form09; rw [if_pos g]
     simp only [hf] at hpp
     refine GC_seq ?_
     refine GC_region ?_
     refine GL_v rfl (rv_mv (v := .pointer _) vw) ?_
     refine GL_call rfl cb114 (rWord_k b25 n k 0 A b false 0 ⟨Nat.zero_le _, hn⟩) rfl pB sR ?_
     rintro _ _ _ ⟨a, p4, s4, e4, hc4, hp4, rfl, rfl, rfl⟩
     simp only [List.cons_append, List.nil_append]
     refine GL_v rfl (rv_fa fa30_2 vw) ?_
     refine GL_st (u := w16 a) rfl rfl c24 rfl ?_
     refine GL_nil ?_
     refine GC_region ?_
     refine GL_v rfl (rv_mv (v := .pointer _) vw) ?_
     refine GL_v rfl (rv_fa fa30_2 vw) ?_
     refine GL_v rfl (rv_ld Tryz.underlying24 rfl vw) ?_
     refine GL_call rfl cb119 (rspanN_ct b25 n k p4 A b s4 e4 a 125 hp4) rfl pB sR ?_
     rintro _ _ _ ⟨j, p5, s5, e5, hc5, hp5, rfl, rfl, rfl⟩
     simp only [List.cons_append, List.nil_append]
     have hj := j.toNat_lt
     refine GL_v rfl (rv_cnv (r := (j.toNat : Int)) Tryz.underlying3 Tryz.underlying24 vw (fun _ => IntWalk.u16_in _ (by omega))) ?_
     refine GL_v rfl (rv_fa fa30_3 vw) ?_
     refine GL_st (u := w16 j) rfl rfl c24 rfl ?_
     refine GL_shift .nil (msg0 { code := code, addr := a, count := j }) ?_
     refine GL_nil ?_
     show Weak _ _ _ _
     exact weak pB3 sb ⟨{ m := { code := code, addr := a, count := j } }, p5, s5, e5, by rw [← hpp]; simp only [asksR]; rw [show (⟨b, false, 0⟩ : Cu) = ⟨b.drop 0, false, 0⟩ from rfl]; simp only [spanC_spanN hc4 hc5], hp5, ⟨rfl, rfl, rfl, trivial⟩, rfl, rfl⟩
    ·
     have g1 : ¬ (code.toNat = 3 ∨ code.toNat = 4) := by have := h2; simp at this; omega
     refine GC_seq ?_
     refine GC_region ?_
     refine GL_v rfl (rv_mv (v := .int .u8 _) vw) ?_
     refine GL_v rfl (rv_eql vw vw) ?_
     refine GL_v rfl (rv_as (v := .bool _) vw) ?_
     refine GL_nil ?_
     refine GC_cond rfl (fun h3 => ?_) (fun h3 => ?_)
     ·
      have g : code.toNat = 6 := by have := h3; simp at this; omega
      have hf : form09 dir code = some oneR := by unfold form09; rw [if_neg (by omega), if_neg (by omega), if_pos g]
      simp only [hf] at hpp
      refine GC_seq ?_
      refine GC_region ?_
      refine GL_v rfl (rv_mv (v := .pointer _) vw) ?_
      refine GL_call rfl cb114 (rWord_k b25 n k 0 A b false 0 ⟨Nat.zero_le _, hn⟩) rfl pB sR ?_
      rintro _ _ _ ⟨a, p6, s6, e6, hc6, hp6, rfl, rfl, rfl⟩
      simp only [List.cons_append, List.nil_append]
      refine GL_v rfl (rv_fa fa30_2 vw) ?_
      refine GL_st (u := w16 a) rfl rfl c24 rfl ?_
      refine GL_nil ?_
      refine GC_region ?_
      refine GL_v rfl (rv_mv (v := .pointer _) vw) ?_
      refine GL_call rfl cb114 (rWord_k b25 n k p6 A b s6 e6 hp6) rfl pB sR ?_
      rintro _ _ _ ⟨j, p7, s7, e7, hc7, hp7, rfl, rfl, rfl⟩
      simp only [List.cons_append, List.nil_append]
      refine GL_v rfl (rv_fa fa30_4 vw) ?_
      refine GL_st (u := w16 j) rfl rfl c24 rfl ?_
      refine GL_shift .nil (msg0 { code := code, addr := a, value := j }) ?_
      refine GL_nil ?_
      show Weak _ _ _ _
      exact weak pB3 sb ⟨{ m := { code := code, addr := a, value := j } }, p7, s7, e7, by rw [← hpp]; simp only [oneR]; rw [show (⟨b, false, 0⟩ : Cu) = ⟨b.drop 0, false, 0⟩ from rfl]; simp only [hc6, hc7], hp7, ⟨rfl, rfl, rfl, trivial⟩, rfl, rfl⟩
     ·
      have g6 : ¬ code.toNat = 6 := by have := h3; simp at this; omega
      refine GC_seq ?_
      refine GC_region ?_
      refine GL_v rfl (rv_mv (v := .int .u8 _) vw) ?_
      refine GL_v rfl (rv_eql vw vw) ?_
      refine GL_v rfl (rv_as (v := .bool _) vw) ?_
      refine GL_nil ?_
      refine GC_cond rfl (fun h4 => ?_) (fun h4 => ?_)
      ·
       have g : code.toNat = 16 := by have := h4; simp at this; omega
       refine GC_seq ?_
       refine GC_region ?_
       refine GL_v rfl (rv_mv (v := .pointer _) vw) ?_
       refine GL_call rfl cb114 (rWord_k b25 n k 0 A b false 0 ⟨Nat.zero_le _, hn⟩) rfl pB sR ?_
       rintro _ _ _ ⟨a, p8, s8, e8, hc8, hp8, rfl, rfl, rfl⟩
       simp only [List.cons_append, List.nil_append]
       refine GL_v rfl (rv_fa fa30_2 vw) ?_
       refine GL_st (u := w16 a) rfl rfl c24 rfl ?_
       refine GL_nil ?_
       refine GC_seq ?_
       refine GC_region ?_
       refine GL_v rfl (rv_mv (v := .pointer _) vw) ?_
       refine GL_v rfl (rv_fa fa30_2 vw) ?_
       refine GL_v rfl (rv_ld Tryz.underlying24 rfl vw) ?_
       refine GL_call rfl cb119 (rspanN_ct b25 n k p8 A b s8 e8 a 123 hp8) rfl pB sR ?_
       rintro _ _ _ ⟨j, p9, s9, e9, hc9, hp9, rfl, rfl, rfl⟩
       simp only [List.cons_append, List.nil_append]
       have hj := j.toNat_lt
       refine GL_v rfl (rv_cnv (r := (j.toNat : Int)) Tryz.underlying3 Tryz.underlying24 vw (fun _ => IntWalk.u16_in _ (by omega))) ?_
       refine GL_v rfl (rv_fa fa30_3 vw) ?_
       refine GL_st (u := w16 j) rfl rfl c24 rfl ?_
       refine GL_nil ?_
       refine GC_seq ?_
       refine GC_region ?_
       refine GL_v rfl (rv_mv (v := .int .i64 _) vw) ?_
       refine GL_v rfl (rv_eql vw vw) ?_
       refine GL_nil ?_
       refine GC_cond rfl (fun h5 => ?_) (fun h5 => ?_)
       ·
        have gd : dir = 0 := by have := h5; simpa using this
        have hf : form09 dir code = some manyR := by unfold form09; rw [if_neg (by omega), if_neg (by omega), if_neg (by omega), if_pos g, if_pos gd]
        simp only [hf] at hpp
        refine GC_seq ?_
        refine GC_region ?_
        refine GL_v rfl (rv_mv (v := .pointer _) vw) ?_
        refine GL_call rfl cb111 (rByte_k b25 n k p9 A b s9 e9 hp9) rfl pB sR ?_
        rintro _ _ _ ⟨q, p10, s10, e10, hc10, hp10, rfl, rfl, rfl⟩
        simp only [List.cons_append, List.nil_append]
        have hq := q.toNat_lt
        refine GL_v rfl (rv_cnv (r := (q.toNat : Int)) Tryz.underlying5 Tryz.underlying3 vw (fun _ => IntWalk.i64_in _ (by omega))) ?_
        refine GL_v rfl (rv_as (v := .int .i64 _) vw) ?_
        refine GL_nil ?_
        refine GC_seq ?_
        refine GC_region ?_
        refine GL_v rfl (rv_mv (v := .pointer _) vw) ?_
        refine GL_v rfl (rv_mv (v := .int .i64 _) vw) ?_
        refine GL_v rfl (rv_fa fa30_3 vw) ?_
        refine GL_v rfl (rv_ld Tryz.underlying24 rfl vw) ?_
        refine GL_v rfl (rv_cnv (r := (j.toNat : Int)) Tryz.underlying24 Tryz.underlying3 vw (fun _ => IntWalk.i64_in _ (by omega))) ?_
        refine GL_v rfl (rv_mul (r := 2 * (j.toNat : Int)) vw vw (fun _ => IntWalk.i64_in _ (by omega))) ?_
        refine GL_v rfl (rv_eql vw vw) ?_
        refine GL_call rfl cb112 (rNeed_k b25 n k p10 A b s10 e10 (decide ((q.toNat : Int) = 2 * (j.toNat : Int))) 5) rfl pB .nil ?_
        rintro _ _ _ ⟨e11, hc11, rfl, rfl, rfl⟩
        simp only [List.cons_append, List.nil_append]
        refine GL_nil ?_
        refine GC_region ?_
        refine GL_v rfl (rv_mv (v := .pointer _) vw) ?_
        refine GL_v rfl (rv_fa fa30_3 vw) ?_
        refine GL_v rfl (rv_ld Tryz.underlying24 rfl vw) ?_
        refine GL_v rfl (rv_cnv (r := (j.toNat : Int)) Tryz.underlying24 Tryz.underlying3 vw (fun _ => IntWalk.i64_in _ (by omega))) ?_
        refine GL_call rfl cb118 (rWords_k b25 n k p10 A b s10 e11 (j.toNat : Int) hp10) rfl pB sR ?_
        rintro _ _ _ ⟨v, p12, s12, e12, Ax12, nx12, kx12, hc12, hp12, rfl, rfl, rfl⟩
        simp only [List.cons_append, List.nil_append]
        refine GL_shift .nil (msgWords { code := code, addr := a, count := j, words := v } ⟨Ax12, nx12, kx12⟩) ?_
        refine GL_v rfl (rv_fa fa30_12 vw) ?_
        refine GL_st (u := .slice _ _ _) rfl rfl c25 rfl ?_
        refine GL_nil ?_
        show Weak _ _ _ _
        exact weak pB3 sb ⟨{ m := { code := code, addr := a, count := j, words := v }, w := ⟨Ax12, nx12, kx12⟩ }, p12, s12, e12, by rw [← hpp]; simp only [manyR]; rw [show (⟨b, false, 0⟩ : Cu) = ⟨b.drop 0, false, 0⟩ from rfl]; simp only [spanC_spanN hc8 hc9, countedS, hc8, hc9, hc10, hc11, hc12], hp12, ⟨rfl, rfl, rfl, trivial⟩, rfl, rfl⟩
       ·
        have gd : ¬ dir = 0 := by have := h5; simpa using this
        have hf : form09 dir code = some (asksR 123) := by unfold form09; rw [if_neg (by omega), if_neg (by omega), if_neg (by omega), if_pos g, if_neg gd]
        simp only [hf] at hpp
        refine GC_shift .nil (msg0 { code := code, addr := a, count := j }) ?_
        refine GC_skip ?_
        show Weak _ _ _ _
        exact weak pB3 sb ⟨{ m := { code := code, addr := a, count := j } }, p9, s9, e9, by rw [← hpp]; simp only [asksR]; rw [show (⟨b, false, 0⟩ : Cu) = ⟨b.drop 0, false, 0⟩ from rfl]; simp only [spanC_spanN hc8 hc9], hp9, ⟨rfl, rfl, rfl, trivial⟩, rfl, rfl⟩
      ·
       have g16 : ¬ code.toNat = 16 := by have := h4; simp at this; omega
       refine GC_seq ?_
       refine GC_region ?_
       refine GL_v rfl (rv_mv (v := .int .u8 _) vw) ?_
       refine GL_v rfl (rv_eql vw vw) ?_
       refine GL_v rfl (rv_as (v := .bool _) vw) ?_
       refine GL_nil ?_
       refine GC_cond rfl (fun h6 => ?_) (fun h6 => ?_)
       ·
        have g : code.toNat = 22 := by have := h6; simp at this; omega
        have hf : form09 dir code = some maskR := by unfold form09; rw [if_neg (by omega), if_neg (by omega), if_neg (by omega), if_neg g16, if_pos g]
        simp only [hf] at hpp
        refine GC_seq ?_
        refine GC_region ?_
        refine GL_v rfl (rv_mv (v := .pointer _) vw) ?_
        refine GL_call rfl cb114 (rWord_k b25 n k 0 A b false 0 ⟨Nat.zero_le _, hn⟩) rfl pB sR ?_
        rintro _ _ _ ⟨a, p13, s13, e13, hc13, hp13, rfl, rfl, rfl⟩
        simp only [List.cons_append, List.nil_append]
        refine GL_v rfl (rv_fa fa30_2 vw) ?_
        refine GL_st (u := w16 a) rfl rfl c24 rfl ?_
        refine GL_nil ?_
        refine GC_seq ?_
        refine GC_region ?_
        refine GL_v rfl (rv_mv (v := .pointer _) vw) ?_
        refine GL_call rfl cb114 (rWord_k b25 n k p13 A b s13 e13 hp13) rfl pB sR ?_
        rintro _ _ _ ⟨q, p14, s14, e14, hc14, hp14, rfl, rfl, rfl⟩
        simp only [List.cons_append, List.nil_append]
        refine GL_v rfl (rv_fa fa30_5 vw) ?_
        refine GL_st (u := w16 q) rfl rfl c24 rfl ?_
        refine GL_nil ?_
        refine GC_region ?_
        refine GL_v rfl (rv_mv (v := .pointer _) vw) ?_
        refine GL_call rfl cb114 (rWord_k b25 n k p14 A b s14 e14 hp14) rfl pB sR ?_
        rintro _ _ _ ⟨o, p15, s15, e15, hc15, hp15, rfl, rfl, rfl⟩
        simp only [List.cons_append, List.nil_append]
        refine GL_v rfl (rv_fa fa30_6 vw) ?_
        refine GL_st (u := w16 o) rfl rfl c24 rfl ?_
        refine GL_shift .nil (msg0 { code := code, addr := a, and := q, or := o }) ?_
        refine GL_nil ?_
        show Weak _ _ _ _
        exact weak pB3 sb ⟨{ m := { code := code, addr := a, and := q, or := o } }, p15, s15, e15, by rw [← hpp]; simp only [maskR]; rw [show (⟨b, false, 0⟩ : Cu) = ⟨b.drop 0, false, 0⟩ from rfl]; simp only [hc13, hc14, hc15], hp15, ⟨rfl, rfl, rfl, trivial⟩, rfl, rfl⟩
       ·
        have g22 : ¬ code.toNat = 22 := by have := h6; simp at this; omega
        refine GC_seq ?_
        refine GC_region ?_
        refine GL_v rfl (rv_mv (v := .int .u8 _) vw) ?_
        refine GL_v rfl (rv_eql vw vw) ?_
        refine GL_v rfl (rv_as (v := .bool _) vw) ?_
        refine GL_nil ?_
        refine GC_cond rfl (fun h7 => ?_) (fun h7 => ?_)
        ·
         have g : code.toNat = 23 := by have := h7; simp at this; omega
         have hf : form09 dir code = some bothR := by unfold form09; rw [if_neg (by omega), if_neg (by omega), if_neg (by omega), if_neg g16, if_neg g22, if_pos g]
         simp only [hf] at hpp
         refine GC_seq ?_
         refine GC_region ?_
         refine GL_v rfl (rv_mv (v := .pointer _) vw) ?_
         refine GL_call rfl cb114 (rWord_k b25 n k 0 A b false 0 ⟨Nat.zero_le _, hn⟩) rfl pB sR ?_
         rintro _ _ _ ⟨a, p16, s16, e16, hc16, hp16, rfl, rfl, rfl⟩
         simp only [List.cons_append, List.nil_append]
         refine GL_v rfl (rv_fa fa30_2 vw) ?_
         refine GL_st (u := w16 a) rfl rfl c24 rfl ?_
         refine GL_nil ?_
         refine GC_seq ?_
         refine GC_region ?_
         refine GL_v rfl (rv_mv (v := .pointer _) vw) ?_
         refine GL_v rfl (rv_fa fa30_2 vw) ?_
         refine GL_v rfl (rv_ld Tryz.underlying24 rfl vw) ?_
         refine GL_call rfl cb119 (rspanN_ct b25 n k p16 A b s16 e16 a 125 hp16) rfl pB sR ?_
         rintro _ _ _ ⟨j, p17, s17, e17, hc17, hp17, rfl, rfl, rfl⟩
         simp only [List.cons_append, List.nil_append]
         have hj := j.toNat_lt
         refine GL_v rfl (rv_cnv (r := (j.toNat : Int)) Tryz.underlying3 Tryz.underlying24 vw (fun _ => IntWalk.u16_in _ (by omega))) ?_
         refine GL_v rfl (rv_fa fa30_3 vw) ?_
         refine GL_st (u := w16 j) rfl rfl c24 rfl ?_
         refine GL_nil ?_
         refine GC_seq ?_
         refine GC_region ?_
         refine GL_v rfl (rv_mv (v := .pointer _) vw) ?_
         refine GL_call rfl cb114 (rWord_k b25 n k p17 A b s17 e17 hp17) rfl pB sR ?_
         rintro _ _ _ ⟨a2, p18, s18, e18, hc18, hp18, rfl, rfl, rfl⟩
         simp only [List.cons_append, List.nil_append]
         refine GL_v rfl (rv_fa fa30_7 vw) ?_
         refine GL_st (u := w16 a2) rfl rfl c24 rfl ?_
         refine GL_nil ?_
         refine GC_seq ?_
         refine GC_region ?_
         refine GL_v rfl (rv_mv (v := .pointer _) vw) ?_
         refine GL_v rfl (rv_fa fa30_7 vw) ?_
         refine GL_v rfl (rv_ld Tryz.underlying24 rfl vw) ?_
         refine GL_call rfl cb119 (rspanN_ct b25 n k p18 A b s18 e18 a2 121 hp18) rfl pB sR ?_
         rintro _ _ _ ⟨i, p19, s19, e19, hc19, hp19, rfl, rfl, rfl⟩
         simp only [List.cons_append, List.nil_append]
         have hi := i.toNat_lt
         refine GL_v rfl (rv_as (v := .int .i64 _) vw) ?_
         refine GL_nil ?_
         refine GC_seq ?_
         refine GC_region ?_
         refine GL_v rfl (rv_mv (v := .pointer _) vw) ?_
         refine GL_call rfl cb111 (rByte_k b25 n k p19 A b s19 e19 hp19) rfl pB sR ?_
         rintro _ _ _ ⟨q, p20, s20, e20, hc20, hp20, rfl, rfl, rfl⟩
         simp only [List.cons_append, List.nil_append]
         have hq := q.toNat_lt
         refine GL_v rfl (rv_cnv (r := (q.toNat : Int)) Tryz.underlying5 Tryz.underlying3 vw (fun _ => IntWalk.i64_in _ (by omega))) ?_
         refine GL_v rfl (rv_as (v := .int .i64 _) vw) ?_
         refine GL_nil ?_
         refine GC_seq ?_
         refine GC_region ?_
         refine GL_v rfl (rv_mv (v := .pointer _) vw) ?_
         refine GL_v rfl (rv_mv (v := .int .i64 _) vw) ?_
         refine GL_v rfl (rv_mv (v := .int .i64 _) vw) ?_
         refine GL_v rfl (rv_mul (r := 2 * (i.toNat : Int)) vw vw (fun _ => IntWalk.i64_in _ (by omega))) ?_
         refine GL_v rfl (rv_eql vw vw) ?_
         refine GL_call rfl cb112 (rNeed_k b25 n k p20 A b s20 e20 (decide ((q.toNat : Int) = 2 * (i.toNat : Int))) 5) rfl pB .nil ?_
         rintro _ _ _ ⟨e21, hc21, rfl, rfl, rfl⟩
         simp only [List.cons_append, List.nil_append]
         refine GL_nil ?_
         refine GC_region ?_
         refine GL_v rfl (rv_mv (v := .pointer _) vw) ?_
         refine GL_v rfl (rv_mv (v := .int .i64 _) vw) ?_
         refine GL_call rfl cb118 (rWords_k b25 n k p20 A b s20 e21 (i.toNat : Int) hp20) rfl pB sR ?_
         rintro _ _ _ ⟨v, p22, s22, e22, Ax22, nx22, kx22, hc22, hp22, rfl, rfl, rfl⟩
         simp only [List.cons_append, List.nil_append]
         refine GL_shift .nil (msgWords { code := code, addr := a, count := j, addr2 := a2, words := v } ⟨Ax22, nx22, kx22⟩) ?_
         refine GL_v rfl (rv_fa fa30_12 vw) ?_
         refine GL_st (u := .slice _ _ _) rfl rfl c25 rfl ?_
         refine GL_nil ?_
         show Weak _ _ _ _
         exact weak pB3 sb ⟨{ m := { code := code, addr := a, count := j, addr2 := a2, words := v }, w := ⟨Ax22, nx22, kx22⟩ }, p22, s22, e22, by rw [← hpp]; simp only [bothR]; rw [show (⟨b, false, 0⟩ : Cu) = ⟨b.drop 0, false, 0⟩ from rfl]; simp only [spanC_spanN hc16 hc17, countedS, hc16, hc17, hc18, hc19, hc20, hc21, hc22], hp22, ⟨rfl, rfl, rfl, trivial⟩, rfl, rfl⟩
        ·
         have g23 : ¬ code.toNat = 23 := by have := h7; simp at this; omega
         refine GC_seq ?_
         refine GC_region ?_
         refine GL_v rfl (rv_mv (v := .int .u8 _) vw) ?_
         refine GL_v rfl (rv_eql vw vw) ?_
         refine GL_v rfl (rv_mv (v := .bool _) vw) ?_
         refine GL_g rfl rfl gvt (rv_mv (v := .int .i64 _) vw) ?_
         refine GL_g rfl rfl gvt (rv_eql vwg vw) ?_
         refine GL_v rfl (rv_and vw vwg) ?_
         refine GL_v rfl (rv_as (v := .bool _) vw) ?_
         refine GL_nil ?_
         refine GC_cond rfl (fun h8 => ?_) (fun h8 => ?_)
         ·
          have g : code.toNat = 24 ∧ dir = 0 := by have := h8; simp at this; omega
          have hf : form09 dir code = some askQ := by unfold form09; rw [if_neg (by omega), if_neg (by omega), if_neg (by omega), if_neg g16, if_neg g22, if_neg g23, if_pos g]
          simp only [hf] at hpp
          refine GC_region ?_
          refine GL_v rfl (rv_mv (v := .pointer _) vw) ?_
          refine GL_call rfl cb114 (rWord_k b25 n k 0 A b false 0 ⟨Nat.zero_le _, hn⟩) rfl pB sR ?_
          rintro _ _ _ ⟨a, p23, s23, e23, hc23, hp23, rfl, rfl, rfl⟩
          simp only [List.cons_append, List.nil_append]
          refine GL_v rfl (rv_fa fa30_2 vw) ?_
          refine GL_st (u := w16 a) rfl rfl c24 rfl ?_
          refine GL_shift .nil (msg0 { code := code, addr := a }) ?_
          refine GL_nil ?_
          show Weak _ _ _ _
          exact weak pB3 sb ⟨{ m := { code := code, addr := a } }, p23, s23, e23, by rw [← hpp]; simp only [askQ]; rw [show (⟨b, false, 0⟩ : Cu) = ⟨b.drop 0, false, 0⟩ from rfl]; simp only [hc23], hp23, ⟨rfl, rfl, rfl, trivial⟩, rfl, rfl⟩
         ·
          have g240 : ¬ (code.toNat = 24 ∧ dir = 0) := by have := h8; simp at this; omega
          refine GC_seq ?_
          refine GC_region ?_
          refine GL_v rfl (rv_mv (v := .int .u8 _) vw) ?_
          refine GL_v rfl (rv_eql vw vw) ?_
          refine GL_v rfl (rv_as (v := .bool _) vw) ?_
          refine GL_nil ?_
          refine GC_cond rfl (fun h9 => ?_) (fun h9 => ?_)
          ·
           have g : code.toNat = 24 := by have := h9; simp at this; omega
           have hf : form09 dir code = some queueR := by unfold form09; rw [if_neg (by omega), if_neg (by omega), if_neg (by omega), if_neg g16, if_neg g22, if_neg g23, if_neg g240, if_pos g]
           simp only [hf] at hpp
           refine GC_seq ?_
           refine GC_region ?_
           refine GL_v rfl (rv_mv (v := .pointer _) vw) ?_
           refine GL_call rfl cb114 (rWord_k b25 n k 0 A b false 0 ⟨Nat.zero_le _, hn⟩) rfl pB sR ?_
           rintro _ _ _ ⟨a, p24, s24, e24, hc24, hp24, rfl, rfl, rfl⟩
           simp only [List.cons_append, List.nil_append]
           have ha := a.toNat_lt
           refine GL_v rfl (rv_cnv (r := (a.toNat : Int)) Tryz.underlying24 Tryz.underlying3 vw (fun _ => IntWalk.i64_in _ (by omega))) ?_
           refine GL_v rfl (rv_as (v := .int .i64 _) vw) ?_
           refine GL_nil ?_
           refine GC_seq ?_
           refine GC_region ?_
           refine GL_v rfl (rv_mv (v := .pointer _) vw) ?_
           refine GL_v rfl (rv_mv (v := .int .i64 _) vw) ?_
           refine GL_v rfl (rv_rem (r := (a.toNat : Int) % 2) vw vw (fun _ => by decide) (fun _ => Int.tmod_eq_emod_of_nonneg (by omega))) ?_
           refine GL_v rfl (rv_eql vw vw) ?_
           refine GL_v rfl (rv_mv (v := .bool _) vw) ?_
           refine GL_g rfl rfl gvt (rv_mv (v := .int .i64 _) vw) ?_
           refine GL_g rfl rfl gvt (rv_geq vwg vw) ?_
           refine GL_v rfl (rv_and vw vwg) ?_
           refine GL_v rfl (rv_mv (v := .bool _) vw) ?_
           refine GL_g rfl rfl gvt (rv_mv (v := .int .i64 _) vw) ?_
           refine GL_g rfl rfl gvt (rv_leq vwg vw) ?_
           refine GL_v rfl (rv_and vw vwg) ?_
           refine GL_call rfl cb112 (rNeed_k b25 n k p24 A b s24 e24 (decide ((a.toNat : Int) % 2 = 0) && decide ((2 : Int) ≤ a.toNat) && decide ((a.toNat : Int) ≤ 64)) 5) rfl pB .nil ?_
           rintro _ _ _ ⟨e25, hc25, rfl, rfl, rfl⟩
           simp only [List.cons_append, List.nil_append]
           refine GL_nil ?_
           refine GC_seq ?_
           refine GC_region ?_
           refine GL_v rfl (rv_mv (v := .pointer _) vw) ?_
           refine GL_call rfl cb114 (rWord_k b25 n k p24 A b s24 e25 hp24) rfl pB sR ?_
           rintro _ _ _ ⟨j, p26, s26, e26, hc26, hp26, rfl, rfl, rfl⟩
           simp only [List.cons_append, List.nil_append]
           have hj := j.toNat_lt
           refine GL_v rfl (rv_cnv (r := (j.toNat : Int)) Tryz.underlying24 Tryz.underlying3 vw (fun _ => IntWalk.i64_in _ (by omega))) ?_
           refine GL_v rfl (rv_as (v := .int .i64 _) vw) ?_
           refine GL_nil ?_
           refine GC_seq ?_
           refine GC_region ?_
           refine GL_v rfl (rv_mv (v := .pointer _) vw) ?_
           refine GL_v rfl (rv_mv (v := .int .i64 _) vw) ?_
           refine GL_v rfl (rv_mv (v := .int .i64 _) vw) ?_
           refine GL_v rfl (rv_mul (r := 2 * (j.toNat : Int)) vw vw (fun _ => IntWalk.i64_in _ (by omega))) ?_
           refine GL_v rfl (rv_add (r := 2 * (j.toNat : Int) + 2) vw vw (fun _ => IntWalk.i64_in _ (by omega))) ?_
           refine GL_v rfl (rv_eql vw vw) ?_
           refine GL_call rfl cb112 (rNeed_k b25 n k p26 A b s26 e26 (decide ((a.toNat : Int) = 2 * (j.toNat : Int) + 2)) 5) rfl pB .nil ?_
           rintro _ _ _ ⟨e27, hc27, rfl, rfl, rfl⟩
           simp only [List.cons_append, List.nil_append]
           rw [eq22] at hc27
           refine GL_nil ?_
           refine GC_region ?_
           refine GL_v rfl (rv_mv (v := .pointer _) vw) ?_
           refine GL_v rfl (rv_mv (v := .int .i64 _) vw) ?_
           refine GL_call rfl cb118 (rWords_k b25 n k p26 A b s26 e27 (j.toNat : Int) hp26) rfl pB sR ?_
           rintro _ _ _ ⟨v, p28, s28, e28, Ax28, nx28, kx28, hc28, hp28, rfl, rfl, rfl⟩
           simp only [List.cons_append, List.nil_append]
           refine GL_shift .nil (msgWords { code := code, words := v } ⟨Ax28, nx28, kx28⟩) ?_
           refine GL_v rfl (rv_fa fa30_12 vw) ?_
           refine GL_st (u := .slice _ _ _) rfl rfl c25 rfl ?_
           refine GL_nil ?_
           show Weak _ _ _ _
           exact weak pB3 sb ⟨{ m := { code := code, words := v }, w := ⟨Ax28, nx28, kx28⟩ }, p28, s28, e28, by rw [← hpp]; simp only [queueR]; rw [show (⟨b, false, 0⟩ : Cu) = ⟨b.drop 0, false, 0⟩ from rfl]; simp only [hc24, hc25, hc26, hc27, hc28], hp28, ⟨rfl, rfl, rfl, trivial⟩, rfl, rfl⟩
          ·
           have g24 : ¬ code.toNat = 24 := by have := h9; simp at this; omega
           have hf : form09 dir code = none := by unfold form09; rw [if_neg (by omega), if_neg (by omega), if_neg g6, if_neg g16, if_neg g22, if_neg g23, if_neg g240, if_neg g24]
           simp only [hf] at hpp
           obtain rfl := hpp
           refine GC_seq ?_
           refine GC_region ?_
           refine GL_v rfl (rv_bld (z' := [.int .u8 0, .int .u8 0, .int .u16 0, .int .u16 0, .int .u16 0, .int .u16 0, .int .u16 0, .int .u16 0, .int .u16 0, .int .u16 0, .int .u16 0, .int .u16 0, .slice none 0 0, .slice none 0 0, .slice none 0 0, .slice none 0 0, .int .u8 0, .int .u8 0, .int .u8 0, .int .u8 0, .int .u8 0, .slice none 0 0]) z30 l30 (fun _ => rfl)) ?_
           refine GL_stA rfl rfl c30 (by simp [Value.oneCell']) (by rfl) ?_
           refine GL_v rfl (rv_as (v := .int .i64 _) vw) ?_
           refine GL_nil ?_
           refine GC_shift .nil (msg0 {}) ?_
           refine GC_ret ?_
           exact finA (T' := [msgR { m := {} }]) (.inr rfl) rfl rfl rfl inferInstance a30 rfl .nil sb ⟨{ m := {} }, rfl, rfl, rfl, rfl⟩
  ·
   rintro E S T ⟨S1, r1, T1, hS, hT, hM⟩
   refine GC_drop hS (GC_dropT hT ?_)
   clear hS hT
   revert hM
   rintro ⟨x, p, s, e, hfin, hp, hE, rfl, rfl⟩
   obtain ⟨E0, rfl⟩ := hE.ex
   refine GC_seq ?_
   refine GC_region ?_
   refine GL_v rfl (rv_mv (v := .pointer _) vw) ?_
   refine GL_call rfl cb117 (rEnd_k b25 n k p A b s e hp) rfl pB sR ?_
   rintro _ _ _ ⟨e29, hc29, rfl, rfl, rfl⟩
   simp only [List.cons_append, List.nil_append]
   refine GL_nil ?_
   refine GC_seq ?_
   refine GC_seq ?_
   refine GC_region ?_
   refine GL_v rfl (rv_mv (v := .pointer _) vw) ?_
   refine GL_v rfl (rv_nil vw) ?_
   refine GL_v rfl (rv_fa fa113_3 vw) ?_
   refine GL_v rfl (rv_ld Tryz.underlying31 rfl vw) ?_
   refine GL_v rfl (rv_neq vw vw) ?_
   refine GL_nil ?_
   refine GC_cond rfl (fun h10 => ?_) (fun h10 => ?_)
   ·
    have he : ¬ e29 = 0 := by have := h10; simpa using this
    rw [finish_no hc29 he] at hfin
    obtain rfl := hfin
    refine GC_seq ?_
    refine GC_draw 7 ([rcub b25 A n k p s e29]) mixed ?_
    refine GA_v (i := 0) rfl rfl rfl (by kernel_rfl) (rv_bld (z' := [.int .u8 0, .int .u8 0, .int .u16 0, .int .u16 0, .int .u16 0, .int .u16 0, .int .u16 0, .int .u16 0, .int .u16 0, .int .u16 0, .int .u16 0, .int .u16 0, .slice none 0 0, .slice none 0 0, .slice none 0 0, .slice none 0 0, .int .u8 0, .int .u8 0, .int .u8 0, .int .u8 0, .int .u8 0, .slice none 0 0]) z30 l30 (fun _ => rfl)) ?_
    refine GA_v (i := 1) rfl rfl rfl (by kernel_rfl) (rv_mv (v := .pointer _) vw) ?_
    refine GA_v (i := 2) rfl rfl rfl (by kernel_rfl) (rv_nil vw) ?_
    refine GA_v (i := 3) rfl rfl rfl (by kernel_rfl) (rv_fa fa113_3 vw) ?_
    refine GA_v (i := 4) rfl rfl rfl (by kernel_rfl) (rv_ld Tryz.underlying31 rfl vw) ?_
    refine GA_one 5 rfl rfl (by kernel_rfl) ?_
    refine GL_stA rfl rfl c30 (by simp [Value.oneCell']) (by rfl) ?_
    refine GL_nil ⟨inferInstance, ?_⟩
    refine GA_v (i := 6) rfl rfl rfl (by kernel_rfl) (rv_as (v := .int .i64 _) vw) ?_
    refine GA_nil (by kernel_rfl) ?_
    refine GC_shift .nil (msg0 {}) ?_
    refine GC_ret ?_
    exact finA (T' := [msgR { m := {} }]) (.inr rfl) rfl rfl rfl inferInstance a30 rfl .nil sb ⟨{ m := {} }, rfl, rfl, rfl, rfl⟩
   ·
    have he : e29 = 0 := by have := h10; simpa using this
    rw [finish_ok hc29 he] at hfin
    obtain rfl := hfin
    refine GC_skip ?_
    refine GC_seq ?_
    refine GC_region ?_
    refine GL_v rfl (rv_ldA (l := x.cells) a30 vw rfl) ?_
    refine GL_stA (l' := x.cells) rfl rfl c30 (MsgX.cells_one _) (by rfl) ?_
    refine GL_v rfl (rv_as (v := .int .i64 _) vw) ?_
    refine GL_nil ?_
    refine GC_ret ?_
    exact finA (T' := [msgR x]) (.inr rfl) rfl rfl rfl inferInstance a30 rfl .nil sb ⟨x, rfl, rfl, rfl, rfl⟩
end Go.Bus
