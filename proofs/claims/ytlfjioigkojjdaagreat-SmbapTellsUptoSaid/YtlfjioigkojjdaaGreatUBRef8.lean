/- Part of the proof: Ref8. No condition. -/
import Derived.Test.YtlfjioigkojjdaaGreatUBEnge
import Derived.Test.YtlfjioigkojjdaaGreatUBPack
import Derived.Test.YtlfjioigkojjdaaGreatUBRefc
import Derived.Test.YtlfjioigkojjdaaGreatUBFew
import Derived.Test.YtlfjioigkojjdaaGreatUBCoils
set_option linter.unusedVariables false
set_option linter.unusedSimpArgs false
set_option maxRecDepth 100000
set_option maxHeartbeats 4000000
namespace Go.Bus
open Go Go.Proofs
theorem lt1 (n : Int) : decide (0 < n) = decide (1 ≤ n) := by congr 1
theorem rspan_ct (B B2 n k p : Nat) (A : Option Addr) (l : List UInt8) (s : Bool) (e : Int) (code : UInt8) (most : Int) (hp : p ≤ n ∧ n ≤ 35184372088832) : Ct PG 110 [.pointer (some ⟨B, 0, none⟩), .pointer (some ⟨B2, 0, none⟩), .int .i64 most] [rcub B A n k p s e, mub B2 { m := { code := code } }] [row 1 A n k (bytesV l)]
 (fun v S' T' => ∃ a j p1 s1 e1, spanC most ⟨l.drop p, s, e⟩ = (a, j, ⟨l.drop p1, s1, e1⟩) ∧ (p1 ≤ n ∧ n ≤ 35184372088832) ∧ v = .tuple #[] ∧ S' = [rcub B A n k p1 s1 e1, mub B2 { m := { code := code, addr := a, count := j } }] ∧ T' = []) := by
 refine Ct_of Tryz.func110 rfl 39 rfl (Nat.le_of_ble_eq_true rfl) fun w0 M N => ?_
 have e0 : MsgX.cells { m := { code := code } } = [b8 code, .int .u8 0, .int .u16 0, .int .u16 0, .int .u16 0, .int .u16 0, .int .u16 0, .int .u16 0, .int .u16 0, .int .u16 0, .int .u16 0, .int .u16 0, .slice none 0 0, .slice none 0 0, .slice none 0 0, .slice none 0 0, .int .u8 0, .int .u8 0, .int .u8 0, .int .u8 0, .int .u8 0, .slice none 0 0] := rfl
 unfold mub; rw [e0]
 refine GC_seq ?_
 refine GC_region ?_
 refine GL_v rfl (rv_mv (v := .pointer _) vw) ?_
 refine GL_v rfl (rv_mv (v := .pointer _) vw) ?_
 refine GL_call rfl cb114 (rWord_k B n k p A l s e hp) rfl pB sR ?_
 rintro _ _ _ ⟨a, p1, s1, e1, hc1, hp1, rfl, rfl, rfl⟩
 simp only [List.cons_append, List.nil_append]
 refine GL_v rfl (rv_nil vw) ?_
 refine GL_v rfl (rv_fa fa30_2 vw) ?_
 refine GL_st (u := w16 a) rfl rfl c24 rfl ?_
 refine GL_nil ?_
 refine GC_seq ?_
 refine GC_region ?_
 refine GL_v rfl (rv_mv (v := .pointer _) vw) ?_
 refine GL_v rfl (rv_mv (v := .pointer _) vw) ?_
 refine GL_call rfl cb114 (rWord_k B n k p1 A l s1 e1 hp1) rfl pB sR ?_
 rintro _ _ _ ⟨j, p2, s2, e2, hc2, hp2, rfl, rfl, rfl⟩
 simp only [List.cons_append, List.nil_append]
 have hj := j.toNat_lt
 refine GL_v rfl (rv_nil vw) ?_
 refine GL_v rfl (rv_fa fa30_3 vw) ?_
 refine GL_st (u := w16 j) rfl rfl c24 rfl ?_
 refine GL_nil ?_
 refine GC_seq ?_
 refine GC_region ?_
 refine GL_v rfl (rv_mv (v := .pointer _) vw) ?_
 refine GL_v rfl (rv_nil vw) ?_
 refine GL_v rfl (rv_fa fa30_3 vw) ?_
 refine GL_v rfl (rv_ld Tryz.underlying24 rfl vw) ?_
 refine GL_v rfl (rv_cnv (r := (j.toNat : Int)) Tryz.underlying24 Tryz.underlying3 vw (fun _ => IntWalk.i64_in _ (by omega))) ?_
 refine GL_v rfl (rv_as (v := .int .i64 _) vw) ?_
 refine GL_nil ?_
 refine GC_seq ?_
 refine GC_region ?_
 refine GL_v rfl (rv_mv (v := .pointer _) vw) ?_
 refine GL_v rfl (rv_mv (v := .int .i64 _) vw) ?_
 refine GL_v rfl (rv_gtr vw vw) ?_
 refine GL_v rfl (rv_mv (v := .bool _) vw) ?_
 refine GL_g rfl rfl gvt (rv_mv (v := .int .i64 _) vw) ?_
 refine GL_g rfl rfl gvt (rv_mv (v := .int .i64 _) vw) ?_
 refine GL_g rfl rfl gvt (rv_leq vwg vwg) ?_
 refine GL_v rfl (rv_and vw vwg) ?_
 refine GL_call rfl cb112 (rNeed_k B n k p2 A l s2 e2 (decide ((0 : Int) < j.toNat) && decide ((j.toNat : Int) ≤ most)) 5) rfl pB .nil ?_
 rintro _ _ _ ⟨e3, hc3, rfl, rfl, rfl⟩
 simp only [List.cons_append, List.nil_append]
 rw [lt1] at hc3
 refine GL_nil ?_
 refine GC_region ?_
 refine GL_v rfl (rv_mv (v := .pointer _) vw) ?_
 refine GL_v rfl (rv_mv (v := .pointer _) vw) ?_
 refine GL_v rfl (rv_nil vw) ?_
 refine GL_v rfl (rv_fa fa30_2 vw) ?_
 refine GL_v rfl (rv_ld Tryz.underlying24 rfl vw) ?_
 refine GL_v rfl (rv_mv (v := .int .i64 _) vw) ?_
 refine GL_callD rfl cb173 (rWithin_ct a j.toNat (by omega)) rfl .nil .nil ?_
 refine GL_call rfl cb112 (rNeed_k B n k p2 A l s2 e3 (within a j.toNat) 7) rfl pB .nil ?_
 rintro _ _ _ ⟨e4, hc4, rfl, rfl, rfl⟩
 simp only [List.cons_append, List.nil_append]
 refine GL_nil ?_
 exact fin0 (.inl rfl) rfl pB2 sb ⟨a, j, p2, s2, e4, by simp only [spanC, hc1, hc2, hc3, hc4], hp2, rfl, rfl, rfl⟩
theorem rP08_ct (dir : Int) (code : UInt8) (A : Option Addr) (n k : Nat) (b : List UInt8) (hn : n ≤ 35184372088832) : Ct PG 58 [.int .i64 dir, b8 code, .slice A n k] [] [row 1 A n k (bytesV b)] (MsgOut (P08 dir code b)) := by
 refine Ct_of Tryz.func58 rfl 113 rfl (Nat.le_of_ble_eq_true rfl) fun w0 M N => ?_
 refine GC_row A fun hrow => ?_
 have hbl : b.length = n := by have := hrow.1; simpa [bytesV] using this
 obtain ⟨pp, hpp⟩ : ∃ pp, P08 dir code b = pp := ⟨_, rfl⟩
 rw [hpp]
 refine GC_seq ?_
 refine GC_region ?_
 refine GL_alloc rfl z30 (fun b6 => ?_)
 refine GL_v rfl (rv_as (v := .int .i64 _) vw) ?_
 refine GL_nil ?_
 refine GC_seq ?_
 refine GC_seq ?_
 refine GC_region ?_
 refine GL_v rfl (rv_mv (v := .int .i64 _) vw) ?_
 refine GL_v rfl (rv_neq vw vw) ?_
 refine GL_v rfl (rv_mv (v := .bool _) vw) ?_
 refine GL_g rfl rfl gvt (rv_mv (v := .int .i64 _) vw) ?_
 refine GL_g rfl rfl gvt (rv_neq vwg vw) ?_
 refine GL_v rfl (rv_and vw vwg) ?_
 refine GL_nil ?_
 refine GC_cond rfl (fun h0 => ?_) (fun h0 => ?_)
 ·
  have hd : dir ≠ 0 ∧ dir ≠ 1 := by have := h0; simpa using this
  have he : P08 dir code b = ({}, 1) := if_pos hd
  obtain rfl := hpp.symm.trans he
  refine GC_seq ?_
  refine GC_region ?_
  refine GL_v rfl (rv_bld (z' := [.int .u8 0, .int .u8 0, .int .u16 0, .int .u16 0, .int .u16 0, .int .u16 0, .int .u16 0, .int .u16 0, .int .u16 0, .int .u16 0, .int .u16 0, .int .u16 0, .slice none 0 0, .slice none 0 0, .slice none 0 0, .slice none 0 0, .int .u8 0, .int .u8 0, .int .u8 0, .int .u8 0, .int .u8 0, .slice none 0 0]) z30 l30 (fun _ => rfl)) ?_
  refine GL_stA rfl rfl c30 (by simp [Value.oneCell']) (by rfl) ?_
  refine GL_v rfl (rv_as (v := .int .i64 _) vw) ?_
  refine GL_nil ?_
  refine GC_shift .nil (msg0 {}) ?_
  refine GC_ret ?_
  exact finA (T' := [msgR { m := {} }]) (.inr rfl) rfl rfl rfl inferInstance a30 rfl .nil sb ⟨{ m := {} }, rfl, rfl, rfl, rfl⟩
 ·
  have hd : ¬ (dir ≠ 0 ∧ dir ≠ 1) := by have := h0; simpa using this
  simp only [P08, parseBy, if_neg hd] at hpp
  have hcode := code.toNat_lt
  refine GC_skip ?_
  refine GC_seq ?_
  refine GC_region ?_
  refine GL_v rfl (rv_mv (v := .slice _ _ _) vw) ?_
  refine GL_v rfl (rv_bld (z' := [.slice _ _ _, .int .i64 0, .bool false, .int .i64 0]) z113 l113 (fun _ => rfl)) ?_
  refine GL_boxA rfl rfl (fun b23 => ?_)
  refine GL_v rfl (rv_as (v := .pointer _) vw) ?_
  refine GL_nil ?_
  refine GC_seq ?_
  refine GC_region ?_
  refine GL_v rfl (rv_mv (v := b8 code) vw) ?_
  refine GL_v rfl (rv_bld (z' := [.int .u8 _, .int .u8 0, .int .u16 0, .int .u16 0, .int .u16 0, .int .u16 0, .int .u16 0, .int .u16 0, .int .u16 0, .int .u16 0, .int .u16 0, .int .u16 0, .slice none 0 0, .slice none 0 0, .slice none 0 0, .slice none 0 0, .int .u8 0, .int .u8 0, .int .u8 0, .int .u8 0, .int .u8 0, .slice none 0 0]) z30 l30 (fun _ => rfl)) ?_
  refine GL_alloc rfl z30 (fun b9 => ?_)
  refine GL_stA (l' := [b8 code, .int .u8 0, .int .u16 0, .int .u16 0, .int .u16 0, .int .u16 0, .int .u16 0, .int .u16 0, .int .u16 0, .int .u16 0, .int .u16 0, .int .u16 0, .slice none 0 0, .slice none 0 0, .slice none 0 0, .slice none 0 0, .int .u8 0, .int .u8 0, .int .u8 0, .int .u8 0, .int .u8 0, .slice none 0 0]) rfl rfl c30 (by simp [b8, Value.oneCell']) (by rfl) ?_
  refine GL_nil ?_
  refine GC_seq ?_
  refine GC_seq ?_
  refine GC_region ?_
  refine GL_v rfl (rv_mv (v := b8 code) vw) ?_
  refine GL_nil ?_
  refine GC_cutM (fun E S T => ∃ (x : MsgX) (p : Nat) (s : Bool) (e : Int), finish (x.m, ⟨b.drop p, s, e⟩) = pp ∧ (p ≤ n ∧ n ≤ 35184372088832) ∧ At E [(6, .pointer (some ⟨b6, 0, none⟩)), (8, .pointer (some ⟨b23, 0, none⟩)), (9, .pointer (some ⟨b9, 0, none⟩))] ∧ S = [rcub b23 A n k p s e, blk b9 x.cells 30, blk b6 (MsgX.cells { m := {} }) 30] ∧ T = [msgR x, row 1 A n k (bytesV b)]) ?_ ?_
  ·
   refine GC_block ?_
   refine GC_seq ?_
   refine GC_seq ?_
   refine GC_region ?_
   refine GL_v rfl (rv_eql vw vw) ?_
   refine GL_v rfl (rv_as (v := .bool _) vw) ?_
   refine GL_nil ?_
   refine GC_cutJ (fun E S T => ∃ bb : Bool, (bb = true ↔ code.toNat = 1 ∨ code.toNat = 2) ∧ At E [(0, .int .i64 dir), (6, .pointer (some ⟨b6, 0, none⟩)), (8, .pointer (some ⟨b23, 0, none⟩)), (9, .pointer (some ⟨b9, 0, none⟩)), (26, b8 code), (28, .bool bb)] ∧ S = [blk b9 [b8 code, .int .u8 0, .int .u16 0, .int .u16 0, .int .u16 0, .int .u16 0, .int .u16 0, .int .u16 0, .int .u16 0, .int .u16 0, .int .u16 0, .int .u16 0, .slice none 0 0, .slice none 0 0, .slice none 0 0, .slice none 0 0, .int .u8 0, .int .u8 0, .int .u8 0, .int .u8 0, .int .u8 0, .slice none 0 0] 30, rcub b23 A n k 0 false 0, blk b6 (MsgX.cells { m := {} }) 30] ∧ T = [row 1 A n k (bytesV b)]) ?_ ?_
   ·
    refine GC_cond rfl (fun h1 => ?_) (fun h1 => ?_)
    ·
     refine GC_skip ?_
     exact ⟨_, by have := h1; simp at this ⊢; omega, ⟨rfl, rfl, rfl, rfl, rfl, rfl, trivial⟩, rfl, rfl⟩
    ·
     refine GC_region ?_
     refine GL_v rfl (rv_eql vw vw) ?_
     refine GL_v rfl (rv_as (v := .bool _) vw) ?_
     refine GL_nil ?_
     exact ⟨_, by have := h1; simp at this ⊢; omega, ⟨rfl, rfl, rfl, rfl, rfl, rfl, trivial⟩, rfl, rfl⟩
   ·
    intro E S1 T1
    rintro ⟨bb, hbb, hE, rfl, rfl⟩
    obtain ⟨E0, rfl⟩ := hE.ex
    refine GC_cond rfl (fun h2 => ?_) (fun h2 => ?_)
    ·
     have g12 := hbb.1 h2
     refine GC_seq ?_
     refine GC_seq ?_
     refine GC_region ?_
     refine GL_v rfl (rv_mv (v := .int .i64 _) vw) ?_
     refine GL_v rfl (rv_eql vw vw) ?_
     refine GL_nil ?_
     refine GC_cond rfl (fun h3 => ?_) (fun h3 => ?_)
     ·
      have hd0 : dir = 0 := by have := h3; simpa using this
      have hf : form08 dir code = some asksS := by unfold form08; rw [if_pos g12, if_pos hd0]
      simp only [hf] at hpp
      refine GC_seq ?_
      refine GC_region ?_
      refine GL_v rfl (rv_mv (v := .pointer _) vw) ?_
      refine GL_call rfl cb110 (rspan_ct b23 b9 n k 0 A b false 0 code 2000 ⟨Nat.zero_le _, hn⟩) rfl pB2 sR ?_
      rintro _ _ _ ⟨a, j, p1, s1, e1, hc1, hp1, rfl, rfl, rfl⟩
      simp only [List.cons_append, List.nil_append]
      refine GL_shift .nil (msg0 { code := code, addr := a, count := j }) ?_
      refine GL_nil ?_
      refine GC_exit ?_
      show Weak _ _ _ _
      exact weak pB3 sb ⟨{ m := { code := code, addr := a, count := j } }, p1, s1, e1, by rw [← hpp]; simp only [asksS]; rw [show (⟨b, false, 0⟩ : Cu) = ⟨b.drop 0, false, 0⟩ from rfl, hc1], hp1, ⟨rfl, rfl, rfl, trivial⟩, rfl, rfl⟩
     ·
      have hd0 : ¬ dir = 0 := by have := h3; simpa using this
      have hf : form08 dir code = some toldS := by unfold form08; rw [if_pos g12, if_neg hd0]
      simp only [hf] at hpp
      refine GC_skip ?_
      refine GC_seq ?_
      refine GC_region ?_
      refine GL_v rfl (rv_mv (v := .pointer _) vw) ?_
      refine GL_call rfl cb111 (rByte_k b23 n k 0 A b false 0 ⟨Nat.zero_le _, hn⟩) rfl pB sR ?_
      rintro _ _ _ ⟨a, p1, s1, e1, hc1, hp1, rfl, rfl, rfl⟩
      simp only [List.cons_append, List.nil_append]
      have ha := a.toNat_lt
      refine GL_v rfl (rv_cnv (r := (a.toNat : Int)) Tryz.underlying5 Tryz.underlying3 vw (fun _ => IntWalk.i64_in _ (by omega))) ?_
      refine GL_v rfl (rv_as (v := .int .i64 _) vw) ?_
      refine GL_nil ?_
      refine GC_seq ?_
      refine GC_region ?_
      refine GL_v rfl (rv_mv (v := .pointer _) vw) ?_
      refine GL_v rfl (rv_mv (v := .int .i64 _) vw) ?_
      refine GL_v rfl (rv_gtr vw vw) ?_
      refine GL_v rfl (rv_mv (v := .bool _) vw) ?_
      refine GL_g rfl rfl gvt (rv_mv (v := .int .i64 _) vw) ?_
      refine GL_g rfl rfl gvt (rv_leq vwg vw) ?_
      refine GL_v rfl (rv_and vw vwg) ?_
      refine GL_call rfl cb112 (rNeed_k b23 n k p1 A b s1 e1 (decide ((0 : Int) < a.toNat) && decide ((a.toNat : Int) ≤ 250)) 5) rfl pB .nil ?_
      rintro _ _ _ ⟨e2, hc2, rfl, rfl, rfl⟩
      simp only [List.cons_append, List.nil_append]
      rw [lt1] at hc2
      refine GL_nil ?_
      refine GC_region ?_
      refine GL_v rfl (rv_mv (v := .pointer _) vw) ?_
      refine GL_v rfl (rv_mv (v := .int .i64 _) vw) ?_
      refine GL_call rfl cb113 (rBytes_k b23 n k p1 A b s1 e2 a.toNat hp1) rfl pB sR ?_
      rintro _ _ _ ⟨v, p3, s3, e3, Ax3, nx3, kx3, hc3, hp3, hnx3, rfl, rfl, rfl⟩
      simp only [List.cons_append, List.nil_append]
      refine GL_shift .nil (msgData { code := code, data := v } ⟨Ax3, nx3, kx3⟩) ?_
      refine GL_v rfl (rv_fa fa30_14 vw) ?_
      refine GL_st (u := .slice _ _ _) rfl rfl c22 rfl ?_
      refine GL_nil ?_
      show Weak _ _ _ _
      exact weak pB3 sb ⟨{ m := { code := code, data := v }, d := ⟨Ax3, nx3, kx3⟩ }, p3, s3, e3, by rw [← hpp]; simp only [toldS]; rw [show (⟨b, false, 0⟩ : Cu) = ⟨b.drop 0, false, 0⟩ from rfl]; simp only [hc1, hc2, hc3], hp3, ⟨rfl, rfl, rfl, trivial⟩, rfl, rfl⟩
    ·
     have g12 : ¬ (code.toNat = 1 ∨ code.toNat = 2) := fun q => by have := hbb.2 q; rw [this] at h2; cases h2
     refine GC_seq ?_
     refine GC_region ?_
     refine GL_v rfl (rv_eql vw vw) ?_
     refine GL_v rfl (rv_as (v := .bool _) vw) ?_
     refine GL_nil ?_
     refine GC_cond rfl (fun h4 => ?_) (fun h4 => ?_)
     ·
      have g5 : code.toNat = 5 := by have := h4; simp at this; omega
      have hf : form08 dir code = some setsS := by unfold form08; rw [if_neg g12, if_pos g5]
      simp only [hf] at hpp
      refine GC_seq ?_
      refine GC_region ?_
      refine GL_v rfl (rv_mv (v := .pointer _) vw) ?_
      refine GL_call rfl cb114 (rWord_k b23 n k 0 A b false 0 ⟨Nat.zero_le _, hn⟩) rfl pB sR ?_
      rintro _ _ _ ⟨a, p4, s4, e4, hc4, hp4, rfl, rfl, rfl⟩
      simp only [List.cons_append, List.nil_append]
      refine GL_v rfl (rv_fa fa30_2 vw) ?_
      refine GL_st (u := w16 a) rfl rfl c24 rfl ?_
      refine GL_nil ?_
      refine GC_seq ?_
      refine GC_region ?_
      refine GL_v rfl (rv_mv (v := .pointer _) vw) ?_
      refine GL_call rfl cb114 (rWord_k b23 n k p4 A b s4 e4 hp4) rfl pB sR ?_
      rintro _ _ _ ⟨j, p5, s5, e5, hc5, hp5, rfl, rfl, rfl⟩
      simp only [List.cons_append, List.nil_append]
      refine GL_v rfl (rv_fa fa30_4 vw) ?_
      refine GL_st (u := w16 j) rfl rfl c24 rfl ?_
      refine GL_nil ?_
      refine GC_region ?_
      refine GL_v rfl (rv_mv (v := .pointer _) vw) ?_
      refine GL_v rfl (rv_fa fa30_4 vw) ?_
      refine GL_v rfl (rv_ld Tryz.underlying24 rfl vw) ?_
      refine GL_v rfl (rv_eql vw vw) ?_
      refine GL_v rfl (rv_mv (v := .bool _) vw) ?_
      refine GL_g rfl rfl gvf (rv_fa fa30_4 vw) ?_
      refine GL_g rfl rfl gvf (rv_ld Tryz.underlying24 rfl vwg) ?_
      refine GL_g rfl rfl gvf (rv_eql vwg vw) ?_
      refine GL_v rfl (rv_or vw vwg) ?_
      refine GL_call rfl cb112 (rNeed_k b23 n k p5 A b s5 e5 (decide ((j.toNat : Int) = 0) || decide ((j.toNat : Int) = 65280)) 6) rfl pB .nil ?_
      rintro _ _ _ ⟨e6, hc6, rfl, rfl, rfl⟩
      simp only [List.cons_append, List.nil_append]
      refine GL_shift .nil (msg0 { code := code, addr := a, value := j }) ?_
      refine GL_nil ?_
      show Weak _ _ _ _
      exact weak pB3 sb ⟨{ m := { code := code, addr := a, value := j } }, p5, s5, e6, by rw [← hpp]; simp only [setsS]; rw [show (⟨b, false, 0⟩ : Cu) = ⟨b.drop 0, false, 0⟩ from rfl]; simp only [hc4, hc5, hc6], hp5, ⟨rfl, rfl, rfl, trivial⟩, rfl, rfl⟩
     ·
      have g5 : ¬ code.toNat = 5 := by have := h4; simp at this; omega
      refine GC_seq ?_
      refine GC_region ?_
      refine GL_v rfl (rv_eql vw vw) ?_
      refine GL_v rfl (rv_as (v := .bool _) vw) ?_
      refine GL_nil ?_
      refine GC_cond rfl (fun h5 => ?_) (fun h5 => ?_)
      ·
       have g15 : code.toNat = 15 := by have := h5; simp at this; omega
       refine GC_seq ?_
       refine GC_region ?_
       refine GL_v rfl (rv_mv (v := .pointer _) vw) ?_
       refine GL_call rfl cb110 (rspan_ct b23 b9 n k 0 A b false 0 code 1968 ⟨Nat.zero_le _, hn⟩) rfl pB2 sR ?_
       rintro _ _ _ ⟨a, j, p1, s1, e1, hc1, hp1, rfl, rfl, rfl⟩
       simp only [List.cons_append, List.nil_append]
       have hj := j.toNat_lt
       refine GL_nil ?_
       refine GC_seq ?_
       refine GC_seq ?_
       refine GC_region ?_
       refine GL_v rfl (rv_mv (v := .int .i64 _) vw) ?_
       refine GL_v rfl (rv_eql vw vw) ?_
       refine GL_nil ?_
       refine GC_cond rfl (fun h6 => ?_) (fun h6 => ?_)
       ·
        have hd1 : ¬ dir = 0 := by have := h6; simp at this; omega
        have hf : form08 dir code = some doneS := by unfold form08; rw [if_neg g12, if_neg g5, if_pos g15, if_neg hd1]
        simp only [hf] at hpp
        refine GC_shift .nil (msg0 { code := code, addr := a, count := j }) ?_
        refine GC_exit ?_
        show Weak _ _ _ _
        exact weak pB3 sb ⟨{ m := { code := code, addr := a, count := j } }, p1, s1, e1, by rw [← hpp]; simp only [doneS]; rw [show (⟨b, false, 0⟩ : Cu) = ⟨b.drop 0, false, 0⟩ from rfl, hc1], hp1, ⟨rfl, rfl, rfl, trivial⟩, rfl, rfl⟩
       ·
        have hd1 : dir = 0 := by have := h6; simp at this; omega
        have hf : form08 dir code = some manyS := by unfold form08; rw [if_neg g12, if_neg g5, if_pos g15, if_pos hd1]
        simp only [hf] at hpp
        have e00 : MsgX.cells { m := { code := code, addr := a, count := j } } = [b8 code, .int .u8 0, w16 a, w16 j, .int .u16 0, .int .u16 0, .int .u16 0, .int .u16 0, .int .u16 0, .int .u16 0, .int .u16 0, .int .u16 0, .slice none 0 0, .slice none 0 0, .slice none 0 0, .slice none 0 0, .int .u8 0, .int .u8 0, .int .u8 0, .int .u8 0, .int .u8 0, .slice none 0 0] := rfl
        unfold mub; rw [e00]
        refine GC_skip ?_
        refine GC_seq ?_
        refine GC_region ?_
        refine GL_v rfl (rv_mv (v := .pointer _) vw) ?_
        refine GL_call rfl cb111 (rByte_k b23 n k p1 A b s1 e1 hp1) rfl pB sR ?_
        rintro _ _ _ ⟨q, p7, s7, e7, hc7, hp7, rfl, rfl, rfl⟩
        simp only [List.cons_append, List.nil_append]
        have hq := q.toNat_lt
        refine GL_v rfl (rv_cnv (r := (q.toNat : Int)) Tryz.underlying5 Tryz.underlying3 vw (fun _ => IntWalk.i64_in _ (by omega))) ?_
        refine GL_v rfl (rv_as (v := .int .i64 _) vw) ?_
        refine GL_nil ?_
        refine GC_seq ?_
        refine GC_region ?_
        refine GL_v rfl (rv_mv (v := .pointer _) vw) ?_
        refine GL_v rfl (rv_mv (v := .int .i64 _) vw) ?_
        refine GL_v rfl (rv_fa fa30_3 vw) ?_
        refine GL_v rfl (rv_ld Tryz.underlying24 rfl vw) ?_
        refine GL_v rfl (rv_cnv (r := (j.toNat : Int)) Tryz.underlying24 Tryz.underlying3 vw (fun _ => IntWalk.i64_in _ (by omega))) ?_
        refine GL_callD rfl cb115 (rMany_ct j.toNat (by omega)) rfl .nil .nil ?_
        refine GL_v rfl (rv_eql vw vw) ?_
        refine GL_call rfl cb112 (rNeed_k b23 n k p7 A b s7 e7 (decide ((q.toNat : Int) = manyI j.toNat)) 5) rfl pB .nil ?_
        rintro _ _ _ ⟨e8, hc8, rfl, rfl, rfl⟩
        simp only [List.cons_append, List.nil_append]
        refine GL_nil ?_
        refine GC_seq ?_
        refine GC_draw 12 ([blk b9 [b8 code, .int .u8 0, w16 a, w16 j, .int .u16 0, .int .u16 0, .int .u16 0, .int .u16 0, .int .u16 0, .int .u16 0, .int .u16 0, .int .u16 0, .slice none 0 0, .slice none 0 0, .slice none 0 0, .slice none 0 0, .int .u8 0, .int .u8 0, .int .u8 0, .int .u8 0, .int .u8 0, .slice none 0 0] 30]) mixed ?_
        refine GA_v (i := 0) rfl rfl rfl (by kernel_rfl) (rv_mv (v := .pointer _) vw) ?_
        refine GA_v (i := 1) rfl rfl rfl (by kernel_rfl) (rv_mv (v := .int .i64 _) vw) ?_
        refine GA_v (i := 3) rfl rfl rfl (by kernel_rfl) (rv_fa fa30_3 vw) ?_
        refine GA_v (i := 4) rfl rfl rfl (by kernel_rfl) (rv_ld Tryz.underlying24 rfl vw) ?_
        refine GA_v (i := 5) rfl rfl rfl (by kernel_rfl) (rv_cnv (r := (j.toNat : Int)) Tryz.underlying24 Tryz.underlying3 vw (fun _ => IntWalk.i64_in _ (by omega))) ?_
        refine GA_one 2 rfl rfl (by kernel_rfl) ?_
        refine GL_call rfl cb113 (rBytes_k b23 n k p7 A b s7 e8 q.toNat hp7) rfl pB sR ?_
        rintro _ _ _ ⟨v, p9, s9, e9, Ax9, nx9, kx9, hc9, hp9, hnx9, rfl, rfl, rfl⟩
        simp only [List.cons_append, List.nil_append]
        refine GL_nil ⟨inferInstance, ?_⟩
        refine GA_one 6 rfl rfl (by kernel_rfl) ?_
        refine GL_call rfl cb116 (rUnpack_ct Ax9 nx9 kx9 v j.toNat (by omega) hnx9) rfl .nil sR ?_
        rintro _ _ _ ⟨Ab, nb, kb, rfl, rfl, rfl⟩
        simp only [List.cons_append, List.nil_append]
        obtain ⟨l, ok, hu⟩ : ∃ l ok, unpackS v j.toNat = (l, ok) := ⟨_, _, rfl⟩
        rw [hu]
        simp only
        refine GL_nil ⟨inferInstance, ?_⟩
        refine GA_v (i := 7) rfl rfl rfl (by kernel_rfl) (rv_mv (v := .tuple [.slice Ab nb kb, .bool ok].toArray) vw) ?_
        refine GA_v (i := 8) rfl rfl rfl (by kernel_rfl) (rv_ext vw rfl) ?_
        refine GA_v (i := 9) rfl rfl rfl (by kernel_rfl) (rv_ext vw rfl) ?_
        refine GA_v (i := 10) rfl rfl rfl (by kernel_rfl) (rv_as (v := .slice _ _ _) vw) ?_
        refine GA_v (i := 11) rfl rfl rfl (by kernel_rfl) (rv_as (v := .bool _) vw) ?_
        refine GA_nil (by kernel_rfl) ?_
        refine GC_seq ?_
        refine GC_region ?_
        refine GL_v rfl (rv_mv (v := .pointer _) vw) ?_
        refine GL_v rfl (rv_mv (v := .bool _) vw) ?_
        refine GL_call rfl cb112 (rNeed_k b23 n k p9 A b s9 e9 ok 6) rfl pB .nil ?_
        rintro _ _ _ ⟨e10, hc10, rfl, rfl, rfl⟩
        simp only [List.cons_append, List.nil_append]
        refine GL_nil ?_
        refine GC_region ?_
        refine GL_v rfl (rv_mv (v := .slice _ _ _) vw) ?_
        refine GL_v rfl (rv_fa fa30_13 vw) ?_
        refine GL_st (u := .slice Ab nb kb) rfl rfl c26 rfl ?_
        refine GL_shift .nil (msgBits { code := code, addr := a, count := j, bits := l } ⟨Ab, nb, kb⟩) ?_
        refine GL_nil ?_
        show Weak _ _ _ _
        exact weak pB3 sb ⟨{ m := { code := code, addr := a, count := j, bits := l }, b := ⟨Ab, nb, kb⟩ }, p9, s9, e10, by rw [← hpp]; simp only [manyS, doneS]; rw [show (⟨b, false, 0⟩ : Cu) = ⟨b.drop 0, false, 0⟩ from rfl]; simp only [hc1, manyB, hc7, hc8, hc9, hc10, hu], hp9, ⟨rfl, rfl, rfl, trivial⟩, rfl, rfl⟩
      ·
       have g15 : ¬ code.toNat = 15 := by have := h5; simp at this; omega
       have hf : form08 dir code = none := by unfold form08; rw [if_neg g12, if_neg g5, if_neg g15]
       simp only [hf] at hpp
       obtain rfl := hpp
       refine GC_seq ?_
       refine GC_region ?_
       refine GL_v rfl (rv_bld (z' := [.int .u8 0, .int .u8 0, .int .u16 0, .int .u16 0, .int .u16 0, .int .u16 0, .int .u16 0, .int .u16 0, .int .u16 0, .int .u16 0, .int .u16 0, .int .u16 0, .slice none 0 0, .slice none 0 0, .slice none 0 0, .slice none 0 0, .int .u8 0, .int .u8 0, .int .u8 0, .int .u8 0, .int .u8 0, .slice none 0 0]) z30 l30 (fun _ => rfl)) ?_
       refine GL_stA rfl rfl c30 (by simp [Value.oneCell']) (by rfl) ?_
       refine GL_v rfl (rv_as (v := .int .i64 _) vw) ?_
       refine GL_nil ?_
       refine GC_shift .nil (msg0 {}) ?_
       refine GC_ret ?_
       exact finA (T' := [msgR { m := {} }]) (.inr rfl) rfl rfl rfl inferInstance a30 rfl .nil sb ⟨{ m := {} }, rfl, rfl, rfl, rfl⟩
  ·
   rintro E S T ⟨S1, r1, T1, hS, hT, hM⟩
   refine GC_drop hS (GC_dropT hT ?_)
   clear hS hT
   revert hM
   rintro ⟨x, p, s, e, hfin, hp, hE, rfl, rfl⟩
   obtain ⟨E0, rfl⟩ := hE.ex
   refine GC_seq ?_
   refine GC_region ?_
   refine GL_v rfl (rv_mv (v := .pointer _) vw) ?_
   refine GL_call rfl cb117 (rEnd_k b23 n k p A b s e hp) rfl pB sR ?_
   rintro _ _ _ ⟨e11, hc11, rfl, rfl, rfl⟩
   simp only [List.cons_append, List.nil_append]
   refine GL_nil ?_
   refine GC_seq ?_
   refine GC_seq ?_
   refine GC_region ?_
   refine GL_v rfl (rv_mv (v := .pointer _) vw) ?_
   refine GL_v rfl (rv_nil vw) ?_
   refine GL_v rfl (rv_fa fa113_3 vw) ?_
   refine GL_v rfl (rv_ld Tryz.underlying31 rfl vw) ?_
   refine GL_v rfl (rv_neq vw vw) ?_
   refine GL_nil ?_
   refine GC_cond rfl (fun h7 => ?_) (fun h7 => ?_)
   ·
    have he : ¬ e11 = 0 := by have := h7; simpa using this
    rw [finish_no hc11 he] at hfin
    obtain rfl := hfin
    refine GC_seq ?_
    refine GC_draw 7 ([rcub b23 A n k p s e11]) mixed ?_
    refine GA_v (i := 0) rfl rfl rfl (by kernel_rfl) (rv_bld (z' := [.int .u8 0, .int .u8 0, .int .u16 0, .int .u16 0, .int .u16 0, .int .u16 0, .int .u16 0, .int .u16 0, .int .u16 0, .int .u16 0, .int .u16 0, .int .u16 0, .slice none 0 0, .slice none 0 0, .slice none 0 0, .slice none 0 0, .int .u8 0, .int .u8 0, .int .u8 0, .int .u8 0, .int .u8 0, .slice none 0 0]) z30 l30 (fun _ => rfl)) ?_
    refine GA_v (i := 1) rfl rfl rfl (by kernel_rfl) (rv_mv (v := .pointer _) vw) ?_
    refine GA_v (i := 2) rfl rfl rfl (by kernel_rfl) (rv_nil vw) ?_
    refine GA_v (i := 3) rfl rfl rfl (by kernel_rfl) (rv_fa fa113_3 vw) ?_
    refine GA_v (i := 4) rfl rfl rfl (by kernel_rfl) (rv_ld Tryz.underlying31 rfl vw) ?_
    refine GA_one 5 rfl rfl (by kernel_rfl) ?_
    refine GL_stA rfl rfl c30 (by simp [Value.oneCell']) (by rfl) ?_
    refine GL_nil ⟨inferInstance, ?_⟩
    refine GA_v (i := 6) rfl rfl rfl (by kernel_rfl) (rv_as (v := .int .i64 _) vw) ?_
    refine GA_nil (by kernel_rfl) ?_
    refine GC_shift .nil (msg0 {}) ?_
    refine GC_ret ?_
    exact finA (T' := [msgR { m := {} }]) (.inr rfl) rfl rfl rfl inferInstance a30 rfl .nil sb ⟨{ m := {} }, rfl, rfl, rfl, rfl⟩
   ·
    have he : e11 = 0 := by have := h7; simpa using this
    rw [finish_ok hc11 he] at hfin
    obtain rfl := hfin
    refine GC_skip ?_
    refine GC_seq ?_
    refine GC_region ?_
    refine GL_v rfl (rv_ldA (l := x.cells) a30 vw rfl) ?_
    refine GL_stA (l' := x.cells) rfl rfl c30 (MsgX.cells_one _) (by rfl) ?_
    refine GL_v rfl (rv_as (v := .int .i64 _) vw) ?_
    refine GL_nil ?_
    refine GC_ret ?_
    exact finA (T' := [msgR x]) (.inr rfl) rfl rfl rfl inferInstance a30 rfl .nil sb ⟨x, rfl, rfl, rfl, rfl⟩
end Go.Bus
