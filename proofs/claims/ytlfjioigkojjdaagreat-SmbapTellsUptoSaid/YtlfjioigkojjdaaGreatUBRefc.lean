/- Part of the proof: Refc. No condition. -/
import Derived.Test.YtlfjioigkojjdaaGreatUBRefb
set_option linter.unusedVariables false
set_option linter.unusedSimpArgs false
set_option maxRecDepth 100000
set_option maxHeartbeats 4000000
namespace Go.Bus
open Go Go.Proofs
theorem rPublic_ct (c : UInt8) : CtD PG 108 [b8 c] [] [] (.bool (publicS c)) [] [] := by
 refine Ct_of Tryz.func108 rfl 37 rfl (Nat.le_of_ble_eq_true rfl) fun w0 M N => ?_
 refine GC_seq ?_
 refine GC_region ?_
 refine GL_v rfl (rv_as (v := .bool _) vw) ?_
 refine GL_nil ?_
 refine GC_seq ?_
 refine GC_region ?_
 refine GL_v rfl (rv_mv (v := .int .u8 _) vw) ?_
 refine GL_v rfl (rv_geq vw vw) ?_
 refine GL_v rfl (rv_mv (v := .bool _) vw) ?_
 refine GL_g rfl rfl gvt (rv_mv (v := .int .u8 _) vw) ?_
 refine GL_g rfl rfl gvt (rv_leq vwg vw) ?_
 refine GL_v rfl (rv_and vw vwg) ?_
 refine GL_v rfl (rv_mv (v := .bool _) vw) ?_
 refine GL_g rfl rfl gvf (rv_mv (v := .int .u8 _) vw) ?_
 refine GL_g rfl rfl gvf (rv_eql vwg vw) ?_
 refine GL_v rfl (rv_or vw vwg) ?_
 refine GL_v rfl (rv_mv (v := .bool _) vw) ?_
 refine GL_g rfl rfl gvf (rv_mv (v := .int .u8 _) vw) ?_
 refine GL_g rfl rfl gvf (rv_eql vwg vw) ?_
 refine GL_v rfl (rv_or vw vwg) ?_
 refine GL_v rfl (rv_mv (v := .bool _) vw) ?_
 refine GL_g rfl rfl gvf (rv_mv (v := .int .u8 _) vw) ?_
 refine GL_g rfl rfl gvf (rv_geq vwg vw) ?_
 refine GL_g rfl rfl gvf (rv_mv (v := .bool _) vwg) ?_
 refine GL_g rfl rfl gvgt (rv_mv (v := .int .u8 _) vw) ?_
 refine GL_g rfl rfl gvgt (rv_leq vwg vw) ?_
 refine GL_g rfl rfl gvf (rv_and vwg vwg) ?_
 refine GL_v rfl (rv_or vw vwg) ?_
 refine GL_v rfl (rv_mv (v := .bool _) vw) ?_
 refine GL_g rfl rfl gvf (rv_mv (v := .int .u8 _) vw) ?_
 refine GL_g rfl rfl gvf (rv_geq vwg vw) ?_
 refine GL_g rfl rfl gvf (rv_mv (v := .bool _) vwg) ?_
 refine GL_g rfl rfl gvgt (rv_mv (v := .int .u8 _) vw) ?_
 refine GL_g rfl rfl gvgt (rv_leq vwg vw) ?_
 refine GL_g rfl rfl gvf (rv_and vwg vwg) ?_
 refine GL_v rfl (rv_or vw vwg) ?_
 refine GL_v rfl (rv_mv (v := .bool _) vw) ?_
 refine GL_g rfl rfl gvf (rv_mv (v := .int .u8 _) vw) ?_
 refine GL_g rfl rfl gvf (rv_eql vwg vw) ?_
 refine GL_v rfl (rv_or vw vwg) ?_
 refine GL_v rfl (rv_as (v := .bool _) vw) ?_
 refine GL_nil ?_
 refine GC_ret ?_
 refine fin1 (.inr rfl) rfl rfl .nil .nil ⟨congrArg Value.bool ?_, rfl, rfl⟩
 unfold publicS; rw [Bool.eq_iff_iff]; simp; omega
theorem rFailure_ct (c : UInt8) : CtD PG 109 [b8 c] [] [] (.bool (failureS c)) [] [] := by
 refine Ct_of Tryz.func109 rfl 21 rfl (Nat.le_of_ble_eq_true rfl) fun w0 M N => ?_
 refine GC_seq ?_
 refine GC_region ?_
 refine GL_v rfl (rv_as (v := .bool _) vw) ?_
 refine GL_nil ?_
 refine GC_seq ?_
 refine GC_region ?_
 refine GL_v rfl (rv_mv (v := .int .u8 _) vw) ?_
 refine GL_v rfl (rv_geq vw vw) ?_
 refine GL_v rfl (rv_mv (v := .bool _) vw) ?_
 refine GL_g rfl rfl gvt (rv_mv (v := .int .u8 _) vw) ?_
 refine GL_g rfl rfl gvt (rv_leq vwg vw) ?_
 refine GL_v rfl (rv_and vw vwg) ?_
 refine GL_v rfl (rv_mv (v := .bool _) vw) ?_
 refine GL_g rfl rfl gvf (rv_mv (v := .int .u8 _) vw) ?_
 refine GL_g rfl rfl gvf (rv_eql vwg vw) ?_
 refine GL_v rfl (rv_or vw vwg) ?_
 refine GL_v rfl (rv_mv (v := .bool _) vw) ?_
 refine GL_g rfl rfl gvf (rv_mv (v := .int .u8 _) vw) ?_
 refine GL_g rfl rfl gvf (rv_eql vwg vw) ?_
 refine GL_v rfl (rv_or vw vwg) ?_
 refine GL_v rfl (rv_mv (v := .bool _) vw) ?_
 refine GL_g rfl rfl gvf (rv_mv (v := .int .u8 _) vw) ?_
 refine GL_g rfl rfl gvf (rv_eql vwg vw) ?_
 refine GL_v rfl (rv_or vw vwg) ?_
 refine GL_v rfl (rv_as (v := .bool _) vw) ?_
 refine GL_nil ?_
 refine GC_ret ?_
 refine fin1 (.inr rfl) rfl rfl .nil .nil ⟨congrArg Value.bool ?_, rfl, rfl⟩
 unfold failureS; rw [Bool.eq_iff_iff]; simp; omega
theorem rSub_ct (c : UInt16) : CtD PG 120 [w16 c] [] [] (.bool (subS c)) [] [] := by
 refine Ct_of Tryz.func120 rfl 17 rfl (Nat.le_of_ble_eq_true rfl) fun w0 M N => ?_
 refine GC_seq ?_
 refine GC_region ?_
 refine GL_v rfl (rv_as (v := .bool _) vw) ?_
 refine GL_nil ?_
 refine GC_seq ?_
 refine GC_region ?_
 refine GL_v rfl (rv_mv (v := .int .u16 _) vw) ?_
 refine GL_v rfl (rv_leq vw vw) ?_
 refine GL_v rfl (rv_mv (v := .bool _) vw) ?_
 refine GL_g rfl rfl gvf (rv_mv (v := .int .u16 _) vw) ?_
 refine GL_g rfl rfl gvf (rv_geq vwg vw) ?_
 refine GL_g rfl rfl gvf (rv_mv (v := .bool _) vwg) ?_
 refine GL_g rfl rfl gvgt (rv_mv (v := .int .u16 _) vw) ?_
 refine GL_g rfl rfl gvgt (rv_leq vwg vw) ?_
 refine GL_g rfl rfl gvf (rv_and vwg vwg) ?_
 refine GL_v rfl (rv_or vw vwg) ?_
 refine GL_v rfl (rv_mv (v := .bool _) vw) ?_
 refine GL_g rfl rfl gvf (rv_mv (v := .int .u16 _) vw) ?_
 refine GL_g rfl rfl gvf (rv_eql vwg vw) ?_
 refine GL_v rfl (rv_or vw vwg) ?_
 refine GL_v rfl (rv_as (v := .bool _) vw) ?_
 refine GL_nil ?_
 refine GC_ret ?_
 refine fin1 (.inr rfl) rfl rfl .nil .nil ⟨congrArg Value.bool ?_, rfl, rfl⟩
 unfold subS; rw [Bool.eq_iff_iff]; simp; omega
theorem rMay_ct (dir : Int) (sub v : UInt16) : CtD PG 122 [.int .i64 dir, w16 sub, w16 v] [] [] (.bool (mayS dir sub v)) [] [] := by
 refine Ct_of Tryz.func122 rfl 39 rfl (Nat.le_of_ble_eq_true rfl) fun w0 M N => ?_
 have hv := v.toNat_lt
 obtain ⟨R, hR⟩ : ∃ R, mayS dir sub v = R := ⟨_, rfl⟩
 rw [hR]
 unfold mayS at hR
 refine GC_seq ?_
 refine GC_region ?_
 refine GL_v rfl (rv_as (v := .bool _) vw) ?_
 refine GL_nil ?_
 refine GC_seq ?_
 refine GC_block ?_
 refine GC_seq ?_
 refine GC_region ?_
 refine GL_v rfl (rv_mv (v := .int .u16 _) vw) ?_
 refine GL_v rfl (rv_eql vw vw) ?_
 refine GL_v rfl (rv_as (v := .bool _) vw) ?_
 refine GL_nil ?_
 refine GC_cond rfl (fun h0 => ?_) (fun h0 => ?_)
 ·
  have g1 : sub.toNat = 1 := by have := h0; simp at this; omega
  rw [if_neg (by omega), if_pos g1] at hR
  subst hR
  refine GC_seq ?_
  refine GC_region ?_
  refine GL_v rfl (rv_mv (v := .int .u16 _) vw) ?_
  refine GL_v rfl (rv_eql vw vw) ?_
  refine GL_v rfl (rv_mv (v := .bool _) vw) ?_
  refine GL_g rfl rfl gvf (rv_mv (v := .int .u16 _) vw) ?_
  refine GL_g rfl rfl gvf (rv_eql vwg vw) ?_
  refine GL_v rfl (rv_or vw vwg) ?_
  refine GL_v rfl (rv_as (v := .bool _) vw) ?_
  refine GL_nil ?_
  refine GC_ret ?_
  exact fin1 (.inr rfl) rfl rfl .nil .nil ⟨congrArg Value.bool (by rw [Bool.eq_iff_iff]; simp <;> omega), rfl, rfl⟩
 ·
  have g1 : ¬ sub.toNat = 1 := by have := h0; simp at this; omega
  refine GC_seq ?_
  refine GC_region ?_
  refine GL_v rfl (rv_mv (v := .int .u16 _) vw) ?_
  refine GL_v rfl (rv_eql vw vw) ?_
  refine GL_v rfl (rv_as (v := .bool _) vw) ?_
  refine GL_nil ?_
  refine GC_cond rfl (fun h1 => ?_) (fun h1 => ?_)
  ·
   have g3 : sub.toNat = 3 := by have := h1; simp at this; omega
   rw [if_neg (by omega), if_neg g1, if_pos g3] at hR
   subst hR
   refine GC_seq ?_
   refine GC_region ?_
   refine GL_v rfl (rv_mv (v := .int .u16 _) vw) ?_
   refine GL_v rfl (rv_rem (r := (v.toNat : Int) % 256) vw vw (fun _ => by decide) (fun _ => Int.tmod_eq_emod_of_nonneg (by omega))) ?_
   refine GL_v rfl (rv_eql vw vw) ?_
   refine GL_v rfl (rv_as (v := .bool _) vw) ?_
   refine GL_nil ?_
   refine GC_ret ?_
   exact fin1 (.inr rfl) rfl rfl .nil .nil ⟨congrArg Value.bool (by rw [Bool.eq_iff_iff]; simp <;> omega), rfl, rfl⟩
  ·
   have g3 : ¬ sub.toNat = 3 := by have := h1; simp at this; omega
   refine GC_seq ?_
   refine GC_region ?_
   refine GL_v rfl (rv_mv (v := .int .i64 _) vw) ?_
   refine GL_v rfl (rv_eql vw vw) ?_
   refine GL_v rfl (rv_mv (v := .bool _) vw) ?_
   refine GL_g rfl rfl gvt (rv_mv (v := .int .u16 _) vw) ?_
   refine GL_g rfl rfl gvt (rv_eql vwg vw) ?_
   refine GL_g rfl rfl gvt (rv_mv (v := .bool _) vwg) ?_
   refine GL_g rfl rfl gvgf (rv_mv (v := .int .u16 _) vw) ?_
   refine GL_g rfl rfl gvgf (rv_geq vwg vw) ?_
   refine GL_g rfl rfl gvgf (rv_mv (v := .bool _) vwg) ?_
   refine GL_g rfl rfl gvgt (rv_mv (v := .int .u16 _) vw) ?_
   refine GL_g rfl rfl gvgt (rv_leq vwg vw) ?_
   refine GL_g rfl rfl gvgf (rv_and vwg vwg) ?_
   refine GL_g rfl rfl gvt (rv_or vwg vwg) ?_
   refine GL_v rfl (rv_and vw vwg) ?_
   refine GL_v rfl (rv_as (v := .bool _) vw) ?_
   refine GL_nil ?_
   refine GC_cond rfl (fun h2 => ?_) (fun h2 => ?_)
   ·
    have g5 : (sub.toNat = 2 ∨ 11 ≤ sub.toNat ∧ sub.toNat ≤ 18) ∧ dir = 1 := by have := h2; simp at this; omega
    rw [if_pos g5] at hR
    subst hR
    refine GC_seq ?_
    refine GC_region ?_
    refine GL_v rfl (rv_as (v := .bool _) vw) ?_
    refine GL_nil ?_
    refine GC_ret ?_
    exact fin1 (.inr rfl) rfl rfl .nil .nil ⟨rfl, rfl, rfl⟩
   ·
    have g5 : ¬ ((sub.toNat = 2 ∨ 11 ≤ sub.toNat ∧ sub.toNat ≤ 18) ∧ dir = 1) := by have := h2; simp at this; omega
    rw [if_neg g5, if_neg g1, if_neg g3] at hR
    subst hR
    refine GC_skip ?_
    refine GC_seq ?_
    refine GC_region ?_
    refine GL_v rfl (rv_mv (v := .int .u16 _) vw) ?_
    refine GL_v rfl (rv_eql vw vw) ?_
    refine GL_v rfl (rv_as (v := .bool _) vw) ?_
    refine GL_nil ?_
    refine GC_ret ?_
    exact fin1 (.inr rfl) rfl rfl .nil .nil ⟨congrArg Value.bool (by rw [Bool.eq_iff_iff]; simp <;> omega), rfl, rfl⟩
end Go.Bus
