/- Part of the proof: Mbap. No condition. -/
import Derived.Test.YtlfjioigkojjdaaGreatUBFrame
import Derived.Test.YtlfjioigkojjdaaGreatUBLaw14
set_option linter.unusedVariables false
set_option linter.unusedSimpArgs false
set_option maxRecDepth 100000
set_option maxHeartbeats 8000000
namespace Go.Bus
open Go Go.Proofs
theorem P17_ct (dir : Int) (A : Option Addr) (n k : Nat) (b : List UInt8) (hn : n ≤ 35184372088832) : Ct PG 23 [.int .i64 dir, .slice A n k] [] [row 1 A n k (bytesV b)] (FrameOut (P17 dir b)) := by
 refine Ct_of Tryz.func23 rfl 75 rfl (Nat.le_of_ble_eq_true rfl) fun w0 M N => ?_
 refine GC_row A fun hrow => ?_
 have hl : b.length = n := by have := hrow.1; simpa [bytesV] using this
 obtain ⟨pp, hpp⟩ : ∃ pp, P17 dir b = pp := ⟨_, rfl⟩
 rw [hpp]
 unfold P17 at hpp
 refine GC_seq ?_
 refine GC_region ?_
 refine GL_alloc rfl z44 (fun b4 => ?_)
 refine GL_v rfl (rv_as (v := .int .i64 _) vw) ?_
 refine GL_nil ?_
 refine GC_seq ?_
 refine GC_block ?_
 refine GC_seq ?_
 refine GC_region ?_
 refine GL_v rfl (rv_mv (v := .int .i64 _) vw) ?_
 refine GL_v rfl (rv_neq vw vw) ?_
 refine GL_v rfl (rv_mv (v := .bool _) vw) ?_
 refine GL_g rfl rfl gvt (rv_mv (v := .int .i64 _) vw) ?_
 refine GL_g rfl rfl gvt (rv_neq vwg vw) ?_
 refine GL_v rfl (rv_and vw vwg) ?_
 refine GL_v rfl (rv_as (v := .bool _) vw) ?_
 refine GL_nil ?_
 refine GC_cond rfl (fun h0 => ?_) (fun h0 => ?_)
 ·
  have hd : dir ≠ 0 ∧ dir ≠ 1 := by have := h0; simpa using this
  rw [if_pos hd] at hpp
  obtain rfl := hpp
  refine GC_seq ?_
  refine GC_region ?_
  refine GL_v rfl (rv_bld (z' := [.int .u8 0, .int .u16 0, .int .u8 0, .int .u8 0, .int .u16 0, .int .u16 0, .int .u16 0, .int .u16 0, .int .u16 0, .int .u16 0, .int .u16 0, .int .u16 0, .int .u16 0, .int .u16 0, .slice none 0 0, .slice none 0 0, .slice none 0 0, .slice none 0 0, .int .u8 0, .int .u8 0, .int .u8 0, .int .u8 0, .int .u8 0, .slice none 0 0]) z44 l44 (fun _ => rfl)) ?_
  refine GL_stA rfl rfl c44 (by simp [Value.oneCell']) (by rfl) ?_
  refine GL_v rfl (rv_as (v := .int .i64 _) vw) ?_
  refine GL_nil ?_
  refine GC_shift .nil (msg0 {}) ?_
  refine GC_ret ?_
  exact finA (T' := [msgR { m := {} }]) (.inr rfl) rfl rfl rfl inferInstance a44 rfl .nil sb ⟨0, 0, { m := {} }, rfl, rfl, rfl, rfl⟩
 ·
  have hd : ¬ (dir ≠ 0 ∧ dir ≠ 1) := by have := h0; simpa using this
  rw [if_neg hd] at hpp
  refine GC_seq ?_
  refine GC_region ?_
  refine GL_v rfl (rv_mv (v := .slice _ _ _) vw) ?_
  refine GL_v rfl (rv_len el22 vw) ?_
  refine GL_v rfl (rv_lss vw vw) ?_
  refine GL_v rfl (rv_as (v := .bool _) vw) ?_
  refine GL_nil ?_
  refine GC_cond rfl (fun h1 => ?_) (fun h1 => ?_)
  ·
   have g : b.length < 8 := by have := h1; simp at this; omega
   rw [if_pos g] at hpp
   obtain rfl := hpp
   refine GC_seq ?_
   refine GC_region ?_
   refine GL_v rfl (rv_bld (z' := [.int .u8 0, .int .u16 0, .int .u8 0, .int .u8 0, .int .u16 0, .int .u16 0, .int .u16 0, .int .u16 0, .int .u16 0, .int .u16 0, .int .u16 0, .int .u16 0, .int .u16 0, .int .u16 0, .slice none 0 0, .slice none 0 0, .slice none 0 0, .slice none 0 0, .int .u8 0, .int .u8 0, .int .u8 0, .int .u8 0, .int .u8 0, .slice none 0 0]) z44 l44 (fun _ => rfl)) ?_
   refine GL_stA rfl rfl c44 (by simp [Value.oneCell']) (by rfl) ?_
   refine GL_v rfl (rv_as (v := .int .i64 _) vw) ?_
   refine GL_nil ?_
   refine GC_shift .nil (msg0 {}) ?_
   refine GC_ret ?_
   exact finA (T' := [msgR { m := {} }]) (.inr rfl) rfl rfl rfl inferInstance a44 rfl .nil sb ⟨0, 0, { m := {} }, rfl, rfl, rfl, rfl⟩
  ·
   have g : ¬ b.length < 8 := by have := h1; simp at this; omega
   rw [if_neg g] at hpp
   refine GC_seq ?_
   refine GC_region ?_
   refine GL_v rfl (rv_mv (v := .slice _ _ _) vw) ?_
   refine GL_v rfl (rv_len el22 vw) ?_
   refine GL_v rfl (rv_gtr vw vw) ?_
   refine GL_v rfl (rv_as (v := .bool _) vw) ?_
   refine GL_nil ?_
   refine GC_cond rfl (fun h2 => ?_) (fun h2 => ?_)
   ·
    have g2 : 260 < b.length := by have := h2; simp at this; omega
    rw [if_pos g2] at hpp
    obtain rfl := hpp
    refine GC_seq ?_
    refine GC_region ?_
    refine GL_v rfl (rv_bld (z' := [.int .u8 0, .int .u16 0, .int .u8 0, .int .u8 0, .int .u16 0, .int .u16 0, .int .u16 0, .int .u16 0, .int .u16 0, .int .u16 0, .int .u16 0, .int .u16 0, .int .u16 0, .int .u16 0, .slice none 0 0, .slice none 0 0, .slice none 0 0, .slice none 0 0, .int .u8 0, .int .u8 0, .int .u8 0, .int .u8 0, .int .u8 0, .slice none 0 0]) z44 l44 (fun _ => rfl)) ?_
    refine GL_stA rfl rfl c44 (by simp [Value.oneCell']) (by rfl) ?_
    refine GL_v rfl (rv_as (v := .int .i64 _) vw) ?_
    refine GL_nil ?_
    refine GC_shift .nil (msg0 {}) ?_
    refine GC_ret ?_
    exact finA (T' := [msgR { m := {} }]) (.inr rfl) rfl rfl rfl inferInstance a44 rfl .nil sb ⟨0, 0, { m := {} }, rfl, rfl, rfl, rfl⟩
   ·
    have g2 : ¬ 260 < b.length := by have := h2; simp at this; omega
    rw [if_neg g2] at hpp
    obtain ⟨b0, b1, b2, b3, b4, b5, b6, l, rfl⟩ := seven (l := b) (by omega)
    have t0 := two_toNat b0 b1
    have t2 := two_toNat b2 b3
    have t4 := two_toNat b4 b5
    simp only [List.length_cons] at hl g g2
    simp only [at8, List.getD_cons_zero, List.getD_cons_succ, List.length_cons, List.drop_succ_cons, List.drop_zero] at hpp
    refine GC_skip ?_
    refine GC_seq ?_
    refine GC_region ?_
    refine GL_v rfl (rv_mv (v := .slice _ _ _) vw) ?_
    refine GL_call rfl cb72 (New_k A n _ _ hn) rfl .nil sR ?_
    rintro _ _ _ ⟨B, A1, n1, k1, hn1, rfl, rfl, rfl⟩
    simp only [List.cons_append, List.nil_append]
    refine GL_v rfl (rv_as (v := .pointer _) vw) ?_
    refine GL_nil ?_
    refine GC_seq ?_
    refine GC_region ?_
    refine GL_v rfl (rv_as (v := .func _ _ _) vw) ?_
    refine GL_nil ?_
    refine GC_seq ?_
    refine GC_region ?_
    refine GL_v rfl (rv_mv (v := .func _ _ _) vw) ?_
    refine GL_v rfl (rv_mv (v := .pointer _) vw) ?_
    refine GL_callC (first := []) (cap := []) rfl rfl cb73 rfl (Word_k B n1 k1 A1 (b0 :: b1 :: b2 :: b3 :: b4 :: b5 :: b6 :: l) false 0 hn1) pB sR ?_
    rintro _ _ _ ⟨a1, r1, s1, e1, A1, n1, k1, hc1, hn1, rfl, rfl, rfl⟩
    rw [word_cons] at hc1
    cases hc1
    simp only [List.cons_append, List.nil_append]
    refine GL_v rfl (rv_mv (v := .func _ _ _) vw) ?_
    refine GL_v rfl (rv_mv (v := .pointer _) vw) ?_
    refine GL_callC (first := []) (cap := []) rfl rfl cb73 rfl (Word_k B n1 k1 A1 (b2 :: b3 :: b4 :: b5 :: b6 :: l) false 0 hn1) pB sR ?_
    rintro _ _ _ ⟨a1, r1, s1, e1, A2, n2, k2, hc1, hn2, rfl, rfl, rfl⟩
    rw [word_cons] at hc1
    cases hc1
    simp only [List.cons_append, List.nil_append]
    refine GL_v rfl (rv_mv (v := .func _ _ _) vw) ?_
    refine GL_v rfl (rv_mv (v := .pointer _) vw) ?_
    refine GL_callC (first := []) (cap := []) rfl rfl cb73 rfl (Word_k B n2 k2 A2 (b4 :: b5 :: b6 :: l) false 0 hn2) pB sR ?_
    rintro _ _ _ ⟨a1, r1, s1, e1, A3, n3, k3, hc1, hn3, rfl, rfl, rfl⟩
    rw [word_cons] at hc1
    cases hc1
    simp only [List.cons_append, List.nil_append]
    refine GL_v rfl (rv_as (v := .int .u16 _) vw) ?_
    refine GL_v rfl (rv_as (v := .int .u16 _) vw) ?_
    refine GL_v rfl (rv_as (v := .int .u16 _) vw) ?_
    refine GL_nil ?_
    refine GC_seq ?_
    refine GC_block ?_
    refine GC_seq ?_
    refine GC_region ?_
    refine GL_v rfl (rv_mv (v := .int .u16 _) vw) ?_
    refine GL_v rfl (rv_neq vw vw) ?_
    refine GL_v rfl (rv_as (v := .bool _) vw) ?_
    refine GL_nil ?_
    refine GC_cond rfl (fun h3 => ?_) (fun h3 => ?_)
    ·
     have g3 : b2.toNat ≠ 0 ∨ b3.toNat ≠ 0 := by have := h3; simp only [Bool.not_eq_true', decide_eq_false_iff_not] at this; omega
     rw [if_pos g3] at hpp
     obtain rfl := hpp
     refine GC_seq ?_
     refine GC_region ?_
     refine GL_v rfl (rv_bld (z' := [.int .u8 0, .int .u16 0, .int .u8 0, .int .u8 0, .int .u16 0, .int .u16 0, .int .u16 0, .int .u16 0, .int .u16 0, .int .u16 0, .int .u16 0, .int .u16 0, .int .u16 0, .int .u16 0, .slice none 0 0, .slice none 0 0, .slice none 0 0, .slice none 0 0, .int .u8 0, .int .u8 0, .int .u8 0, .int .u8 0, .int .u8 0, .slice none 0 0]) z44 l44 (fun _ => rfl)) ?_
     refine GL_stA rfl rfl c44 (by simp [Value.oneCell']) (by rfl) ?_
     refine GL_v rfl (rv_as (v := .int .i64 _) vw) ?_
     refine GL_nil ?_
     refine GC_shift .nil (msg0 {}) ?_
     refine GC_ret ?_
     exact finA (T' := [msgR { m := {} }]) (.inr rfl) rfl rfl rfl inferInstance a44 rfl .nil sb ⟨0, 0, { m := {} }, rfl, rfl, rfl, rfl⟩
    ·
     have g3 : ¬ (b2.toNat ≠ 0 ∨ b3.toNat ≠ 0) := by have := h3; simp only [Bool.not_eq_false', decide_eq_true_eq] at this; omega
     rw [if_neg g3] at hpp
     refine GC_seq ?_
     refine GC_region ?_
     refine GL_v rfl (rv_mv (v := .int .u16 _) vw) ?_
     refine GL_v rfl (rv_cnv (r := ((UInt16.ofNat (256 * b4.toNat + b5.toNat)).toNat : Int)) Tryz.underlying24 Tryz.underlying3 vw (fun _ => IntWalk.i64_in _ (by have := b4.toNat_lt; have := b5.toNat_lt; omega))) ?_
     refine GL_v rfl (rv_mv (v := .slice _ _ _) vw) ?_
     refine GL_v rfl (rv_len el22 vw) ?_
     refine GL_v rfl (rv_sub (r := (n : Int) - 6) vw vw (fun _ => IntWalk.i64_in _ (by omega))) ?_
     refine GL_v rfl (rv_neq vw vw) ?_
     refine GL_v rfl (rv_as (v := .bool _) vw) ?_
     refine GL_nil ?_
     refine GC_cond rfl (fun h4 => ?_) (fun h4 => ?_)
     ·
      have g4 : 256 * b4.toNat + b5.toNat ≠ l.length + 1 + 1 + 1 + 1 + 1 + 1 + 1 - 6 := by have := h4; simp only [Bool.not_eq_true', decide_eq_false_iff_not] at this; omega
      rw [if_pos g4] at hpp
      obtain rfl := hpp
      refine GC_seq ?_
      refine GC_region ?_
      refine GL_v rfl (rv_bld (z' := [.int .u8 0, .int .u16 0, .int .u8 0, .int .u8 0, .int .u16 0, .int .u16 0, .int .u16 0, .int .u16 0, .int .u16 0, .int .u16 0, .int .u16 0, .int .u16 0, .int .u16 0, .int .u16 0, .slice none 0 0, .slice none 0 0, .slice none 0 0, .slice none 0 0, .int .u8 0, .int .u8 0, .int .u8 0, .int .u8 0, .int .u8 0, .slice none 0 0]) z44 l44 (fun _ => rfl)) ?_
      refine GL_stA rfl rfl c44 (by simp [Value.oneCell']) (by rfl) ?_
      refine GL_v rfl (rv_as (v := .int .i64 _) vw) ?_
      refine GL_nil ?_
      refine GC_shift .nil (msg0 {}) ?_
      refine GC_ret ?_
      exact finA (T' := [msgR { m := {} }]) (.inr rfl) rfl rfl rfl inferInstance a44 rfl .nil sb ⟨0, 0, { m := {} }, rfl, rfl, rfl, rfl⟩
     ·
      have g4 : ¬ 256 * b4.toNat + b5.toNat ≠ l.length + 1 + 1 + 1 + 1 + 1 + 1 + 1 - 6 := by have := h4; simp only [Bool.not_eq_false', decide_eq_true_eq] at this; omega
      rw [if_neg g4] at hpp
      refine GC_skip ?_
      refine GC_seq ?_
      refine GC_region ?_
      refine GL_v rfl (rv_mv (v := .pointer _) vw) ?_
      refine GL_call rfl cb74 (Byte_k B n3 k3 A3 (b6::l) false 0 hn3) rfl pB sR ?_
      rintro _ _ _ ⟨u, r2, s2, e2, A2, n2, k2, hc2, hn2, rfl, rfl, rfl⟩
      simp only [List.cons_append, List.nil_append]
      rw [byte_cons'] at hc2
      cases hc2
      refine GL_v rfl (rv_as (v := b8 b6) vw) ?_
      refine GL_nil ?_
      refine GC_seq ?_
      refine GC_region ?_
      refine GL_v rfl (rv_mv (v := .int .i64 _) vw) ?_
      refine GL_v rfl (rv_mv (v := .pointer _) vw) ?_
      refine GL_v rfl (rv_mv (v := .pointer _) vw) ?_
      refine GL_callD rfl cb76 (Left_k B n2 k2 A2 l false 0) rfl pB sR ?_
      refine GL_call rfl cb75 (Bytes_k B n2 k2 A2 l false 0 l.length hn2) rfl pB sR ?_
      rintro _ _ _ ⟨v, r9, s9, e9, A9, n9, k9, Av, nv, kv, hc9, hn9, hnv, rfl, rfl, rfl⟩
      rw [bytes_all] at hc9
      cases hc9
      simp only [List.cons_append, List.nil_append]
      refine GL_call rfl cb15 (P14_ct dir Av nv kv l hnv) rfl .nil sR ?_
      rintro _ _ _ ⟨x, rfl, hx, rfl, rfl⟩
      simp only [List.cons_append, List.nil_append]
      obtain ⟨m, e, hP⟩ : ∃ m e, P14 dir l = (m, e) := ⟨_, _, rfl⟩
      rw [hP] at hx hpp ⊢
      simp only at hx ⊢
      refine GL_v rfl (rv_mv (v := .tuple [.agg x.cells.toArray, .int .i64 e].toArray) vw) ?_
      refine GL_v rfl (rv_ext vw rfl) ?_
      refine GL_v rfl (rv_ext vw rfl) ?_
      refine GL_alloc rfl z30 (fun b12 => ?_)
      refine GL_stA (l' := x.cells) rfl rfl c30 (MsgX.cells_one _) (by rfl) ?_
      refine GL_v rfl (rv_as (v := .int .i64 _) vw) ?_
      refine GL_nil ?_
      refine GC_seq ?_
      refine GC_seq ?_
      refine GC_region ?_
      refine GL_v rfl (rv_mv (v := .int .i64 _) vw) ?_
      refine GL_v rfl (rv_neq vw vw) ?_
      refine GL_nil ?_
      refine GC_cond rfl (fun h5 => ?_) (fun h5 => ?_)
      ·
       have he : e ≠ 0 := by have := h5; simpa using this
       rw [framed_err he] at hpp
       obtain rfl := hpp
       refine GC_seq ?_
       refine GC_region ?_
       refine GL_v rfl (rv_bld (z' := [.int .u8 0, .int .u16 0, .int .u8 0, .int .u8 0, .int .u16 0, .int .u16 0, .int .u16 0, .int .u16 0, .int .u16 0, .int .u16 0, .int .u16 0, .int .u16 0, .int .u16 0, .int .u16 0, .slice none 0 0, .slice none 0 0, .slice none 0 0, .slice none 0 0, .int .u8 0, .int .u8 0, .int .u8 0, .int .u8 0, .int .u8 0, .slice none 0 0]) z44 l44 (fun _ => rfl)) ?_
       refine GL_v rfl (rv_mv (v := .int .i64 _) vw) ?_
       refine GL_stA rfl rfl c44 (by simp [Value.oneCell']) (by rfl) ?_
       refine GL_v rfl (rv_as (v := .int .i64 _) vw) ?_
       refine GL_nil ?_
       refine GC_shift .nil (msg0 {}) ?_
       refine GC_ret ?_
       exact finA (T' := [msgR { m := {} }]) (.inr rfl) rfl rfl rfl inferInstance a44 rfl .nil sb ⟨0, 0, { m := {} }, rfl, rfl, rfl, rfl⟩
      ·
       have he : e = 0 := by have := h5; simpa using this
       rw [framed_ok he] at hpp
       obtain rfl := hpp
       refine GC_skip ?_
       refine GC_seq ?_
       refine GC_region ?_
       refine GL_v rfl (rv_mv (v := b8 b6) vw) ?_
       refine GL_v rfl (rv_mv (v := w16 (UInt16.ofNat (256 * b0.toNat + b1.toNat))) vw) ?_
       refine GL_v rfl (rv_bld (z' := [b8 b6, w16 (UInt16.ofNat (256 * b0.toNat + b1.toNat))]) z42 l42 (fun _ => rfl)) ?_
       refine GL_v rfl (rv_ldA (l := x.cells) a30 vw rfl) ?_
       refine GL_v rfl (rv_bld (z' := frCells b6 (UInt16.ofNat (256 * b0.toNat + b1.toNat)) x) z44 l44 (fun _ => frame_fill rfl rfl rfl)) ?_
       refine GL_stA (l' := frCells b6 (UInt16.ofNat (256 * b0.toNat + b1.toNat)) x) rfl rfl c44 (frCells_one _ _ _) (by rfl) ?_
       refine GL_v rfl (rv_as (v := .int .i64 _) vw) ?_
       refine GL_nil ?_
       refine GC_ret ?_
       exact finA (T' := [msgR x]) (.inr rfl) rfl rfl rfl inferInstance a44 rfl .nil sb ⟨b6, _, x, rfl, by rw [hx], rfl, rfl⟩
theorem rP17_ct (dir : Int) (A : Option Addr) (n k : Nat) (b : List UInt8) (hn : n ≤ 35184372088832) : Ct PG 24 [.int .i64 dir, .slice A n k] [] [row 1 A n k (bytesV b)] (FrameOut (P17 dir b)) := by
 refine Ct_of Tryz.func24 rfl 76 rfl (Nat.le_of_ble_eq_true rfl) fun w0 M N => ?_
 refine GC_row A fun hrow => ?_
 have hl : b.length = n := by have := hrow.1; simpa [bytesV] using this
 obtain ⟨pp, hpp⟩ : ∃ pp, P17 dir b = pp := ⟨_, rfl⟩
 rw [hpp]
 unfold P17 at hpp
 refine GC_seq ?_
 refine GC_region ?_
 refine GL_alloc rfl z44 (fun b4 => ?_)
 refine GL_v rfl (rv_as (v := .int .i64 _) vw) ?_
 refine GL_nil ?_
 refine GC_seq ?_
 refine GC_region ?_
 refine GL_v rfl (rv_mv (v := .slice _ _ _) vw) ?_
 refine GL_v rfl (rv_len el22 vw) ?_
 refine GL_v rfl (rv_as (v := .int .i64 _) vw) ?_
 refine GL_nil ?_
 refine GC_seq ?_
 refine GC_seq ?_
 refine GC_region ?_
 refine GL_v rfl (rv_mv (v := .int .i64 _) vw) ?_
 refine GL_v rfl (rv_neq vw vw) ?_
 refine GL_v rfl (rv_mv (v := .bool _) vw) ?_
 refine GL_g rfl rfl gvt (rv_mv (v := .int .i64 _) vw) ?_
 refine GL_g rfl rfl gvt (rv_neq vwg vw) ?_
 refine GL_v rfl (rv_and vw vwg) ?_
 refine GL_nil ?_
 refine GC_cond rfl (fun h0 => ?_) (fun h0 => ?_)
 ·
  have hd : dir ≠ 0 ∧ dir ≠ 1 := by have := h0; simpa using this
  rw [if_pos hd] at hpp
  obtain rfl := hpp
  refine GC_seq ?_
  refine GC_region ?_
  refine GL_v rfl (rv_bld (z' := [.int .u8 0, .int .u16 0, .int .u8 0, .int .u8 0, .int .u16 0, .int .u16 0, .int .u16 0, .int .u16 0, .int .u16 0, .int .u16 0, .int .u16 0, .int .u16 0, .int .u16 0, .int .u16 0, .slice none 0 0, .slice none 0 0, .slice none 0 0, .slice none 0 0, .int .u8 0, .int .u8 0, .int .u8 0, .int .u8 0, .int .u8 0, .slice none 0 0]) z44 l44 (fun _ => rfl)) ?_
  refine GL_stA rfl rfl c44 (by simp [Value.oneCell']) (by rfl) ?_
  refine GL_v rfl (rv_as (v := .int .i64 _) vw) ?_
  refine GL_nil ?_
  refine GC_shift .nil (msg0 {}) ?_
  refine GC_ret ?_
  exact finA (T' := [msgR { m := {} }]) (.inr rfl) rfl rfl rfl inferInstance a44 rfl .nil sb ⟨0, 0, { m := {} }, rfl, rfl, rfl, rfl⟩
 ·
  have hd : ¬ (dir ≠ 0 ∧ dir ≠ 1) := by have := h0; simpa using this
  rw [if_neg hd] at hpp
  refine GC_skip ?_
  refine GC_seq ?_
  refine GC_seq ?_
  refine GC_region ?_
  refine GL_v rfl (rv_mv (v := .int .i64 _) vw) ?_
  refine GL_v rfl (rv_lss vw vw) ?_
  refine GL_nil ?_
  refine GC_cond rfl (fun h1 => ?_) (fun h1 => ?_)
  ·
   have g : b.length < 8 := by have := h1; simp at this; omega
   rw [if_pos g] at hpp
   obtain rfl := hpp
   refine GC_seq ?_
   refine GC_region ?_
   refine GL_v rfl (rv_bld (z' := [.int .u8 0, .int .u16 0, .int .u8 0, .int .u8 0, .int .u16 0, .int .u16 0, .int .u16 0, .int .u16 0, .int .u16 0, .int .u16 0, .int .u16 0, .int .u16 0, .int .u16 0, .int .u16 0, .slice none 0 0, .slice none 0 0, .slice none 0 0, .slice none 0 0, .int .u8 0, .int .u8 0, .int .u8 0, .int .u8 0, .int .u8 0, .slice none 0 0]) z44 l44 (fun _ => rfl)) ?_
   refine GL_stA rfl rfl c44 (by simp [Value.oneCell']) (by rfl) ?_
   refine GL_v rfl (rv_as (v := .int .i64 _) vw) ?_
   refine GL_nil ?_
   refine GC_shift .nil (msg0 {}) ?_
   refine GC_ret ?_
   exact finA (T' := [msgR { m := {} }]) (.inr rfl) rfl rfl rfl inferInstance a44 rfl .nil sb ⟨0, 0, { m := {} }, rfl, rfl, rfl, rfl⟩
  ·
   have g : ¬ b.length < 8 := by have := h1; simp at this; omega
   rw [if_neg g] at hpp
   refine GC_skip ?_
   refine GC_seq ?_
   refine GC_seq ?_
   refine GC_region ?_
   refine GL_v rfl (rv_mv (v := .int .i64 _) vw) ?_
   refine GL_v rfl (rv_gtr vw vw) ?_
   refine GL_nil ?_
   refine GC_cond rfl (fun h2 => ?_) (fun h2 => ?_)
   ·
    have g2 : 260 < b.length := by have := h2; simp at this; omega
    rw [if_pos g2] at hpp
    obtain rfl := hpp
    refine GC_seq ?_
    refine GC_region ?_
    refine GL_v rfl (rv_bld (z' := [.int .u8 0, .int .u16 0, .int .u8 0, .int .u8 0, .int .u16 0, .int .u16 0, .int .u16 0, .int .u16 0, .int .u16 0, .int .u16 0, .int .u16 0, .int .u16 0, .int .u16 0, .int .u16 0, .slice none 0 0, .slice none 0 0, .slice none 0 0, .slice none 0 0, .int .u8 0, .int .u8 0, .int .u8 0, .int .u8 0, .int .u8 0, .slice none 0 0]) z44 l44 (fun _ => rfl)) ?_
    refine GL_stA rfl rfl c44 (by simp [Value.oneCell']) (by rfl) ?_
    refine GL_v rfl (rv_as (v := .int .i64 _) vw) ?_
    refine GL_nil ?_
    refine GC_shift .nil (msg0 {}) ?_
    refine GC_ret ?_
    exact finA (T' := [msgR { m := {} }]) (.inr rfl) rfl rfl rfl inferInstance a44 rfl .nil sb ⟨0, 0, { m := {} }, rfl, rfl, rfl, rfl⟩
   ·
    have g2 : ¬ 260 < b.length := by have := h2; simp at this; omega
    rw [if_neg g2] at hpp
    obtain ⟨b0, b1, b2, b3, b4, b5, b6, l, rfl⟩ := seven (l := b) (by omega)
    have t0 := two_toNat b0 b1
    have z0 := b0.toNat_lt; have z1 := b1.toNat_lt; have z2 := b2.toNat_lt; have z3 := b3.toNat_lt; have z4 := b4.toNat_lt; have z5 := b5.toNat_lt
    simp only [List.length_cons] at hl g g2
    simp only [at8, List.getD_cons_zero, List.getD_cons_succ, List.length_cons, List.drop_succ_cons, List.drop_zero] at hpp
    have hA : A ≠ none := hrow.2.2.2.2 (by omega) (by decide)
    refine GC_skip ?_
    refine GC_seq ?_
    refine GC_seq ?_
    refine GC_region ?_
    refine GL_v rfl (rv_mv (v := .slice _ _ _) vw) ?_
    refine GL_v rfl (rv_ix (i := 2) el22 vw vw (fun _ => rfl) (fun _ => by omega) (fun _ => hA)) ?_
    refine GL_v rfl (rv_ldE (v := b8 b2) Tryz.underlying5 rfl vw (fun _ => rfl)) ?_
    refine GL_v rfl (rv_neq vw vw) ?_
    refine GL_v rfl (rv_mv (v := .bool _) vw) ?_
    refine GL_g rfl rfl gvf (rv_mv (v := .slice _ _ _) vw) ?_
    refine GL_g rfl rfl gvf (rv_ix (i := 3) el22 vwg vw (fun _ => rfl) (fun _ => by omega) (fun _ => hA)) ?_
    refine GL_g rfl rfl gvf (rv_ldE (v := b8 b3) Tryz.underlying5 rfl vwg (fun _ => rfl)) ?_
    refine GL_g rfl rfl gvf (rv_neq vwg vw) ?_
    refine GL_v rfl (rv_or vw vwg) ?_
    refine GL_nil ?_
    refine GC_cond rfl (fun h3 => ?_) (fun h3 => ?_)
    ·
     have g3 : b2.toNat ≠ 0 ∨ b3.toNat ≠ 0 := by have := h3; simp at this; omega
     rw [if_pos g3] at hpp
     obtain rfl := hpp
     refine GC_seq ?_
     refine GC_region ?_
     refine GL_v rfl (rv_bld (z' := [.int .u8 0, .int .u16 0, .int .u8 0, .int .u8 0, .int .u16 0, .int .u16 0, .int .u16 0, .int .u16 0, .int .u16 0, .int .u16 0, .int .u16 0, .int .u16 0, .int .u16 0, .int .u16 0, .slice none 0 0, .slice none 0 0, .slice none 0 0, .slice none 0 0, .int .u8 0, .int .u8 0, .int .u8 0, .int .u8 0, .int .u8 0, .slice none 0 0]) z44 l44 (fun _ => rfl)) ?_
     refine GL_stA rfl rfl c44 (by simp [Value.oneCell']) (by rfl) ?_
     refine GL_v rfl (rv_as (v := .int .i64 _) vw) ?_
     refine GL_nil ?_
     refine GC_shift .nil (msg0 {}) ?_
     refine GC_ret ?_
     exact finA (T' := [msgR { m := {} }]) (.inr rfl) rfl rfl rfl inferInstance a44 rfl .nil sb ⟨0, 0, { m := {} }, rfl, rfl, rfl, rfl⟩
    ·
     have g3 : ¬ (b2.toNat ≠ 0 ∨ b3.toNat ≠ 0) := by have := h3; simp at this; omega
     rw [if_neg g3] at hpp
     refine GC_skip ?_
     refine GC_seq ?_
     refine GC_seq ?_
     refine GC_draw 13 ([row 1 A n k (bytesV (b0 :: b1 :: b2 :: b3 :: b4 :: b5 :: b6 :: l))]) mixed ?_
     refine GA_v (i := 0) rfl rfl rfl (by kernel_rfl) (rv_mv (v := .slice _ _ _) vw) ?_
     refine GA_v (i := 1) rfl rfl rfl (by kernel_rfl) (rv_ix (i := 4) el22 vw vw (fun _ => rfl) (fun _ => by omega) (fun _ => hA)) ?_
     refine GA_v (i := 2) rfl rfl rfl (by kernel_rfl) (rv_ldE (v := b8 b4) Tryz.underlying5 rfl vw (fun _ => rfl)) ?_
     refine GA_v (i := 3) rfl rfl rfl (by kernel_rfl) (rv_cnv (r := (b4.toNat : Int)) Tryz.underlying5 Tryz.underlying3 vw (fun _ => IntWalk.i64_in _ (by omega))) ?_
     refine GA_v (i := 4) rfl rfl rfl (by kernel_rfl) (rv_mul (r := 256 * (b4.toNat : Int)) vw vw (fun _ => IntWalk.i64_in _ (by omega))) ?_
     refine GA_v (i := 5) rfl rfl rfl (by kernel_rfl) (rv_mv (v := .slice _ _ _) vw) ?_
     refine GA_v (i := 6) rfl rfl rfl (by kernel_rfl) (rv_ix (i := 5) el22 vw vw (fun _ => rfl) (fun _ => by omega) (fun _ => hA)) ?_
     refine GA_v (i := 7) rfl rfl rfl (by kernel_rfl) (rv_ldE (v := b8 b5) Tryz.underlying5 rfl vw (fun _ => rfl)) ?_
     refine GA_v (i := 8) rfl rfl rfl (by kernel_rfl) (rv_cnv (r := (b5.toNat : Int)) Tryz.underlying5 Tryz.underlying3 vw (fun _ => IntWalk.i64_in _ (by omega))) ?_
     refine GA_v (i := 9) rfl rfl rfl (by kernel_rfl) (rv_add (r := 256 * (b4.toNat : Int) + (b5.toNat : Int)) vw vw (fun _ => IntWalk.i64_in _ (by omega))) ?_
     refine GA_v (i := 10) rfl rfl rfl (by kernel_rfl) (rv_mv (v := .int .i64 _) vw) ?_
     refine GA_v (i := 11) rfl rfl rfl (by kernel_rfl) (rv_sub (r := (n : Int) - 6) vw vw (fun _ => IntWalk.i64_in _ (by omega))) ?_
     refine GA_v (i := 12) rfl rfl rfl (by kernel_rfl) (rv_neq vw vw) ?_
     refine GA_nil (by kernel_rfl) ?_
     refine GC_cond rfl (fun h4 => ?_) (fun h4 => ?_)
     ·
      have g4 : 256 * b4.toNat + b5.toNat ≠ l.length + 1 + 1 + 1 + 1 + 1 + 1 + 1 - 6 := by have := h4; simp only [Bool.not_eq_true', decide_eq_false_iff_not] at this; omega
      rw [if_pos g4] at hpp
      obtain rfl := hpp
      refine GC_seq ?_
      refine GC_region ?_
      refine GL_v rfl (rv_bld (z' := [.int .u8 0, .int .u16 0, .int .u8 0, .int .u8 0, .int .u16 0, .int .u16 0, .int .u16 0, .int .u16 0, .int .u16 0, .int .u16 0, .int .u16 0, .int .u16 0, .int .u16 0, .int .u16 0, .slice none 0 0, .slice none 0 0, .slice none 0 0, .slice none 0 0, .int .u8 0, .int .u8 0, .int .u8 0, .int .u8 0, .int .u8 0, .slice none 0 0]) z44 l44 (fun _ => rfl)) ?_
      refine GL_stA rfl rfl c44 (by simp [Value.oneCell']) (by rfl) ?_
      refine GL_v rfl (rv_as (v := .int .i64 _) vw) ?_
      refine GL_nil ?_
      refine GC_shift .nil (msg0 {}) ?_
      refine GC_ret ?_
      exact finA (T' := [msgR { m := {} }]) (.inr rfl) rfl rfl rfl inferInstance a44 rfl .nil sb ⟨0, 0, { m := {} }, rfl, rfl, rfl, rfl⟩
     ·
      have g4 : ¬ 256 * b4.toNat + b5.toNat ≠ l.length + 1 + 1 + 1 + 1 + 1 + 1 + 1 - 6 := by have := h4; simp only [Bool.not_eq_false', decide_eq_true_eq] at this; omega
      rw [if_neg g4] at hpp
      have hnk := hrow.2.1
      refine GC_shift .nil (row_cut (l := 7) (h := n) (by simp : row 1 A n k (bytesV (b0 :: b1 :: b2 :: b3 :: b4 :: b5 :: b6 :: l)) ∈ _) (by omega) (Nat.le_refl _) (by decide)) ?_
      have e2 : ((bytesV (b0 :: b1 :: b2 :: b3 :: b4 :: b5 :: b6 :: l)).drop (7 * 1)).take ((n - 7) * 1) = bytesV l := by
       simp [bytesV]; rw [List.take_of_length_le (by simp; omega)]
      rw [e2]
      refine GC_skip ?_
      refine GC_seq ?_
      refine GC_region ?_
      refine GL_v rfl (rv_mv (v := .int .i64 _) vw) ?_
      refine GL_v rfl (rv_mv (v := .slice _ _ _) vw) ?_
      refine GL_v rfl (rv_slL (l := 7) el22 vw vw (fun _ => rfl) (fun _ => by omega)) ?_
      refine GL_call rfl cb16 (rP14_ct dir (cut A k 1 7) (n - 7) (k - 7) l (by omega)) rfl .nil sR ?_
      rintro _ _ _ ⟨x, rfl, hx, rfl, rfl⟩
      simp only [List.cons_append, List.nil_append]
      obtain ⟨m, e, hP⟩ : ∃ m e, P14 dir l = (m, e) := ⟨_, _, rfl⟩
      rw [hP] at hx hpp ⊢
      simp only at hx ⊢
      refine GL_v rfl (rv_mv (v := .tuple [.agg x.cells.toArray, .int .i64 e].toArray) vw) ?_
      refine GL_v rfl (rv_ext vw rfl) ?_
      refine GL_v rfl (rv_ext vw rfl) ?_
      refine GL_alloc rfl z30 (fun b7 => ?_)
      refine GL_stA (l' := x.cells) rfl rfl c30 (MsgX.cells_one _) (by rfl) ?_
      refine GL_v rfl (rv_as (v := .int .i64 _) vw) ?_
      refine GL_nil ?_
      refine GC_seq ?_
      refine GC_seq ?_
      refine GC_region ?_
      refine GL_v rfl (rv_mv (v := .int .i64 _) vw) ?_
      refine GL_v rfl (rv_neq vw vw) ?_
      refine GL_nil ?_
      refine GC_cond rfl (fun h5 => ?_) (fun h5 => ?_)
      ·
       have he : e ≠ 0 := by have := h5; simpa using this
       rw [framed_err he] at hpp
       obtain rfl := hpp
       refine GC_seq ?_
       refine GC_region ?_
       refine GL_v rfl (rv_bld (z' := [.int .u8 0, .int .u16 0, .int .u8 0, .int .u8 0, .int .u16 0, .int .u16 0, .int .u16 0, .int .u16 0, .int .u16 0, .int .u16 0, .int .u16 0, .int .u16 0, .int .u16 0, .int .u16 0, .slice none 0 0, .slice none 0 0, .slice none 0 0, .slice none 0 0, .int .u8 0, .int .u8 0, .int .u8 0, .int .u8 0, .int .u8 0, .slice none 0 0]) z44 l44 (fun _ => rfl)) ?_
       refine GL_v rfl (rv_mv (v := .int .i64 _) vw) ?_
       refine GL_stA rfl rfl c44 (by simp [Value.oneCell']) (by rfl) ?_
       refine GL_v rfl (rv_as (v := .int .i64 _) vw) ?_
       refine GL_nil ?_
       refine GC_shift .nil (msg0 {}) ?_
       refine GC_ret ?_
       exact finA (T' := [msgR { m := {} }]) (.inr rfl) rfl rfl rfl inferInstance a44 rfl .nil sb ⟨0, 0, { m := {} }, rfl, rfl, rfl, rfl⟩
      ·
       have he : e = 0 := by have := h5; simpa using this
       rw [framed_ok he] at hpp
       obtain rfl := hpp
       refine GC_skip ?_
       refine GC_seq ?_
       refine GC_draw 18 ([row 1 A n k (bytesV (b0 :: b1 :: b2 :: b3 :: b4 :: b5 :: b6 :: l)), blk b7 x.cells 30]) mixed ?_
       refine GA_v (i := 0) rfl rfl rfl (by kernel_rfl) (rv_mv (v := .slice _ _ _) vw) ?_
       refine GA_v (i := 1) rfl rfl rfl (by kernel_rfl) (rv_ix (i := 6) el22 vw vw (fun _ => rfl) (fun _ => by omega) (fun _ => hA)) ?_
       refine GA_v (i := 2) rfl rfl rfl (by kernel_rfl) (rv_ldE (v := b8 b6) Tryz.underlying5 rfl vw (fun _ => rfl)) ?_
       refine GA_v (i := 3) rfl rfl rfl (by kernel_rfl) (rv_mv (v := .slice _ _ _) vw) ?_
       refine GA_v (i := 4) rfl rfl rfl (by kernel_rfl) (rv_ix (i := 0) el22 vw vw (fun _ => rfl) (fun _ => by omega) (fun _ => hA)) ?_
       refine GA_v (i := 5) rfl rfl rfl (by kernel_rfl) (rv_ldE (v := b8 b0) Tryz.underlying5 rfl vw (fun _ => rfl)) ?_
       refine GA_v (i := 6) rfl rfl rfl (by kernel_rfl) (rv_cnv (r := (b0.toNat : Int)) Tryz.underlying5 Tryz.underlying24 vw (fun _ => IntWalk.u16_in _ (by omega))) ?_
       refine GA_v (i := 7) rfl rfl rfl (by kernel_rfl) (rv_mul (r := 256 * (b0.toNat : Int)) vw vw (fun _ => IntWalk.u16_in _ (by omega))) ?_
       refine GA_v (i := 8) rfl rfl rfl (by kernel_rfl) (rv_mv (v := .slice _ _ _) vw) ?_
       refine GA_v (i := 9) rfl rfl rfl (by kernel_rfl) (rv_ix (i := 1) el22 vw vw (fun _ => rfl) (fun _ => by omega) (fun _ => hA)) ?_
       refine GA_v (i := 10) rfl rfl rfl (by kernel_rfl) (rv_ldE (v := b8 b1) Tryz.underlying5 rfl vw (fun _ => rfl)) ?_
       refine GA_v (i := 11) rfl rfl rfl (by kernel_rfl) (rv_cnv (r := (b1.toNat : Int)) Tryz.underlying5 Tryz.underlying24 vw (fun _ => IntWalk.u16_in _ (by omega))) ?_
       refine GA_v (i := 12) rfl rfl rfl (by kernel_rfl) (rv_add (r := ((UInt16.ofNat (256 * b0.toNat + b1.toNat)).toNat : Int)) vw vw (fun _ => by rw [t0, IntWalk.u16_in _ (by omega)]; omega)) ?_
       refine GA_v (i := 13) rfl rfl rfl (by kernel_rfl) (rv_bld (z' := [b8 b6, w16 (UInt16.ofNat (256 * b0.toNat + b1.toNat))]) z42 l42 (fun _ => rfl)) ?_
       refine GA_v (i := 14) rfl rfl rfl (by kernel_rfl) (rv_ldA (l := x.cells) a30 vw rfl) ?_
       refine GA_v (i := 15) rfl rfl rfl (by kernel_rfl) (rv_bld (z' := frCells b6 (UInt16.ofNat (256 * b0.toNat + b1.toNat)) x) z44 l44 (fun _ => frame_fill rfl rfl rfl)) ?_
       refine GA_one 16 rfl rfl (by kernel_rfl) ?_
       refine GL_stA (l' := frCells b6 (UInt16.ofNat (256 * b0.toNat + b1.toNat)) x) rfl rfl c44 (frCells_one _ _ _) (by rfl) ?_
       refine GL_nil ⟨inferInstance, ?_⟩
       refine GA_v (i := 17) rfl rfl rfl (by kernel_rfl) (rv_as (v := .int .i64 _) vw) ?_
       refine GA_nil (by kernel_rfl) ?_
       refine GC_ret ?_
       exact finA (T' := [msgR x]) (.inr rfl) rfl rfl rfl inferInstance a44 rfl .nil sb ⟨b6, _, x, rfl, by rw [hx], rfl, rfl⟩
end Go.Bus
