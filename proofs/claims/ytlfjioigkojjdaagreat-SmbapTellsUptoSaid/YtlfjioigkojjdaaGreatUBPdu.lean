/- Part of the proof: Pdu. No condition. -/
import Derived.Test.YtlfjioigkojjdaaGreatUBFileP
import Derived.Test.YtlfjioigkojjdaaGreatUBRef
set_option linter.unusedVariables false
set_option linter.unusedSimpArgs false
set_option maxRecDepth 100000
set_option maxHeartbeats 4000000
namespace Go.Bus
open Go Go.Proofs
theorem look_mem {n : Int} {v : Value} : ∀ {l : List (Int × Value)}, look n l = some v → (n, v) ∈ l
 | [], h => by cases h
 | (m, u) :: l, h => by
  simp only [look] at h
  by_cases e : n = m
  · rw [if_pos e] at h; cases h; subst e; exact List.mem_cons_self ..
  · rw [if_neg e] at h; exact List.mem_cons_of_mem _ (look_mem h)
theorem look_none {n : Int} : ∀ {l : List (Int × Value)}, look n l = none → ∀ p ∈ l, n ≠ p.1
 | [], _, p, hp => absurd hp (by simp)
 | (m, u) :: l, h, p, hp => by
  simp only [look] at h
  by_cases e : n = m
  · rw [if_pos e] at h; cases h
  · rw [if_neg e] at h
    rcases List.mem_cons.1 hp with rfl | hp
    · exact e
    · exact look_none h p hp
def cdv (f g : FuncId) : Value := .agg [.func (.func f) [].toArray [].toArray, .func (.func g) [].toArray [].toArray].toArray
def CodecV (c : UInt8) (v : Value) : Prop := ∃ Pp Ww f g, codecS c = some (Pp, Ww) ∧ v = cdv f g ∧ Cb PG f ∧ Cb PG g ∧ (∀ dir A n k l, n ≤ 35184372088832 → Ct PG f [.int .i64 dir, b8 c, .slice A n k] [] [row 1 A n k (bytesV l)] (MsgOut (Pp dir c l))) ∧ ∀ dir (x : MsgX), x.m.few → Ct PG g [.int .i64 dir, .agg x.cells.toArray] [] [msgR x] (BytesOut (Ww dir x.m))
theorem codec_c {c : UInt8} (h : codecS c = some (P08, W08)) : CodecV c (cdv 98 99) := ⟨_, _, _, _, h, rfl, cb98, cb99, fun dir A n k l hn => P08_ct dir c A n k l hn, fun dir x hf => W08_ct dir x hf⟩
theorem codec_r {c : UInt8} (h : codecS c = some (P09, W09)) : CodecV c (cdv 100 101) := ⟨_, _, _, _, h, rfl, cb100, cb101, fun dir A n k l hn => P09_ct dir c A n k l hn, fun dir x hf => W09_ct dir x hf⟩
theorem codec_d {c : UInt8} (h : codecS c = some (P10, W10)) : CodecV c (cdv 102 103) := ⟨_, _, _, _, h, rfl, cb102, cb103, fun dir A n k l hn => P10_ct dir c A n k l hn, fun dir x hf => W10_ct dir x hf⟩
theorem codec_f {c : UInt8} (h : codecS c = some (P11, W11)) : CodecV c (cdv 104 105) := ⟨_, _, _, _, h, rfl, cb104, cb105, fun dir A n k l hn => P11_ct dir c A n k l hn, fun dir x hf => W11_ct dir x hf⟩
theorem codec_m {c : UInt8} (h : codecS c = some (P12, W12)) : CodecV c (cdv 106 107) := ⟨_, _, _, _, h, rfl, cb106, cb107, fun dir A n k l hn => P12_ct dir c A n k l hn, fun dir x hf => W12_ct dir x hf⟩
def pduMap : List (Int × Value) := [(1, cdv 98 99), (2, cdv 98 99), (5, cdv 98 99), (15, cdv 98 99), (3, cdv 100 101), (4, cdv 100 101), (6, cdv 100 101), (16, cdv 100 101), (22, cdv 100 101), (23, cdv 100 101), (24, cdv 100 101), (7, cdv 102 103), (8, cdv 102 103), (11, cdv 102 103), (12, cdv 102 103), (17, cdv 102 103), (20, cdv 104 105), (21, cdv 104 105), (43, cdv 106 107)]
theorem pdu_cases (c : UInt8) : ∃ fp fw b, lookD c.toNat pduMap (.agg [.nilFunc, .nilFunc].toArray) = .agg [fp, fw].toArray ∧ lookB c.toNat pduMap = b ∧ fp.oneCell' = true ∧ fw.oneCell' = true ∧ (b = false → codecS c = none) ∧ (b = true → CodecV c (.agg [fp, fw].toArray)) := by
 cases h : look c.toNat pduMap with
 | none =>
  refine ⟨.nilFunc, .nilFunc, false, by unfold lookD; rw [h], by unfold lookB; rw [h], rfl, rfl, fun _ => ?_, (fun h => by cases h)⟩
  have hn := look_none h
  simp only [pduMap, List.mem_cons, List.not_mem_nil, or_false, forall_eq_or_imp, forall_eq] at hn
  unfold codecS
  obtain ⟨q0, q1, q2, q3, q4, q5, q6, q7, q8, q9, q10, q11, q12, q13, q14, q15, q16, q17, q18⟩ := hn
  rw [if_neg (by omega), if_neg (by omega), if_neg (by omega), if_neg (by omega), if_neg (by omega)]
 | some v =>
  have hv : CodecV c v := by
   have hm := look_mem h
   simp only [pduMap, List.mem_cons, List.not_mem_nil, or_false, Prod.mk.injEq] at hm
   rcases hm with ⟨hk, rfl⟩ | ⟨hk, rfl⟩ | ⟨hk, rfl⟩ | ⟨hk, rfl⟩ | ⟨hk, rfl⟩ | ⟨hk, rfl⟩ | ⟨hk, rfl⟩ | ⟨hk, rfl⟩ | ⟨hk, rfl⟩ | ⟨hk, rfl⟩ | ⟨hk, rfl⟩ | ⟨hk, rfl⟩ | ⟨hk, rfl⟩ | ⟨hk, rfl⟩ | ⟨hk, rfl⟩ | ⟨hk, rfl⟩ | ⟨hk, rfl⟩ | ⟨hk, rfl⟩ | ⟨hk, rfl⟩
   · exact codec_c (by unfold codecS; simp [show c.toNat = 1 by omega])
   · exact codec_c (by unfold codecS; simp [show c.toNat = 2 by omega])
   · exact codec_c (by unfold codecS; simp [show c.toNat = 5 by omega])
   · exact codec_c (by unfold codecS; simp [show c.toNat = 15 by omega])
   · exact codec_r (by unfold codecS; simp [show c.toNat = 3 by omega])
   · exact codec_r (by unfold codecS; simp [show c.toNat = 4 by omega])
   · exact codec_r (by unfold codecS; simp [show c.toNat = 6 by omega])
   · exact codec_r (by unfold codecS; simp [show c.toNat = 16 by omega])
   · exact codec_r (by unfold codecS; simp [show c.toNat = 22 by omega])
   · exact codec_r (by unfold codecS; simp [show c.toNat = 23 by omega])
   · exact codec_r (by unfold codecS; simp [show c.toNat = 24 by omega])
   · exact codec_d (by unfold codecS; simp [show c.toNat = 7 by omega])
   · exact codec_d (by unfold codecS; simp [show c.toNat = 8 by omega])
   · exact codec_d (by unfold codecS; simp [show c.toNat = 11 by omega])
   · exact codec_d (by unfold codecS; simp [show c.toNat = 12 by omega])
   · exact codec_d (by unfold codecS; simp [show c.toNat = 17 by omega])
   · exact codec_f (by unfold codecS; simp [show c.toNat = 20 by omega])
   · exact codec_f (by unfold codecS; simp [show c.toNat = 21 by omega])
   · exact codec_m (by unfold codecS; simp [show c.toNat = 43 by omega])
  obtain ⟨Pp, Ww, f, g, h1, rfl, h2⟩ := hv
  exact ⟨_, _, true, by unfold lookD; rw [h]; rfl, by unfold lookB; rw [h], rfl, rfl, (fun h => by cases h), fun _ => ⟨Pp, Ww, f, g, h1, rfl, h2⟩⟩
theorem of14_ct (c : UInt8) : Ct PG 56 [b8 c] [] [] (fun v S' T' => S' = [] ∧ T' = [] ∧ ∃ fp fw b, v = .tuple #[.agg [fp, fw].toArray, .bool b] ∧ fp.oneCell' = true ∧ fw.oneCell' = true ∧ (b = false → codecS c = none) ∧ (b = true → CodecV c (.agg [fp, fw].toArray))) := by
 refine Ct_of Tryz.func56 rfl 44 rfl (Nat.le_of_ble_eq_true rfl) fun w0 M N => ?_
 refine GC_seq ?_
 refine GC_region ?_
 refine GL_alloc rfl z70 (fun b2 => ?_)
 refine GL_v rfl (rv_as (v := .bool _) vw) ?_
 refine GL_nil ?_
 refine GC_seq ?_
 refine GC_region ?_
 refine GL_v rfl (rv_bld (z' := [.func (.func 98) [].toArray [].toArray, .func (.func 99) [].toArray [].toArray]) z70 l70 (fun _ => rfl)) ?_
 refine GL_v rfl (rv_bld (z' := [.func (.func 100) [].toArray [].toArray, .func (.func 101) [].toArray [].toArray]) z70 l70 (fun _ => rfl)) ?_
 refine GL_alloc rfl z70 (fun b4 => ?_)
 refine GL_alloc rfl z70 (fun b5 => ?_)
 refine GL_stA (l' := [.func (.func 98) [].toArray [].toArray, .func (.func 99) [].toArray [].toArray]) rfl rfl c70 (by simp [Value.oneCell']) (by rfl) ?_
 refine GL_stA (l' := [.func (.func 100) [].toArray [].toArray, .func (.func 101) [].toArray [].toArray]) rfl rfl c70 (by simp [Value.oneCell']) (by rfl) ?_
 refine GL_nil ?_
 refine GC_seq ?_
 refine GC_region ?_
 refine GL_v rfl (rv_bld (z' := [.func (.func 102) [].toArray [].toArray, .func (.func 103) [].toArray [].toArray]) z70 l70 (fun _ => rfl)) ?_
 refine GL_v rfl (rv_bld (z' := [.func (.func 104) [].toArray [].toArray, .func (.func 105) [].toArray [].toArray]) z70 l70 (fun _ => rfl)) ?_
 refine GL_alloc rfl z70 (fun b6 => ?_)
 refine GL_alloc rfl z70 (fun b7 => ?_)
 refine GL_stA (l' := [.func (.func 102) [].toArray [].toArray, .func (.func 103) [].toArray [].toArray]) rfl rfl c70 (by simp [Value.oneCell']) (by rfl) ?_
 refine GL_stA (l' := [.func (.func 104) [].toArray [].toArray, .func (.func 105) [].toArray [].toArray]) rfl rfl c70 (by simp [Value.oneCell']) (by rfl) ?_
 refine GL_nil ?_
 refine GC_seq ?_
 refine GC_region ?_
 refine GL_mkMap .u8 rfl (fun Bm => ?_)
 refine GL_v rfl (rv_ldA a70 vw rfl) ?_
 refine GL_ins (dk := .u8) (v := cdv 98 99) Tryz.underlying110 Tryz.underlying5 rfl rfl rfl rfl ?_
 refine GL_v rfl (rv_ldA a70 vw rfl) ?_
 refine GL_ins (dk := .u8) (v := cdv 98 99) Tryz.underlying110 Tryz.underlying5 rfl rfl rfl rfl ?_
 refine GL_v rfl (rv_ldA a70 vw rfl) ?_
 refine GL_ins (dk := .u8) (v := cdv 98 99) Tryz.underlying110 Tryz.underlying5 rfl rfl rfl rfl ?_
 refine GL_v rfl (rv_ldA a70 vw rfl) ?_
 refine GL_ins (dk := .u8) (v := cdv 98 99) Tryz.underlying110 Tryz.underlying5 rfl rfl rfl rfl ?_
 refine GL_v rfl (rv_ldA a70 vw rfl) ?_
 refine GL_ins (dk := .u8) (v := cdv 100 101) Tryz.underlying110 Tryz.underlying5 rfl rfl rfl rfl ?_
 refine GL_v rfl (rv_ldA a70 vw rfl) ?_
 refine GL_ins (dk := .u8) (v := cdv 100 101) Tryz.underlying110 Tryz.underlying5 rfl rfl rfl rfl ?_
 refine GL_v rfl (rv_ldA a70 vw rfl) ?_
 refine GL_ins (dk := .u8) (v := cdv 100 101) Tryz.underlying110 Tryz.underlying5 rfl rfl rfl rfl ?_
 refine GL_v rfl (rv_ldA a70 vw rfl) ?_
 refine GL_ins (dk := .u8) (v := cdv 100 101) Tryz.underlying110 Tryz.underlying5 rfl rfl rfl rfl ?_
 refine GL_v rfl (rv_ldA a70 vw rfl) ?_
 refine GL_ins (dk := .u8) (v := cdv 100 101) Tryz.underlying110 Tryz.underlying5 rfl rfl rfl rfl ?_
 refine GL_v rfl (rv_ldA a70 vw rfl) ?_
 refine GL_ins (dk := .u8) (v := cdv 100 101) Tryz.underlying110 Tryz.underlying5 rfl rfl rfl rfl ?_
 refine GL_v rfl (rv_ldA a70 vw rfl) ?_
 refine GL_ins (dk := .u8) (v := cdv 100 101) Tryz.underlying110 Tryz.underlying5 rfl rfl rfl rfl ?_
 refine GL_v rfl (rv_ldA a70 vw rfl) ?_
 refine GL_ins (dk := .u8) (v := cdv 102 103) Tryz.underlying110 Tryz.underlying5 rfl rfl rfl rfl ?_
 refine GL_v rfl (rv_ldA a70 vw rfl) ?_
 refine GL_ins (dk := .u8) (v := cdv 102 103) Tryz.underlying110 Tryz.underlying5 rfl rfl rfl rfl ?_
 refine GL_v rfl (rv_ldA a70 vw rfl) ?_
 refine GL_ins (dk := .u8) (v := cdv 102 103) Tryz.underlying110 Tryz.underlying5 rfl rfl rfl rfl ?_
 refine GL_v rfl (rv_ldA a70 vw rfl) ?_
 refine GL_ins (dk := .u8) (v := cdv 102 103) Tryz.underlying110 Tryz.underlying5 rfl rfl rfl rfl ?_
 refine GL_v rfl (rv_ldA a70 vw rfl) ?_
 refine GL_ins (dk := .u8) (v := cdv 102 103) Tryz.underlying110 Tryz.underlying5 rfl rfl rfl rfl ?_
 refine GL_v rfl (rv_ldA a70 vw rfl) ?_
 refine GL_ins (dk := .u8) (v := cdv 104 105) Tryz.underlying110 Tryz.underlying5 rfl rfl rfl rfl ?_
 refine GL_v rfl (rv_ldA a70 vw rfl) ?_
 refine GL_ins (dk := .u8) (v := cdv 104 105) Tryz.underlying110 Tryz.underlying5 rfl rfl rfl rfl ?_
 refine GL_v rfl (rv_bld (z' := [.func (.func 106) [].toArray [].toArray, .func (.func 107) [].toArray [].toArray]) z70 l70 (fun _ => rfl)) ?_
 refine GL_ins (dk := .u8) (v := cdv 106 107) Tryz.underlying110 Tryz.underlying5 rfl rfl rfl rfl ?_
 refine GL_v rfl (rv_mv (v := .map _) vw) ?_
 refine GL_v rfl (rv_as (v := .map _) vw) ?_
 refine GL_nil ?_
 have hcc := pdu_cases c
 obtain ⟨fp, fw, bb, hl1, hl2, ho1, ho2, hno, hyes⟩ := hcc
 refine GC_seq ?_
 refine GC_region ?_
 refine GL_v rfl (rv_mv (v := .map _) vw) ?_
 refine GL_v rfl (rv_mv (v := b8 c) vw) ?_
 refine GL_v rfl (rv_lookOk (dk := .u8) (z := .agg [.nilFunc, .nilFunc].toArray) (v := .agg [fp, fw].toArray) (b := bb) Tryz.underlying110 Tryz.underlying5 (fun _ => by kernel_rfl) vw vw hl1 hl2) ?_
 refine GL_v rfl (rv_mv (v := .tuple [.agg [fp, fw].toArray, .bool bb].toArray) vw) ?_
 refine GL_v rfl (rv_ext vw rfl) ?_
 refine GL_v rfl (rv_ext vw rfl) ?_
 refine GL_alloc rfl z70 (fun b9 => ?_)
 refine GL_stA (l' := [fp, fw]) rfl rfl c70 (by intro u hu; simp at hu; rcases hu with rfl | rfl; exact ho1; exact ho2) (by rfl) ?_
 refine GL_v rfl (rv_as (v := .bool _) vw) ?_
 refine GL_nil ?_
 refine GC_seq ?_
 refine GC_region ?_
 refine GL_v rfl (rv_ldA a70 vw rfl) ?_
 refine GL_v rfl (rv_mv (v := .bool _) vw) ?_
 refine GL_stA (l' := [fp, fw]) rfl rfl c70 (by intro u hu; simp at hu; rcases hu with rfl | rfl; exact ho1; exact ho2) (by rfl) ?_
 refine GL_v rfl (rv_as (v := .bool _) vw) ?_
 refine GL_nil ?_
 refine GC_ret ?_
 exact finA (.inr rfl) rfl rfl rfl inferInstance a70 rfl .nil .nil ⟨rfl, rfl, fp, fw, bb, rfl, ho1, ho2, hno, hyes⟩
theorem P14_ct (dir : Int) (A : Option Addr) (n k : Nat) (b : List UInt8) (hn : n ≤ 35184372088832) : Ct PG 15 [.int .i64 dir, .slice A n k] [] [row 1 A n k (bytesV b)] (MsgOut (P14 dir b)) := by
 refine Ct_of Tryz.func15 rfl 60 rfl (Nat.le_of_ble_eq_true rfl) fun w0 M N => ?_
 refine GC_row A fun hrow => ?_
 have hl : b.length = n := by have := hrow.1; simpa [bytesV] using this
 obtain ⟨p, hp⟩ : ∃ p, P14 dir b = p := ⟨_, rfl⟩
 rw [hp]
 refine GC_seq ?_
 refine GC_region ?_
 refine GL_alloc rfl z30 (fun b4 => ?_)
 refine GL_v rfl (rv_as (v := .int .i64 _) vw) ?_
 refine GL_nil ?_
 refine GC_seq ?_
 refine GC_block ?_
 refine GC_seq ?_
 refine GC_region ?_
 refine GL_v rfl (rv_mv (v := .int .i64 _) vw) ?_
 refine GL_v rfl (rv_neq vw vw) ?_
 refine GL_v rfl (rv_mv (v := .bool _) vw) ?_
 refine GL_g rfl rfl gvt (rv_mv (v := .int .i64 _) vw) ?_
 refine GL_g rfl rfl gvt (rv_neq vwg vw) ?_
 refine GL_v rfl (rv_and vw vwg) ?_
 refine GL_v rfl (rv_as (v := .bool _) vw) ?_
 refine GL_nil ?_
 refine GC_cond rfl (fun h0 => ?_) (fun h0 => ?_)
 ·
  have hd : dir ≠ 0 ∧ dir ≠ 1 := by have := h0; simpa using this
  have he : P14 dir b = ({}, 1) := if_pos hd
  obtain rfl := hp.symm.trans he
  refine GC_seq ?_
  refine GC_region ?_
  refine GL_v rfl (rv_bld (z' := [.int .u8 0, .int .u8 0, .int .u16 0, .int .u16 0, .int .u16 0, .int .u16 0, .int .u16 0, .int .u16 0, .int .u16 0, .int .u16 0, .int .u16 0, .int .u16 0, .slice none 0 0, .slice none 0 0, .slice none 0 0, .slice none 0 0, .int .u8 0, .int .u8 0, .int .u8 0, .int .u8 0, .int .u8 0, .slice none 0 0]) z30 l30 (fun _ => rfl)) ?_
  refine GL_stA rfl rfl c30 (by simp [Value.oneCell']) (by rfl) ?_
  refine GL_v rfl (rv_as (v := .int .i64 _) vw) ?_
  refine GL_nil ?_
  refine GC_shift .nil (msg0 {}) ?_
  refine GC_ret ?_
  exact finA (T' := [msgR { m := {} }]) (.inr rfl) rfl rfl rfl inferInstance a30 rfl .nil sb ⟨{ m := {} }, rfl, rfl, rfl, rfl⟩
 ·
  have hd : ¬ (dir ≠ 0 ∧ dir ≠ 1) := by have := h0; simpa using this
  simp only [P14, if_neg hd] at hp
  refine GC_seq ?_
  refine GC_region ?_
  refine GL_v rfl (rv_mv (v := .slice _ _ _) vw) ?_
  refine GL_v rfl (rv_len el22 vw) ?_
  refine GL_v rfl (rv_eql vw vw) ?_
  refine GL_v rfl (rv_as (v := .bool _) vw) ?_
  refine GL_nil ?_
  refine GC_cond rfl (fun h1 => ?_) (fun h1 => ?_)
  ·
   obtain rfl : b = [] := List.eq_nil_of_length_eq_zero (by have := h1; simp at this; omega)
   obtain rfl := hp
   refine GC_seq ?_
   refine GC_region ?_
   refine GL_v rfl (rv_bld (z' := [.int .u8 0, .int .u8 0, .int .u16 0, .int .u16 0, .int .u16 0, .int .u16 0, .int .u16 0, .int .u16 0, .int .u16 0, .int .u16 0, .int .u16 0, .int .u16 0, .slice none 0 0, .slice none 0 0, .slice none 0 0, .slice none 0 0, .int .u8 0, .int .u8 0, .int .u8 0, .int .u8 0, .int .u8 0, .slice none 0 0]) z30 l30 (fun _ => rfl)) ?_
   refine GL_stA rfl rfl c30 (by simp [Value.oneCell']) (by rfl) ?_
   refine GL_v rfl (rv_as (v := .int .i64 _) vw) ?_
   refine GL_nil ?_
   refine GC_shift .nil (msg0 {}) ?_
   refine GC_ret ?_
   exact finA (T' := [msgR { m := {} }]) (.inr rfl) rfl rfl rfl inferInstance a30 rfl .nil sb ⟨{ m := {} }, rfl, rfl, rfl, rfl⟩
  ·
   obtain ⟨a, l, rfl⟩ : ∃ a l, b = a :: l := by
    cases b with
    | nil => have := h1; simp at this hl; omega
    | cons a l => exact ⟨a, l, rfl⟩
   have hA : A ≠ none := hrow.2.2.2.2 (by simp at hl; omega) (by decide)
   have ha := a.toNat_lt
   simp only at hp
   refine GC_seq ?_
   refine GC_region ?_
   refine GL_v rfl (rv_mv (v := .slice _ _ _) vw) ?_
   refine GL_v rfl (rv_len el22 vw) ?_
   refine GL_v rfl (rv_gtr vw vw) ?_
   refine GL_v rfl (rv_as (v := .bool _) vw) ?_
   refine GL_nil ?_
   refine GC_cond rfl (fun h2 => ?_) (fun h2 => ?_)
   ·
    have hlen : 253 < (a :: l).length := by have := h2; simp at this; omega
    rw [if_pos hlen] at hp
    obtain rfl := hp
    refine GC_seq ?_
    refine GC_region ?_
    refine GL_v rfl (rv_bld (z' := [.int .u8 0, .int .u8 0, .int .u16 0, .int .u16 0, .int .u16 0, .int .u16 0, .int .u16 0, .int .u16 0, .int .u16 0, .int .u16 0, .int .u16 0, .int .u16 0, .slice none 0 0, .slice none 0 0, .slice none 0 0, .slice none 0 0, .int .u8 0, .int .u8 0, .int .u8 0, .int .u8 0, .int .u8 0, .slice none 0 0]) z30 l30 (fun _ => rfl)) ?_
    refine GL_stA rfl rfl c30 (by simp [Value.oneCell']) (by rfl) ?_
    refine GL_v rfl (rv_as (v := .int .i64 _) vw) ?_
    refine GL_nil ?_
    refine GC_shift .nil (msg0 {}) ?_
    refine GC_ret ?_
    exact finA (T' := [msgR { m := {} }]) (.inr rfl) rfl rfl rfl inferInstance a30 rfl .nil sb ⟨{ m := {} }, rfl, rfl, rfl, rfl⟩
   ·
    have hlen : ¬ 253 < (a :: l).length := by have := h2; simp at this; omega
    rw [if_neg hlen] at hp
    refine GC_seq ?_
    refine GC_region ?_
    refine GL_v rfl (rv_mv (v := .slice _ _ _) vw) ?_
    refine GL_v rfl (rv_ix (i := 0) el22 vw vw (fun _ => rfl) (fun _ => by simp at hl; omega) (fun _ => hA)) ?_
    refine GL_v rfl (rv_ldE (v := b8 a) Tryz.underlying5 rfl vw (fun _ => rfl)) ?_
    refine GL_v rfl (rv_geq vw vw) ?_
    refine GL_v rfl (rv_mv (v := .bool _) vw) ?_
    refine GL_g rfl rfl gvt (rv_mv (v := .int .i64 _) vw) ?_
    refine GL_g rfl rfl gvt (rv_eql vwg vw) ?_
    refine GL_v rfl (rv_and vw vwg) ?_
    refine GL_v rfl (rv_as (v := .bool _) vw) ?_
    refine GL_nil ?_
    refine GC_cond rfl (fun h3 => ?_) (fun h3 => ?_)
    ·
     have hc : 128 ≤ a.toNat ∧ dir = 1 := by have := h3; simp at this; omega
     rw [if_pos hc] at hp
     refine GC_seq ?_
     refine GC_region ?_
     refine GL_v rfl (rv_mv (v := .slice _ _ _) vw) ?_
     refine GL_call rfl cb55 (P13_ct A n k (a :: l)) rfl .nil sR ?_
     rintro _ _ _ ⟨x, rfl, hx, rfl, rfl⟩
     simp only [List.cons_append, List.nil_append]
     rw [hp] at hx ⊢
     refine GL_v rfl (rv_ext vw rfl) ?_
     refine GL_v rfl (rv_ext vw rfl) ?_
     refine GL_stA (l' := x.cells) rfl rfl c30 (MsgX.cells_one _) (by rfl) ?_
     refine GL_v rfl (rv_as (v := .int .i64 _) vw) ?_
     refine GL_nil ?_
     refine GC_ret ?_
     exact finA (T' := [msgR x]) (.inr rfl) rfl rfl rfl inferInstance a30 rfl .nil sb ⟨x, rfl, hx, rfl, rfl⟩
    ·
     have hc : ¬ (128 ≤ a.toNat ∧ dir = 1) := by have := h3; simp at this; omega
     rw [if_neg hc] at hp
     refine GC_skip ?_
     refine GC_seq ?_
     refine GC_region ?_
     refine GL_v rfl (rv_mv (v := .slice _ _ _) vw) ?_
     refine GL_v rfl (rv_ix (i := 0) el22 vw vw (fun _ => rfl) (fun _ => by simp at hl; omega) (fun _ => hA)) ?_
     refine GL_v rfl (rv_ldE (v := b8 a) Tryz.underlying5 rfl vw (fun _ => rfl)) ?_
     refine GL_call rfl cb56 (of14_ct a) rfl .nil .nil ?_
     rintro _ _ _ ⟨rfl, rfl, fp, fw, bb, rfl, ho1, ho2, hno, hyes⟩
     simp only [List.cons_append, List.nil_append]
     refine GL_v rfl (rv_mv (v := .tuple [.agg [fp, fw].toArray, .bool bb].toArray) vw) ?_
     refine GL_v rfl (rv_ext vw rfl) ?_
     refine GL_v rfl (rv_ext vw rfl) ?_
     refine GL_alloc rfl z70 (fun b6 => ?_)
     refine GL_stA (l' := [fp, fw]) rfl rfl c70 (by intro u hu; simp at hu; rcases hu with rfl | rfl; exact ho1; exact ho2) (by rfl) ?_
     refine GL_v rfl (rv_as (v := .bool _) vw) ?_
     refine GL_nil ?_
     refine GC_seq ?_
     refine GC_seq ?_
     refine GC_region ?_
     refine GL_v rfl (rv_mv (v := .bool _) vw) ?_
     refine GL_v rfl (rv_not vw) ?_
     refine GL_nil ?_
     refine GC_cond rfl (fun h4 => ?_) (fun h4 => ?_)
     ·
      have hb : bb = false := by have := h4; simpa using this
      rw [hno hb] at hp
      obtain rfl := hp
      refine GC_seq ?_
      refine GC_region ?_
      refine GL_v rfl (rv_bld (z' := [.int .u8 0, .int .u8 0, .int .u16 0, .int .u16 0, .int .u16 0, .int .u16 0, .int .u16 0, .int .u16 0, .int .u16 0, .int .u16 0, .int .u16 0, .int .u16 0, .slice none 0 0, .slice none 0 0, .slice none 0 0, .slice none 0 0, .int .u8 0, .int .u8 0, .int .u8 0, .int .u8 0, .int .u8 0, .slice none 0 0]) z30 l30 (fun _ => rfl)) ?_
      refine GL_stA rfl rfl c30 (by simp [Value.oneCell']) (by rfl) ?_
      refine GL_v rfl (rv_as (v := .int .i64 _) vw) ?_
      refine GL_nil ?_
      refine GC_shift .nil (msg0 {}) ?_
      refine GC_ret ?_
      exact finA (T' := [msgR { m := {} }]) (.inr rfl) rfl rfl rfl inferInstance a30 rfl .nil sb ⟨{ m := {} }, rfl, rfl, rfl, rfl⟩
     ·
      have hb : bb = true := by have := h4; simpa using this
      obtain ⟨Pp, Ww, f, g, hco, hfg, hcf, hcg, hctf, hctg⟩ := hyes hb
      simp only [cdv, Value.agg.injEq] at hfg
      injection hfg with hfg
      simp only [List.cons.injEq, and_true] at hfg
      obtain ⟨rfl, rfl⟩ := hfg
      rw [hco] at hp
      simp only at hp
      refine GC_shift .nil (row_cut (l := 1) (h := n) (by simp : row 1 A n k (bytesV (a :: l)) ∈ _) (by simp at hl; omega) (Nat.le_refl _) (by decide)) ?_
      have e2 : ((bytesV (a :: l)).drop (1 * 1)).take ((n - 1) * 1) = bytesV l := by
       simp at hl; simp [bytesV]; rw [List.take_of_length_le (by simp; omega)]
      rw [e2]
      refine GC_skip ?_
      refine GC_seq ?_
      refine GC_draw 11 ([blk b6 [.func (.func f) [].toArray [].toArray, .func (.func g) [].toArray [].toArray] 70, row 1 A n k (bytesV (a :: l))]) mixed ?_
      refine GA_v (i := 0) rfl rfl rfl (by kernel_rfl) (rv_fa fa70_0 vw) ?_
      refine GA_v (i := 1) rfl rfl rfl (by kernel_rfl) (rv_ld (v := .func (.func f) [].toArray [].toArray) Tryz.underlying68 rfl vw) ?_
      refine GA_v (i := 2) rfl rfl rfl (by kernel_rfl) (rv_mv (v := .int .i64 _) vw) ?_
      refine GA_v (i := 3) rfl rfl rfl (by kernel_rfl) (rv_mv (v := .slice _ _ _) vw) ?_
      refine GA_v (i := 4) rfl rfl rfl (by kernel_rfl) (rv_ix (i := 0) el22 vw vw (fun _ => rfl) (fun _ => by simp at hl; omega) (fun _ => hA)) ?_
      refine GA_v (i := 5) rfl rfl rfl (by kernel_rfl) (rv_ldE (v := b8 a) Tryz.underlying5 rfl vw (fun _ => rfl)) ?_
      refine GA_v (i := 6) rfl rfl rfl (by kernel_rfl) (rv_mv (v := .slice _ _ _) vw) ?_
      refine GA_v (i := 7) rfl rfl rfl (by kernel_rfl) (rv_slL (l := 1) el22 vw vw (fun _ => rfl) (fun _ => by simp at hl; omega)) ?_
      refine GA_one 8 rfl rfl (by kernel_rfl) ?_
      refine GL_callC rfl rfl hcf rfl (hctf dir (cut A k 1 1) (n - 1) (k - 1) l (by omega)) .nil sR ?_
      rintro _ _ _ ⟨x, rfl, hx, rfl, rfl⟩
      simp only [List.cons_append, List.nil_append]
      rw [hp] at hx ⊢
      refine GL_nil ⟨inferInstance, ?_⟩
      refine GA_v (i := 9) rfl rfl rfl (by kernel_rfl) (rv_ext vw rfl) ?_
      refine GA_v (i := 10) rfl rfl rfl (by kernel_rfl) (rv_ext vw rfl) ?_
      refine GA_free (by kernel_rfl) ?_
      refine GA_last 11 rfl (by kernel_rfl) ?_
      refine GL_stA (l' := x.cells) rfl rfl c30 (MsgX.cells_one _) (by rfl) ?_
      refine GL_nil ?_
      refine GA_w (i := 12) rfl rfl rfl (by kernel_rfl) (rv_as (v := .int .i64 _) vw) ?_
      refine GA_nil (by kernel_rfl) ?_
      refine GC_ret ?_
      exact finA (T' := [msgR x]) (.inr rfl) rfl rfl rfl inferInstance a30 rfl .nil sb ⟨x, rfl, hx, rfl, rfl⟩
end Go.Bus
