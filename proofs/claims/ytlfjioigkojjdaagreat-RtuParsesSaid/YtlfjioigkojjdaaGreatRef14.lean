/- Walks of the reference: refusals, messages. No condition. -/
import Derived.Test.YtlfjioigkojjdaaGreatRef11
import Derived.Test.YtlfjioigkojjdaaGreatPlainb
import Derived.Test.YtlfjioigkojjdaaGreatPdu
set_option linter.unusedVariables false
set_option linter.unusedSimpArgs false
set_option maxRecDepth 100000
set_option maxHeartbeats 8000000
namespace Go.Bus
open Go Go.Proofs
theorem rP13_ct (A : Option Addr) (n k : Nat) (b : List UInt8) (hn : n ≤ 35184372088832) : Ct PG 57 [.slice A n k] [] [row 1 A n k (bytesV b)] (MsgOut (P13 b)) := by
  refine Ct_of Tryz.func57 rfl 46 rfl (Nat.le_of_ble_eq_true rfl) fun w0 M N => ?_
  refine GC_row A fun hrow => ?_
  have hbl : b.length = n := by have := hrow.1; simpa [bytesV] using this
  obtain ⟨pp, hpp⟩ : ∃ pp, P13 b = pp := ⟨_, rfl⟩
  rw [hpp]
  refine GC_seq ?_
  refine GC_region ?_
  refine GL_alloc rfl z30 (fun b2 => ?_)
  refine GL_v rfl (rv_as (v := .int .i64 _) vw) ?_
  refine GL_nil ?_
  refine GC_seq ?_
  refine GC_seq ?_
  refine GC_region ?_
  refine GL_v rfl (rv_mv (v := .slice _ _ _) vw) ?_
  refine GL_v rfl (rv_len el22 vw) ?_
  refine GL_v rfl (rv_lss vw vw) ?_
  refine GL_nil ?_
  refine GC_cond rfl (fun h0 => ?_) (fun h0 => ?_)
  ·
    obtain rfl : b = [] := List.eq_nil_of_length_eq_zero (by have := h0; simp at this; omega)
    obtain rfl := hpp
    refine GC_seq ?_
    refine GC_region ?_
    refine GL_v rfl (rv_bld (z' := [.int .u8 0, .int .u8 0, .int .u16 0, .int .u16 0, .int .u16 0, .int .u16 0, .int .u16 0, .int .u16 0, .int .u16 0, .int .u16 0, .int .u16 0, .int .u16 0, .slice none 0 0, .slice none 0 0, .slice none 0 0, .slice none 0 0, .int .u8 0, .int .u8 0, .int .u8 0, .int .u8 0, .int .u8 0, .slice none 0 0]) z30 l30 (fun _ => rfl)) ?_
    refine GL_stA rfl rfl c30 (by simp [Value.oneCell']) (by rfl) ?_
    refine GL_v rfl (rv_as (v := .int .i64 _) vw) ?_
    refine GL_nil ?_
    refine GC_shift .nil (msg0 {}) ?_
    refine GC_ret ?_
    exact finA (T' := [msgR { m := {} }]) (.inr rfl) rfl rfl rfl inferInstance a30 rfl .nil sb ⟨{ m := {} }, rfl, rfl, rfl, rfl⟩
  ·
    obtain ⟨a, l, rfl⟩ : ∃ a l, b = a :: l := by
      cases b with
      | nil => have := h0; simp at this hbl; omega
      | cons a l => exact ⟨a, l, rfl⟩
    have hA : A ≠ none := hrow.2.2.2.2 (by simp at hbl; omega) (by decide)
    have ha := a.toNat_lt
    have hll : l.length + 1 = n := by simpa using hbl
    simp only [P13] at hpp
    refine GC_skip ?_
    refine GC_seq ?_
    refine GC_region ?_
    refine GL_v rfl (rv_mv (v := .slice _ _ _) vw) ?_
    refine GL_v rfl (rv_ix (i := 0) el22 vw vw (fun _ => rfl) (fun _ => by omega) (fun _ => hA)) ?_
    refine GL_v rfl (rv_ldE (v := b8 a) Tryz.underlying5 rfl vw (fun _ => rfl)) ?_
    refine GL_v rfl (rv_cnv (r := (a.toNat : Int)) Tryz.underlying5 Tryz.underlying3 vw (fun _ => IntWalk.i64_in _ (by omega))) ?_
    refine GL_v rfl (rv_sub (r := (a.toNat : Int) - 128) vw vw (fun _ => IntWalk.i64_in _ (by omega))) ?_
    refine GL_v rfl (rv_as (v := .int .i64 _) vw) ?_
    refine GL_nil ?_
    refine GC_seq ?_
    refine GC_seq ?_
    refine GC_region ?_
    refine GL_v rfl (rv_mv (v := .int .i64 _) vw) ?_
    refine GL_v rfl (rv_lss vw vw) ?_
    refine GL_nil ?_
    refine GC_cond rfl (fun h1 => ?_) (fun h1 => ?_)
    ·
      have g : a.toNat < 128 := by have := h1; simp at this; omega
      rw [if_pos (.inl g)] at hpp
      obtain rfl := hpp
      refine GC_seq ?_
      refine GC_region ?_
      refine GL_v rfl (rv_bld (z' := [.int .u8 0, .int .u8 0, .int .u16 0, .int .u16 0, .int .u16 0, .int .u16 0, .int .u16 0, .int .u16 0, .int .u16 0, .int .u16 0, .int .u16 0, .int .u16 0, .slice none 0 0, .slice none 0 0, .slice none 0 0, .slice none 0 0, .int .u8 0, .int .u8 0, .int .u8 0, .int .u8 0, .int .u8 0, .slice none 0 0]) z30 l30 (fun _ => rfl)) ?_
      refine GL_stA rfl rfl c30 (by simp [Value.oneCell']) (by rfl) ?_
      refine GL_v rfl (rv_as (v := .int .i64 _) vw) ?_
      refine GL_nil ?_
      refine GC_shift .nil (msg0 {}) ?_
      refine GC_ret ?_
      exact finA (T' := [msgR { m := {} }]) (.inr rfl) rfl rfl rfl inferInstance a30 rfl .nil sb ⟨{ m := {} }, rfl, rfl, rfl, rfl⟩
    ·
      have g : ¬ a.toNat < 128 := by have := h1; simp at this; omega
      refine GC_skip ?_
      refine GC_seq ?_
      refine GC_region ?_
      refine GL_v rfl (rv_mv (v := .int .i64 _) vw) ?_
      refine GL_v rfl (rv_cnv (r := ((a - 128 : UInt8).toNat : Int)) Tryz.underlying3 Tryz.underlying5 vw (fun _ => sub128 a)) ?_
      refine GL_callD rfl cb108 (rPublic_ct (a - 128)) rfl .nil .nil ?_
      refine GL_v rfl (rv_as (v := .bool _) vw) ?_
      refine GL_nil ?_
      refine GC_seq ?_
      refine GC_seq ?_
      refine GC_region ?_
      refine GL_v rfl (rv_mv (v := .bool _) vw) ?_
      refine GL_v rfl (rv_not vw) ?_
      refine GL_nil ?_
      refine GC_cond rfl (fun h2 => ?_) (fun h2 => ?_)
      ·
        have gp : publicS (a - 128) = false := by have := h2; simpa using this
        rw [if_pos (.inr gp)] at hpp
        obtain rfl := hpp
        refine GC_seq ?_
        refine GC_region ?_
        refine GL_v rfl (rv_bld (z' := [.int .u8 0, .int .u8 0, .int .u16 0, .int .u16 0, .int .u16 0, .int .u16 0, .int .u16 0, .int .u16 0, .int .u16 0, .int .u16 0, .int .u16 0, .int .u16 0, .slice none 0 0, .slice none 0 0, .slice none 0 0, .slice none 0 0, .int .u8 0, .int .u8 0, .int .u8 0, .int .u8 0, .int .u8 0, .slice none 0 0]) z30 l30 (fun _ => rfl)) ?_
        refine GL_stA rfl rfl c30 (by simp [Value.oneCell']) (by rfl) ?_
        refine GL_v rfl (rv_as (v := .int .i64 _) vw) ?_
        refine GL_nil ?_
        refine GC_shift .nil (msg0 {}) ?_
        refine GC_ret ?_
        exact finA (T' := [msgR { m := {} }]) (.inr rfl) rfl rfl rfl inferInstance a30 rfl .nil sb ⟨{ m := {} }, rfl, rfl, rfl, rfl⟩
      ·
        have gp : ¬ publicS (a - 128) = false := by have := h2; simpa using this
        rw [if_neg (fun q => q.elim g gp)] at hpp
        refine GC_skip ?_
        refine GC_seq ?_
        refine GC_seq ?_
        refine GC_region ?_
        refine GL_v rfl (rv_mv (v := .slice _ _ _) vw) ?_
        refine GL_v rfl (rv_len el22 vw) ?_
        refine GL_v rfl (rv_lss vw vw) ?_
        refine GL_nil ?_
        refine GC_cond rfl (fun h3 => ?_) (fun h3 => ?_)
        ·
          obtain rfl : l = [] := List.eq_nil_of_length_eq_zero (by have := h3; simp at this; omega)
          obtain rfl := hpp
          refine GC_seq ?_
          refine GC_region ?_
          refine GL_v rfl (rv_bld (z' := [.int .u8 0, .int .u8 0, .int .u16 0, .int .u16 0, .int .u16 0, .int .u16 0, .int .u16 0, .int .u16 0, .int .u16 0, .int .u16 0, .int .u16 0, .int .u16 0, .slice none 0 0, .slice none 0 0, .slice none 0 0, .slice none 0 0, .int .u8 0, .int .u8 0, .int .u8 0, .int .u8 0, .int .u8 0, .slice none 0 0]) z30 l30 (fun _ => rfl)) ?_
          refine GL_stA rfl rfl c30 (by simp [Value.oneCell']) (by rfl) ?_
          refine GL_v rfl (rv_as (v := .int .i64 _) vw) ?_
          refine GL_nil ?_
          refine GC_shift .nil (msg0 {}) ?_
          refine GC_ret ?_
          exact finA (T' := [msgR { m := {} }]) (.inr rfl) rfl rfl rfl inferInstance a30 rfl .nil sb ⟨{ m := {} }, rfl, rfl, rfl, rfl⟩
        ·
          obtain ⟨f, r, rfl⟩ : ∃ f r, l = f :: r := by
            cases l with
            | nil => have := h3; simp at this hll; omega
            | cons f r => exact ⟨f, r, rfl⟩
          simp only at hpp
          have hrl : r.length + 2 = n := by simpa using hll
          refine GC_skip ?_
          refine GC_seq ?_
          refine GC_region ?_
          refine GL_v rfl (rv_mv (v := .slice _ _ _) vw) ?_
          refine GL_v rfl (rv_ix (i := 1) el22 vw vw (fun _ => rfl) (fun _ => by omega) (fun _ => hA)) ?_
          refine GL_v rfl (rv_ldE (v := b8 f) Tryz.underlying5 rfl vw (fun _ => rfl)) ?_
          refine GL_callD rfl cb109 (rFailure_ct f) rfl .nil .nil ?_
          refine GL_v rfl (rv_as (v := .bool _) vw) ?_
          refine GL_nil ?_
          refine GC_seq ?_
          refine GC_seq ?_
          refine GC_region ?_
          refine GL_v rfl (rv_mv (v := .bool _) vw) ?_
          refine GL_v rfl (rv_not vw) ?_
          refine GL_nil ?_
          refine GC_cond rfl (fun h4 => ?_) (fun h4 => ?_)
          ·
            have gf : failureS f = false := by have := h4; simpa using this
            rw [if_pos gf] at hpp
            obtain rfl := hpp
            refine GC_seq ?_
            refine GC_region ?_
            refine GL_v rfl (rv_bld (z' := [.int .u8 0, .int .u8 0, .int .u16 0, .int .u16 0, .int .u16 0, .int .u16 0, .int .u16 0, .int .u16 0, .int .u16 0, .int .u16 0, .int .u16 0, .int .u16 0, .slice none 0 0, .slice none 0 0, .slice none 0 0, .slice none 0 0, .int .u8 0, .int .u8 0, .int .u8 0, .int .u8 0, .int .u8 0, .slice none 0 0]) z30 l30 (fun _ => rfl)) ?_
            refine GL_stA rfl rfl c30 (by simp [Value.oneCell']) (by rfl) ?_
            refine GL_v rfl (rv_as (v := .int .i64 _) vw) ?_
            refine GL_nil ?_
            refine GC_shift .nil (msg0 {}) ?_
            refine GC_ret ?_
            exact finA (T' := [msgR { m := {} }]) (.inr rfl) rfl rfl rfl inferInstance a30 rfl .nil sb ⟨{ m := {} }, rfl, rfl, rfl, rfl⟩
          ·
            have gf : ¬ failureS f = false := by have := h4; simpa using this
            rw [if_neg gf] at hpp
            refine GC_skip ?_
            refine GC_seq ?_
            refine GC_seq ?_
            refine GC_region ?_
            refine GL_v rfl (rv_mv (v := .slice _ _ _) vw) ?_
            refine GL_v rfl (rv_len el22 vw) ?_
            refine GL_v rfl (rv_gtr vw vw) ?_
            refine GL_nil ?_
            refine GC_cond rfl (fun h5 => ?_) (fun h5 => ?_)
            ·
              have gr : r ≠ [] := fun q => by have := h5; subst q; simp at this hrl; omega
              rw [if_pos gr] at hpp
              obtain rfl := hpp
              refine GC_seq ?_
              refine GC_region ?_
              refine GL_v rfl (rv_bld (z' := [.int .u8 0, .int .u8 0, .int .u16 0, .int .u16 0, .int .u16 0, .int .u16 0, .int .u16 0, .int .u16 0, .int .u16 0, .int .u16 0, .int .u16 0, .int .u16 0, .slice none 0 0, .slice none 0 0, .slice none 0 0, .slice none 0 0, .int .u8 0, .int .u8 0, .int .u8 0, .int .u8 0, .int .u8 0, .slice none 0 0]) z30 l30 (fun _ => rfl)) ?_
              refine GL_stA rfl rfl c30 (by simp [Value.oneCell']) (by rfl) ?_
              refine GL_v rfl (rv_as (v := .int .i64 _) vw) ?_
              refine GL_nil ?_
              refine GC_shift .nil (msg0 {}) ?_
              refine GC_ret ?_
              exact finA (T' := [msgR { m := {} }]) (.inr rfl) rfl rfl rfl inferInstance a30 rfl .nil sb ⟨{ m := {} }, rfl, rfl, rfl, rfl⟩
            ·
              obtain rfl : r = [] := List.eq_nil_of_length_eq_zero (by have := h5; simp at this; omega)
              rw [if_neg (by simp)] at hpp
              obtain rfl := hpp
              refine GC_shift .nil (msg0 { code := a - 128, fail := f }) ?_
              refine GC_skip ?_
              refine GC_seq ?_
              refine GC_region ?_
              refine GL_v rfl (rv_mv (v := .int .i64 _) vw) ?_
              refine GL_v rfl (rv_cnv (r := ((a - 128 : UInt8).toNat : Int)) Tryz.underlying3 Tryz.underlying5 vw (fun _ => sub128 a)) ?_
              refine GL_v rfl (rv_mv (v := .slice _ _ _) vw) ?_
              refine GL_v rfl (rv_ix (i := 1) el22 vw vw (fun _ => rfl) (fun _ => by omega) (fun _ => hA)) ?_
              refine GL_v rfl (rv_ldE (v := b8 f) Tryz.underlying5 rfl vw (fun _ => rfl)) ?_
              refine GL_v rfl (rv_bld (z' := MsgX.cells { m := { code := a - 128, fail := f } }) z30 l30 (fun _ => rfl)) ?_
              refine GL_stA (l' := MsgX.cells { m := { code := a - 128, fail := f } }) rfl rfl c30 (MsgX.cells_one _) (by rfl) ?_
              refine GL_v rfl (rv_as (v := .int .i64 _) vw) ?_
              refine GL_nil ?_
              refine GC_ret ?_
              exact finA (T' := [msgR { m := { code := a - 128, fail := f } }]) (.inr rfl) rfl rfl rfl inferInstance a30 rfl .nil sb ⟨{ m := { code := a - 128, fail := f } }, rfl, rfl, rfl, rfl⟩

theorem P13_pair {c f : UInt8} (hc : c.toNat < 128) : P13 [c + 128, f] = if publicS c = false then ({}, 4) else if failureS f = false then ({}, 6) else ({ code := c, fail := f }, 0) := by
  have h2 := toNat_add128 hc
  unfold P13
  simp only [add_sub128]
  by_cases hp : publicS c = false
  · rw [if_pos (.inr hp), if_pos hp]
  · rw [if_neg (fun q => q.elim (by omega) hp), if_neg hp]
    simp
theorem rW13_ct (x : MsgX) : Ct PG 66 [.agg x.cells.toArray] [] [msgR x] (BytesOut (W13 x.m)) := by
  refine Ct_of Tryz.func66 rfl 32 rfl (Nat.le_of_ble_eq_true rfl) fun w0 M N => ?_
  refine GC_seq ?_
  refine GC_region ?_
  refine GL_boxA (l := x.cells) rfl rfl (fun b1 => ?_)
  rw [x.cells_eq]
  refine GL_v rfl (rv_as (v := .slice _ _ _) vw) ?_
  refine GL_v rfl (rv_as (v := .int .i64 _) vw) ?_
  refine GL_nil ?_
  refine GC_seq ?_
  refine GC_seq ?_
  refine GC_region ?_
  refine GL_v rfl (rv_fa fa30_0 vw) ?_
  refine GL_v rfl (rv_ld Tryz.underlying5 rfl vw) ?_
  refine GL_v rfl (rv_geq vw vw) ?_
  refine GL_nil ?_
  refine GC_cond rfl (fun h0 => ?_) (fun h0 => ?_)
  ·
    have g : ¬ x.m.code.toNat < 128 := by have := h0; simp at this; omega
    have he : W13 x.m = ([], 1) := W13_no fun z => g (public_lt (W13_ok z).1)
    rw [he]
    refine GC_seq ?_
    refine GC_region ?_
    refine GL_v rfl (rv_as (v := .slice _ _ _) vw) ?_
    refine GL_v rfl (rv_as (v := .int .i64 _) vw) ?_
    refine GL_nil ?_
    refine GC_shift .nil (nil_row (sz := 1)) ?_
    refine GC_ret ?_
    exact fin2 (T' := [row 1 none 0 0 []]) (.inr rfl) rfl rfl rfl .nil sb ⟨none, 0, 0, rfl, rfl, rfl⟩
  ·
    have g : x.m.code.toNat < 128 := by have := h0; simp at this; omega
    refine GC_skip ?_
    refine GC_seq ?_
    refine GC_region ?_
    refine GL_v rfl (rv_fa fa30_0 vw) ?_
    refine GL_v rfl (rv_ld Tryz.underlying5 rfl vw) ?_
    refine GL_v rfl (rv_add (r := ((x.m.code + 128 : UInt8).toNat : Int)) vw vw (fun _ => add128 _)) ?_
    refine GL_v rfl (rv_fa fa30_1 vw) ?_
    refine GL_v rfl (rv_ld Tryz.underlying5 rfl vw) ?_
    refine GL_bs (l := bytesV [x.m.code + 128, x.m.fail]) rfl el22 z5 rfl rfl rfl (fun b16 => ?_)
    refine GL_shift (.cons .here .nil) (blk_own (n := 2) (sz := 1) rfl (by decide)) ?_
    refine GL_shift (.cons .here .nil) own_toRow ?_
    refine GL_v rfl (rv_as (v := .slice _ _ _) vw) ?_
    refine GL_nil ?_
    refine GC_seq ?_
    refine GC_region ?_
    refine GL_v rfl (rv_mv (v := .slice _ _ _) vw) ?_
    refine GL_call rfl cb57 (rP13_ct _ 2 2 [x.m.code + 128, x.m.fail] (by decide)) rfl .nil sb ?_
    rintro _ _ _ ⟨y, rfl, hy, rfl, rfl⟩
    simp only [List.cons_append, List.nil_append]
    have hpr := @P13_pair x.m.code x.m.fail g
    obtain ⟨p, e, hp⟩ : ∃ p e, P13 [x.m.code + 128, x.m.fail] = (p, e) := ⟨_, _, rfl⟩
    rw [hp] at hy hpr ⊢
    simp only at hy ⊢
    refine GL_v rfl (rv_mv (v := .tuple [.agg y.cells.toArray, .int .i64 e].toArray) vw) ?_
    refine GL_v rfl (rv_ext vw rfl) ?_
    refine GL_v rfl (rv_ext vw rfl) ?_
    refine GL_alloc rfl z30 (fun b5 => ?_)
    refine GL_stA (l' := y.cells) rfl rfl c30 (MsgX.cells_one _) (by rfl) ?_
    rw [← x.cells_eq]
    refine GL_v rfl (rv_as (v := .int .i64 _) vw) ?_
    refine GL_nil ?_
    refine GC_seq ?_
    refine GC_region ?_
    refine GL_v rfl (rv_ldA (l := y.cells) a30 vw rfl) ?_
    refine GL_v rfl (rv_ldA (l := x.cells) a30 vw rfl) ?_
    refine GL_callD rfl cb17 (rSame_ct y x) rfl .nil sb ?_
    refine GL_v rfl (rv_as (v := .bool _) vw) ?_
    refine GL_nil ?_
    refine GC_seq ?_
    refine GC_seq ?_
    refine GC_region ?_
    refine GL_v rfl (rv_mv (v := .int .i64 _) vw) ?_
    refine GL_v rfl (rv_neq vw vw) ?_
    refine GL_v rfl (rv_mv (v := .bool _) vw) ?_
    refine GL_g rfl rfl gvf (rv_mv (v := .bool _) vw) ?_
    refine GL_g rfl rfl gvf (rv_not vwg) ?_
    refine GL_v rfl (rv_or vw vwg) ?_
    refine GL_nil ?_
    refine GC_cond rfl (fun h1 => ?_) (fun h1 => ?_)
    ·
      have hh : ¬ (e = 0 ∧ p = x.m) := by
        rintro ⟨rfl, rfl⟩
        have q := h1
        rw [hy] at q; simp at q
      have he : W13 x.m = ([], 1) := W13_no fun z => by
        have w := W13_ok z
        rw [w.1, w.2.1] at hpr
        simp at hpr
        exact hh ⟨hpr.2, by rw [hpr.1]; exact w.2.2.1.symm⟩
      rw [he]
      refine GC_seq ?_
      refine GC_region ?_
      refine GL_v rfl (rv_as (v := .slice _ _ _) vw) ?_
      refine GL_v rfl (rv_as (v := .int .i64 _) vw) ?_
      refine GL_nil ?_
      refine GC_shift .nil (nil_row (sz := 1)) ?_
      refine GC_ret ?_
      exact fin2 (T' := [row 1 none 0 0 []]) (.inr rfl) rfl rfl rfl .nil sb ⟨none, 0, 0, rfl, rfl, rfl⟩
    ·
      have hh : e = 0 ∧ p = x.m := by
        have q := h1
        rw [hy] at q; simpa using q
      have he : W13 x.m = ([x.m.code + 128, x.m.fail], 0) := by
        by_cases hp1 : publicS x.m.code = false
        · rw [if_pos hp1] at hpr; have := congrArg Prod.snd hpr; rw [hh.1] at this; simp at this
        · by_cases hf1 : failureS x.m.fail = false
          · rw [if_neg hp1, if_pos hf1] at hpr; have := congrArg Prod.snd hpr; rw [hh.1] at this; simp at this
          · rw [if_neg hp1, if_neg hf1, hh.2] at hpr
            have hm := congrArg Prod.fst hpr
            have hp2 : publicS x.m.code = true := by simpa using hp1
            have hf2 : failureS x.m.fail = true := by simpa using hf1
            unfold W13; rw [if_pos (by rw [hp2, hf2]; simp; exact hm)]
      rw [he]
      refine GC_skip ?_
      refine GC_seq ?_
      refine GC_region ?_
      refine GL_v rfl (rv_mv (v := .slice _ _ _) vw) ?_
      refine GL_v rfl (rv_as (v := .slice _ _ _) vw) ?_
      refine GL_v rfl (rv_as (v := .int .i64 _) vw) ?_
      refine GL_nil ?_
      refine GC_ret ?_
      exact fin2 (.inr rfl) rfl rfl rfl .nil sb ⟨_, 2, 2, rfl, rfl, rfl⟩

/-! ### one layer behind another -/
def cas4 (a b : MsgD × Int) : MsgD × Int := if a.2 = 4 then b else a
theorem cas4_no {b : MsgD × Int} : cas4 ({}, 4) b = b := rfl
theorem cas4_r {a : MsgD × Int} (h : a.2 = 4 → a = ({}, 4)) : cas4 a ({}, 4) = a := by
  unfold cas4; split
  · rename_i q; rw [h q]
  · rfl
theorem cas4_t {a b c : MsgD × Int} {m : MsgD} {f : Int} (hy : (m, f) = a) (g : f = 4) (hb : c = b) : c = cas4 a b := by subst hy; subst hb; exact (if_pos g).symm
theorem cas4_f {a b : MsgD × Int} {m : MsgD} {f : Int} (hy : (m, f) = a) (g : ¬ f = 4) : (m, f) = cas4 a b := by subst hy; exact (if_neg g).symm
theorem finish_4 {p : MsgD × Cu} (h : (finish p).2 = 4) : finish p = ({}, 4) := by
  unfold finish at h ⊢
  by_cases q : p.2.fin.e = 0
  · rw [if_pos q] at h; simp at h
  · rw [if_neg q] at h ⊢; simp only at h; rw [h]
theorem parseBy_4 {form : Option (MsgD → Cu → MsgD × Cu)} {dir : Int} {c : UInt8} {l : List UInt8} (h : (parseBy form dir c l).2 = 4) : parseBy form dir c l = ({}, 4) := by
  unfold parseBy at h ⊢
  by_cases hd : dir ≠ 0 ∧ dir ≠ 1
  · rw [if_pos hd] at h; exact absurd h (by decide)
  · rw [if_neg hd] at h ⊢
    cases form with
    | none => rfl
    | some f => exact finish_4 h
theorem P11_4 {dir : Int} {c : UInt8} {l : List UInt8} (h : (P11 dir c l).2 = 4) : P11 dir c l = ({}, 4) := by
  unfold P11 at h ⊢
  by_cases hd : dir ≠ 0 ∧ dir ≠ 1
  · rw [if_pos hd] at h; exact absurd h (by decide)
  · rw [if_neg hd] at h ⊢
    cases hr : rulesS dir c with
    | none => rfl
    | some q => rw [hr] at h; exact finish_4 h
theorem P08_4 {dir : Int} {c : UInt8} {l : List UInt8} (h : (P08 dir c l).2 = 4) : P08 dir c l = ({}, 4) := parseBy_4 h
theorem P09_4 {dir : Int} {c : UInt8} {l : List UInt8} (h : (P09 dir c l).2 = 4) : P09 dir c l = ({}, 4) := parseBy_4 h
theorem P10_4 {dir : Int} {c : UInt8} {l : List UInt8} (h : (P10 dir c l).2 = 4) : P10 dir c l = ({}, 4) := parseBy_4 h
theorem parseBy_x {dir : Int} {c : UInt8} {l : List UInt8} (hd : ¬ (dir ≠ 0 ∧ dir ≠ 1)) : parseBy none dir c l = ({}, 4) := by unfold parseBy; rw [if_neg hd]
section
variable {dir : Int} {c : UInt8} (l : List UInt8) (hd : ¬ (dir ≠ 0 ∧ dir ≠ 1))
include hd
theorem P08_x (h : ¬ (c.toNat = 1 ∨ c.toNat = 2 ∨ c.toNat = 5 ∨ c.toNat = 15)) : P08 dir c l = ({}, 4) := by
  have hf : form08 dir c = none := by unfold form08; rw [if_neg (by omega), if_neg (by omega), if_neg (by omega)]
  unfold P08; rw [hf]; exact parseBy_x hd
theorem P09_x (h : ¬ (c.toNat = 3 ∨ c.toNat = 4 ∨ c.toNat = 6 ∨ c.toNat = 16 ∨ c.toNat = 22 ∨ c.toNat = 23 ∨ c.toNat = 24)) : P09 dir c l = ({}, 4) := by
  have hf : form09 dir c = none := by
    unfold form09
    rw [if_neg (by omega), if_neg (by omega), if_neg (by omega), if_neg (by omega), if_neg (by omega), if_neg (by omega), if_neg (by omega), if_neg (by omega)]
  unfold P09; rw [hf]; exact parseBy_x hd
theorem P10_x (h : ¬ (c.toNat = 7 ∨ c.toNat = 8 ∨ c.toNat = 11 ∨ c.toNat = 12 ∨ c.toNat = 17)) : P10 dir c l = ({}, 4) := by
  have hf : form10 dir c = none := by unfold form10; rw [if_neg (by omega), if_neg (by omega)]
  unfold P10; rw [hf]; exact parseBy_x hd
theorem P11_x (h : ¬ (c.toNat = 20 ∨ c.toNat = 21)) : P11 dir c l = ({}, 4) := by
  have hf : rulesS dir c = none := by unfold rulesS; rw [if_neg (by omega), if_neg (by omega), if_neg (by omega)]
  unfold P11; rw [hf, if_neg hd]
theorem P12_x (h : ¬ c.toNat = 43) : P12 dir c l = ({}, 4) := by
  have hf : form12 dir c = none := by unfold form12; rw [if_neg h]
  unfold P12; rw [hf]; exact parseBy_x hd
theorem cas_parse : cas4 (cas4 (cas4 (cas4 (P08 dir c l) (P09 dir c l)) (P10 dir c l)) (P11 dir c l)) (P12 dir c l) = (match codecS c with | none => ({}, 4) | some (p, _) => p dir c l) := by
  rcases codec_cases c with ⟨h, k⟩ | ⟨h, k⟩ | ⟨h, k⟩ | ⟨h, k⟩ | ⟨h, k⟩ | ⟨h, k1, k2, k3, k4, k5⟩ <;> rw [h]
  · rw [P09_x l hd (by omega), P10_x l hd (by omega), P11_x l hd (by omega), P12_x l hd (by omega), cas4_r P08_4, cas4_r P08_4, cas4_r P08_4, cas4_r P08_4]
  · rw [P08_x l hd (by omega), P10_x l hd (by omega), P11_x l hd (by omega), P12_x l hd (by omega), cas4_no, cas4_r P09_4, cas4_r P09_4, cas4_r P09_4]
  · rw [P08_x l hd (by omega), P09_x l hd (by omega), P11_x l hd (by omega), P12_x l hd (by omega), cas4_no, cas4_no, cas4_r P10_4, cas4_r P10_4]
  · rw [P08_x l hd (by omega), P09_x l hd (by omega), P10_x l hd (by omega), P12_x l hd (by omega), cas4_no, cas4_no, cas4_no, cas4_r P11_4]
  · rw [P08_x l hd (by omega), P09_x l hd (by omega), P10_x l hd (by omega), P11_x l hd (by omega), cas4_no, cas4_no, cas4_no, cas4_no]
  · rw [P08_x l hd k1, P09_x l hd k2, P10_x l hd k3, P11_x l hd k4, P12_x l hd k5]; rfl
end

theorem rP14_ct (dir : Int) (A : Option Addr) (n k : Nat) (b : List UInt8) (hn : n ≤ 35184372088832) : Ct PG 16 [.int .i64 dir, .slice A n k] [] [row 1 A n k (bytesV b)] (MsgOut (P14 dir b)) := by
  refine Ct_of Tryz.func16 rfl 87 rfl (Nat.le_of_ble_eq_true rfl) fun w0 M N => ?_
  refine GC_row A fun hrow => ?_
  have hl : b.length = n := by have := hrow.1; simpa [bytesV] using this
  obtain ⟨p, hp⟩ : ∃ p, P14 dir b = p := ⟨_, rfl⟩
  rw [hp]
  refine GC_seq ?_
  refine GC_region ?_
  refine GL_alloc rfl z30 (fun b4 => ?_)
  refine GL_v rfl (rv_as (v := .int .i64 _) vw) ?_
  refine GL_nil ?_
  refine GC_seq ?_
  refine GC_seq ?_
  refine GC_region ?_
  refine GL_v rfl (rv_mv (v := .int .i64 _) vw) ?_
  refine GL_v rfl (rv_neq vw vw) ?_
  refine GL_v rfl (rv_mv (v := .bool _) vw) ?_
  refine GL_g rfl rfl gvt (rv_mv (v := .int .i64 _) vw) ?_
  refine GL_g rfl rfl gvt (rv_neq vwg vw) ?_
  refine GL_v rfl (rv_and vw vwg) ?_
  refine GL_nil ?_
  refine GC_cond rfl (fun h0 => ?_) (fun h0 => ?_)
  ·
    have hd : dir ≠ 0 ∧ dir ≠ 1 := by have := h0; simpa using this
    have he : P14 dir b = ({}, 1) := if_pos hd
    obtain rfl := hp.symm.trans he
    refine GC_seq ?_
    refine GC_region ?_
    refine GL_v rfl (rv_bld (z' := [.int .u8 0, .int .u8 0, .int .u16 0, .int .u16 0, .int .u16 0, .int .u16 0, .int .u16 0, .int .u16 0, .int .u16 0, .int .u16 0, .int .u16 0, .int .u16 0, .slice none 0 0, .slice none 0 0, .slice none 0 0, .slice none 0 0, .int .u8 0, .int .u8 0, .int .u8 0, .int .u8 0, .int .u8 0, .slice none 0 0]) z30 l30 (fun _ => rfl)) ?_
    refine GL_stA rfl rfl c30 (by simp [Value.oneCell']) (by rfl) ?_
    refine GL_v rfl (rv_as (v := .int .i64 _) vw) ?_
    refine GL_nil ?_
    refine GC_shift .nil (msg0 {}) ?_
    refine GC_ret ?_
    exact finA (T' := [msgR { m := {} }]) (.inr rfl) rfl rfl rfl inferInstance a30 rfl .nil sb ⟨{ m := {} }, rfl, rfl, rfl, rfl⟩
  ·
    have hd : ¬ (dir ≠ 0 ∧ dir ≠ 1) := by have := h0; simpa using this
    simp only [P14, if_neg hd] at hp
    refine GC_skip ?_
    refine GC_seq ?_
    refine GC_seq ?_
    refine GC_region ?_
    refine GL_v rfl (rv_mv (v := .slice _ _ _) vw) ?_
    refine GL_v rfl (rv_len el22 vw) ?_
    refine GL_v rfl (rv_eql vw vw) ?_
    refine GL_nil ?_
    refine GC_cond rfl (fun h1 => ?_) (fun h1 => ?_)
    ·
      obtain rfl : b = [] := List.eq_nil_of_length_eq_zero (by have := h1; simp at this; omega)
      obtain rfl := hp
      refine GC_seq ?_
      refine GC_region ?_
      refine GL_v rfl (rv_bld (z' := [.int .u8 0, .int .u8 0, .int .u16 0, .int .u16 0, .int .u16 0, .int .u16 0, .int .u16 0, .int .u16 0, .int .u16 0, .int .u16 0, .int .u16 0, .int .u16 0, .slice none 0 0, .slice none 0 0, .slice none 0 0, .slice none 0 0, .int .u8 0, .int .u8 0, .int .u8 0, .int .u8 0, .int .u8 0, .slice none 0 0]) z30 l30 (fun _ => rfl)) ?_
      refine GL_stA rfl rfl c30 (by simp [Value.oneCell']) (by rfl) ?_
      refine GL_v rfl (rv_as (v := .int .i64 _) vw) ?_
      refine GL_nil ?_
      refine GC_shift .nil (msg0 {}) ?_
      refine GC_ret ?_
      exact finA (T' := [msgR { m := {} }]) (.inr rfl) rfl rfl rfl inferInstance a30 rfl .nil sb ⟨{ m := {} }, rfl, rfl, rfl, rfl⟩
    ·
      obtain ⟨a, l, rfl⟩ : ∃ a l, b = a :: l := by
        cases b with
        | nil => have := h1; simp at this hl; omega
        | cons a l => exact ⟨a, l, rfl⟩
      have hA : A ≠ none := hrow.2.2.2.2 (by simp at hl; omega) (by decide)
      have ha := a.toNat_lt
      simp only at hp
      refine GC_skip ?_
      refine GC_seq ?_
      refine GC_seq ?_
      refine GC_region ?_
      refine GL_v rfl (rv_mv (v := .slice _ _ _) vw) ?_
      refine GL_v rfl (rv_len el22 vw) ?_
      refine GL_v rfl (rv_gtr vw vw) ?_
      refine GL_nil ?_
      refine GC_cond rfl (fun h2 => ?_) (fun h2 => ?_)
      ·
        have hlen : 253 < (a :: l).length := by have := h2; simp at this; omega
        rw [if_pos hlen] at hp
        obtain rfl := hp
        refine GC_seq ?_
        refine GC_region ?_
        refine GL_v rfl (rv_bld (z' := [.int .u8 0, .int .u8 0, .int .u16 0, .int .u16 0, .int .u16 0, .int .u16 0, .int .u16 0, .int .u16 0, .int .u16 0, .int .u16 0, .int .u16 0, .int .u16 0, .slice none 0 0, .slice none 0 0, .slice none 0 0, .slice none 0 0, .int .u8 0, .int .u8 0, .int .u8 0, .int .u8 0, .int .u8 0, .slice none 0 0]) z30 l30 (fun _ => rfl)) ?_
        refine GL_stA rfl rfl c30 (by simp [Value.oneCell']) (by rfl) ?_
        refine GL_v rfl (rv_as (v := .int .i64 _) vw) ?_
        refine GL_nil ?_
        refine GC_shift .nil (msg0 {}) ?_
        refine GC_ret ?_
        exact finA (T' := [msgR { m := {} }]) (.inr rfl) rfl rfl rfl inferInstance a30 rfl .nil sb ⟨{ m := {} }, rfl, rfl, rfl, rfl⟩
      ·
        have hlen : ¬ 253 < (a :: l).length := by have := h2; simp at this; omega
        rw [if_neg hlen] at hp
        refine GC_skip ?_
        refine GC_seq ?_
        refine GC_region ?_
        refine GL_v rfl (rv_mv (v := .slice _ _ _) vw) ?_
        refine GL_v rfl (rv_ix (i := 0) el22 vw vw (fun _ => rfl) (fun _ => by simp at hl; omega) (fun _ => hA)) ?_
        refine GL_v rfl (rv_ldE (v := b8 a) Tryz.underlying5 rfl vw (fun _ => rfl)) ?_
        refine GL_v rfl (rv_as (v := b8 a) vw) ?_
        refine GL_nil ?_
        refine GC_seq ?_
        refine GC_seq ?_
        refine GC_region ?_
        refine GL_v rfl (rv_mv (v := .int .u8 _) vw) ?_
        refine GL_v rfl (rv_geq vw vw) ?_
        refine GL_v rfl (rv_mv (v := .bool _) vw) ?_
        refine GL_g rfl rfl gvt (rv_mv (v := .int .i64 _) vw) ?_
        refine GL_g rfl rfl gvt (rv_eql vwg vw) ?_
        refine GL_v rfl (rv_and vw vwg) ?_
        refine GL_nil ?_
        refine GC_cond rfl (fun h3 => ?_) (fun h3 => ?_)
        ·
          have hc : 128 ≤ a.toNat ∧ dir = 1 := by have := h3; simp at this; omega
          rw [if_pos hc] at hp
          refine GC_seq ?_
          refine GC_region ?_
          refine GL_v rfl (rv_mv (v := .slice _ _ _) vw) ?_
          refine GL_call rfl cb57 (rP13_ct A n k (a :: l) hn) rfl .nil sR ?_
          rintro _ _ _ ⟨x, rfl, hx, rfl, rfl⟩
          simp only [List.cons_append, List.nil_append]
          rw [hp] at hx ⊢
          refine GL_v rfl (rv_ext vw rfl) ?_
          refine GL_v rfl (rv_ext vw rfl) ?_
          refine GL_stA (l' := x.cells) rfl rfl c30 (MsgX.cells_one _) (by rfl) ?_
          refine GL_v rfl (rv_as (v := .int .i64 _) vw) ?_
          refine GL_nil ?_
          refine GC_ret ?_
          exact finA (T' := [msgR x]) (.inr rfl) rfl rfl rfl inferInstance a30 rfl .nil sb ⟨x, rfl, hx, rfl, rfl⟩
        ·
          have hc : ¬ (128 ≤ a.toNat ∧ dir = 1) := by have := h3; simp at this; omega
          rw [if_neg hc] at hp
          replace hp := (cas_parse (c := a) l hd).trans hp
          refine GC_shift .nil (row_cut (l := 1) (h := n) (by simp : row 1 A n k (bytesV (a :: l)) ∈ _) (by simp at hl; omega) (Nat.le_refl _) (by decide)) ?_
          have e2 : ((bytesV (a :: l)).drop (1 * 1)).take ((n - 1) * 1) = bytesV l := by
            simp at hl; simp [bytesV]; rw [List.take_of_length_le (by simp; omega)]
          rw [e2]
          have hn1 : 1 ≤ n := by simp at hl; omega
          refine GC_skip ?_
          refine GC_seq ?_
          refine GC_region ?_
          refine GL_v rfl (rv_mv (v := .int .i64 _) vw) ?_
          refine GL_v rfl (rv_mv (v := b8 a) vw) ?_
          refine GL_v rfl (rv_mv (v := .slice _ _ _) vw) ?_
          refine GL_v rfl (rv_slL (l := 1) el22 vw vw (fun _ => rfl) (fun _ => hn1)) ?_
          refine GL_call rfl cb58 (rP08_ct dir a (cut A k 1 1) (n - 1) (k - 1) l (by omega)) rfl .nil sR ?_
          rintro _ _ _ ⟨x0, rfl, hx0, rfl, rfl⟩
          simp only [List.cons_append, List.nil_append]
          obtain ⟨m0, e0, hp0⟩ : ∃ m e, P08 dir a l = (m, e) := ⟨_, _, rfl⟩
          rw [hp0] at hx0 ⊢
          simp only at hx0 ⊢
          refine GL_v rfl (rv_mv (v := .tuple [.agg x0.cells.toArray, .int .i64 e0].toArray) vw) ?_
          refine GL_v rfl (rv_ext vw rfl) ?_
          refine GL_v rfl (rv_ext vw rfl) ?_
          refine GL_alloc rfl z30 (fun b7 => ?_)
          refine GL_stA (l' := x0.cells) rfl rfl c30 (MsgX.cells_one _) (by rfl) ?_
          refine GL_v rfl (rv_as (v := .int .i64 _) vw) ?_
          refine GL_nil ?_
          have hy0 : (x0.m, e0) = P08 dir a l := by rw [hp0, hx0]
          refine GC_seq ?_
          refine GC_seq ?_
          refine GC_region ?_
          refine GL_v rfl (rv_mv (v := .int .i64 _) vw) ?_
          refine GL_v rfl (rv_eql vw vw) ?_
          refine GL_nil ?_
          refine GC_cutM (fun E S T => ∃ (y : MsgX) (f : Int), (y.m, f) = cas4 (P08 dir a l) (P09 dir a l) ∧ At E [(0, .int .i64 dir), (1, .slice A n k), (4, .pointer (some ⟨b4, 0, none⟩)), (6, b8 a), (7, .pointer (some ⟨b7, 0, none⟩)), (8, .int .i64 f)] ∧ S = [blk b7 y.cells 30, blk b4 (MsgX.cells { m := {} }) 30] ∧ T = [msgR y, row 1 (cut A k 1 1) (n - 1) (k - 1) (bytesV l), row 1 A n k (bytesV (a :: l))]) ?_ ?_
          ·
            refine GC_cond rfl (fun h4 => ?_) (fun h4 => ?_)
            ·
              have g4 : e0 = 4 := by have q := h4; simpa using q
              refine GC_region ?_
              refine GL_v rfl (rv_mv (v := .int .i64 _) vw) ?_
              refine GL_v rfl (rv_mv (v := b8 a) vw) ?_
              refine GL_v rfl (rv_mv (v := .slice _ _ _) vw) ?_
              refine GL_v rfl (rv_slL (l := 1) el22 vw vw (fun _ => rfl) (fun _ => hn1)) ?_
              refine GL_call rfl cb59 (rP09_ct dir a (cut A k 1 1) (n - 1) (k - 1) l (by omega)) rfl .nil sR ?_
              rintro _ _ _ ⟨x1, rfl, hx1, rfl, rfl⟩
              simp only [List.cons_append, List.nil_append]
              obtain ⟨m1, e1, hp1⟩ : ∃ m e, P09 dir a l = (m, e) := ⟨_, _, rfl⟩
              rw [hp1] at hx1 ⊢
              simp only at hx1 ⊢
              refine GL_v rfl (rv_mv (v := .tuple [.agg x1.cells.toArray, .int .i64 e1].toArray) vw) ?_
              refine GL_v rfl (rv_ext vw rfl) ?_
              refine GL_v rfl (rv_ext vw rfl) ?_
              refine GL_stA (l' := x1.cells) rfl rfl c30 (MsgX.cells_one _) (by rfl) ?_
              refine GL_v rfl (rv_as (v := .int .i64 _) vw) ?_
              refine GL_nil ?_
              show Weak _ _ _ _
              exact weak (.cons .here (.cons .here .nil)) (.cons (.head _) (.cons (.tail _ (.tail _ (.head _))) (.cons (.tail _ (.tail _ (.tail _ (.head _)))) .nil))) ⟨x1, e1, cas4_t hy0 g4 (by rw [hx1]), ⟨rfl, rfl, rfl, rfl, rfl, rfl, trivial⟩, rfl, rfl⟩
            ·
              have g4 : ¬ e0 = 4 := by have q := h4; simpa using q
              refine GC_skip ?_
              show Weak _ _ _ _
              exact weak (.cons .here (.cons .here .nil)) sb ⟨x0, e0, cas4_f hy0 g4, ⟨rfl, rfl, rfl, rfl, rfl, rfl, trivial⟩, rfl, rfl⟩
          ·
            rintro E S T ⟨S1, r1, T1, hS, hT, hM⟩
            refine GC_drop hS (GC_dropT hT ?_)
            clear hS hT
            revert hM
            rintro ⟨y1, f1, hy1, hE1, rfl, rfl⟩
            obtain ⟨E1, rfl⟩ := hE1.ex
            refine GC_seq ?_
            refine GC_seq ?_
            refine GC_region ?_
            refine GL_v rfl (rv_mv (v := .int .i64 _) vw) ?_
            refine GL_v rfl (rv_eql vw vw) ?_
            refine GL_nil ?_
            refine GC_cutM (fun E S T => ∃ (y : MsgX) (f : Int), (y.m, f) = cas4 (cas4 (P08 dir a l) (P09 dir a l)) (P10 dir a l) ∧ At E [(0, .int .i64 dir), (1, .slice A n k), (4, .pointer (some ⟨b4, 0, none⟩)), (6, b8 a), (7, .pointer (some ⟨b7, 0, none⟩)), (8, .int .i64 f)] ∧ S = [blk b7 y.cells 30, blk b4 (MsgX.cells { m := {} }) 30] ∧ T = [msgR y, row 1 (cut A k 1 1) (n - 1) (k - 1) (bytesV l), row 1 A n k (bytesV (a :: l))]) ?_ ?_
            ·
              refine GC_cond rfl (fun h5 => ?_) (fun h5 => ?_)
              ·
                have g4 : f1 = 4 := by have q := h5; simpa using q
                refine GC_region ?_
                refine GL_v rfl (rv_mv (v := .int .i64 _) vw) ?_
                refine GL_v rfl (rv_mv (v := b8 a) vw) ?_
                refine GL_v rfl (rv_mv (v := .slice _ _ _) vw) ?_
                refine GL_v rfl (rv_slL (l := 1) el22 vw vw (fun _ => rfl) (fun _ => hn1)) ?_
                refine GL_call rfl cb60 (rP10_ct dir a (cut A k 1 1) (n - 1) (k - 1) l (by omega)) rfl .nil sR ?_
                rintro _ _ _ ⟨x2, rfl, hx2, rfl, rfl⟩
                simp only [List.cons_append, List.nil_append]
                obtain ⟨m2, e2, hp2⟩ : ∃ m e, P10 dir a l = (m, e) := ⟨_, _, rfl⟩
                rw [hp2] at hx2 ⊢
                simp only at hx2 ⊢
                refine GL_v rfl (rv_mv (v := .tuple [.agg x2.cells.toArray, .int .i64 e2].toArray) vw) ?_
                refine GL_v rfl (rv_ext vw rfl) ?_
                refine GL_v rfl (rv_ext vw rfl) ?_
                refine GL_stA (l' := x2.cells) rfl rfl c30 (MsgX.cells_one _) (by rfl) ?_
                refine GL_v rfl (rv_as (v := .int .i64 _) vw) ?_
                refine GL_nil ?_
                show Weak _ _ _ _
                exact weak (.cons .here (.cons .here .nil)) (.cons (.head _) (.cons (.tail _ (.tail _ (.head _))) (.cons (.tail _ (.tail _ (.tail _ (.head _)))) .nil))) ⟨x2, e2, cas4_t hy1 g4 (by rw [hx2]), ⟨rfl, rfl, rfl, rfl, rfl, rfl, trivial⟩, rfl, rfl⟩
              ·
                have g4 : ¬ f1 = 4 := by have q := h5; simpa using q
                refine GC_skip ?_
                show Weak _ _ _ _
                exact weak (.cons .here (.cons .here .nil)) sb ⟨y1, f1, cas4_f hy1 g4, ⟨rfl, rfl, rfl, rfl, rfl, rfl, trivial⟩, rfl, rfl⟩
            ·
              rintro E S T ⟨S1, r1, T1, hS, hT, hM⟩
              refine GC_drop hS (GC_dropT hT ?_)
              clear hS hT
              revert hM
              rintro ⟨y2, f2, hy2, hE2, rfl, rfl⟩
              obtain ⟨E2, rfl⟩ := hE2.ex
              refine GC_seq ?_
              refine GC_seq ?_
              refine GC_region ?_
              refine GL_v rfl (rv_mv (v := .int .i64 _) vw) ?_
              refine GL_v rfl (rv_eql vw vw) ?_
              refine GL_nil ?_
              refine GC_cutM (fun E S T => ∃ (y : MsgX) (f : Int), (y.m, f) = cas4 (cas4 (cas4 (P08 dir a l) (P09 dir a l)) (P10 dir a l)) (P11 dir a l) ∧ At E [(0, .int .i64 dir), (1, .slice A n k), (4, .pointer (some ⟨b4, 0, none⟩)), (6, b8 a), (7, .pointer (some ⟨b7, 0, none⟩)), (8, .int .i64 f)] ∧ S = [blk b7 y.cells 30, blk b4 (MsgX.cells { m := {} }) 30] ∧ T = [msgR y, row 1 (cut A k 1 1) (n - 1) (k - 1) (bytesV l), row 1 A n k (bytesV (a :: l))]) ?_ ?_
              ·
                refine GC_cond rfl (fun h6 => ?_) (fun h6 => ?_)
                ·
                  have g4 : f2 = 4 := by have q := h6; simpa using q
                  refine GC_region ?_
                  refine GL_v rfl (rv_mv (v := .int .i64 _) vw) ?_
                  refine GL_v rfl (rv_mv (v := b8 a) vw) ?_
                  refine GL_v rfl (rv_mv (v := .slice _ _ _) vw) ?_
                  refine GL_v rfl (rv_slL (l := 1) el22 vw vw (fun _ => rfl) (fun _ => hn1)) ?_
                  refine GL_call rfl cb61 (rP11_ct dir a (cut A k 1 1) (n - 1) (k - 1) l (by omega)) rfl .nil sR ?_
                  rintro _ _ _ ⟨x3, rfl, hx3, rfl, rfl⟩
                  simp only [List.cons_append, List.nil_append]
                  obtain ⟨m3, e3, hp3⟩ : ∃ m e, P11 dir a l = (m, e) := ⟨_, _, rfl⟩
                  rw [hp3] at hx3 ⊢
                  simp only at hx3 ⊢
                  refine GL_v rfl (rv_mv (v := .tuple [.agg x3.cells.toArray, .int .i64 e3].toArray) vw) ?_
                  refine GL_v rfl (rv_ext vw rfl) ?_
                  refine GL_v rfl (rv_ext vw rfl) ?_
                  refine GL_stA (l' := x3.cells) rfl rfl c30 (MsgX.cells_one _) (by rfl) ?_
                  refine GL_v rfl (rv_as (v := .int .i64 _) vw) ?_
                  refine GL_nil ?_
                  show Weak _ _ _ _
                  exact weak (.cons .here (.cons .here .nil)) (.cons (.head _) (.cons (.tail _ (.tail _ (.head _))) (.cons (.tail _ (.tail _ (.tail _ (.head _)))) .nil))) ⟨x3, e3, cas4_t hy2 g4 (by rw [hx3]), ⟨rfl, rfl, rfl, rfl, rfl, rfl, trivial⟩, rfl, rfl⟩
                ·
                  have g4 : ¬ f2 = 4 := by have q := h6; simpa using q
                  refine GC_skip ?_
                  show Weak _ _ _ _
                  exact weak (.cons .here (.cons .here .nil)) sb ⟨y2, f2, cas4_f hy2 g4, ⟨rfl, rfl, rfl, rfl, rfl, rfl, trivial⟩, rfl, rfl⟩
              ·
                rintro E S T ⟨S1, r1, T1, hS, hT, hM⟩
                refine GC_drop hS (GC_dropT hT ?_)
                clear hS hT
                revert hM
                rintro ⟨y3, f3, hy3, hE3, rfl, rfl⟩
                obtain ⟨E3, rfl⟩ := hE3.ex
                refine GC_seq ?_
                refine GC_seq ?_
                refine GC_region ?_
                refine GL_v rfl (rv_mv (v := .int .i64 _) vw) ?_
                refine GL_v rfl (rv_eql vw vw) ?_
                refine GL_nil ?_
                refine GC_cutM (fun E S T => ∃ (y : MsgX) (f : Int), (y.m, f) = cas4 (cas4 (cas4 (cas4 (P08 dir a l) (P09 dir a l)) (P10 dir a l)) (P11 dir a l)) (P12 dir a l) ∧ At E [(0, .int .i64 dir), (1, .slice A n k), (4, .pointer (some ⟨b4, 0, none⟩)), (6, b8 a), (7, .pointer (some ⟨b7, 0, none⟩)), (8, .int .i64 f)] ∧ S = [blk b7 y.cells 30, blk b4 (MsgX.cells { m := {} }) 30] ∧ T = [msgR y, row 1 (cut A k 1 1) (n - 1) (k - 1) (bytesV l), row 1 A n k (bytesV (a :: l))]) ?_ ?_
                ·
                  refine GC_cond rfl (fun h7 => ?_) (fun h7 => ?_)
                  ·
                    have g4 : f3 = 4 := by have q := h7; simpa using q
                    refine GC_region ?_
                    refine GL_v rfl (rv_mv (v := .int .i64 _) vw) ?_
                    refine GL_v rfl (rv_mv (v := b8 a) vw) ?_
                    refine GL_v rfl (rv_mv (v := .slice _ _ _) vw) ?_
                    refine GL_v rfl (rv_slL (l := 1) el22 vw vw (fun _ => rfl) (fun _ => hn1)) ?_
                    refine GL_call rfl cb62 (rP12_ct dir a (cut A k 1 1) (n - 1) (k - 1) l (by omega)) rfl .nil sR ?_
                    rintro _ _ _ ⟨x4, rfl, hx4, rfl, rfl⟩
                    simp only [List.cons_append, List.nil_append]
                    obtain ⟨m4, e4, hp4⟩ : ∃ m e, P12 dir a l = (m, e) := ⟨_, _, rfl⟩
                    rw [hp4] at hx4 ⊢
                    simp only at hx4 ⊢
                    refine GL_v rfl (rv_mv (v := .tuple [.agg x4.cells.toArray, .int .i64 e4].toArray) vw) ?_
                    refine GL_v rfl (rv_ext vw rfl) ?_
                    refine GL_v rfl (rv_ext vw rfl) ?_
                    refine GL_stA (l' := x4.cells) rfl rfl c30 (MsgX.cells_one _) (by rfl) ?_
                    refine GL_v rfl (rv_as (v := .int .i64 _) vw) ?_
                    refine GL_nil ?_
                    show Weak _ _ _ _
                    exact weak (.cons .here (.cons .here .nil)) (.cons (.head _) (.cons (.tail _ (.tail _ (.head _))) (.cons (.tail _ (.tail _ (.tail _ (.head _)))) .nil))) ⟨x4, e4, cas4_t hy3 g4 (by rw [hx4]), ⟨rfl, rfl, rfl, rfl, rfl, rfl, trivial⟩, rfl, rfl⟩
                  ·
                    have g4 : ¬ f3 = 4 := by have q := h7; simpa using q
                    refine GC_skip ?_
                    show Weak _ _ _ _
                    exact weak (.cons .here (.cons .here .nil)) sb ⟨y3, f3, cas4_f hy3 g4, ⟨rfl, rfl, rfl, rfl, rfl, rfl, trivial⟩, rfl, rfl⟩
                ·
                  rintro E S T ⟨S1, r1, T1, hS, hT, hM⟩
                  refine GC_drop hS (GC_dropT hT ?_)
                  clear hS hT
                  revert hM
                  rintro ⟨y4, f4, hy4, hE4, rfl, rfl⟩
                  obtain ⟨E4, rfl⟩ := hE4.ex
                  refine GC_seq ?_
                  refine GC_region ?_
                  refine GL_v rfl (rv_ldA (l := y4.cells) a30 vw rfl) ?_
                  refine GL_v rfl (rv_mv (v := .int .i64 _) vw) ?_
                  refine GL_stA (l' := y4.cells) rfl rfl c30 (MsgX.cells_one _) (by rfl) ?_
                  refine GL_v rfl (rv_as (v := .int .i64 _) vw) ?_
                  refine GL_nil ?_
                  refine GC_ret ?_
                  exact finA (T' := [msgR y4]) (.inr rfl) rfl rfl rfl inferInstance a30 rfl .nil sb ⟨y4, by rw [← hp, ← hy4]; rfl, by rw [← hp, ← hy4], rfl, rfl⟩

theorem writeBy_len (lay : List UInt8) (x : MsgD × Int) (m : MsgD) : (writeBy lay x m).1.length ≤ lay.length := by
  unfold writeBy; split
  · exact Nat.le_refl _
  · exact Nat.zero_le _
theorem W13_len (m : MsgD) : (W13 m).1.length ≤ 1000000 := by
  unfold W13; split <;> simp
theorem W08_len (dir : Int) (m : MsgD) (hf : m.few) : (W08 dir m).1.length ≤ 1000000 := Nat.le_trans (writeBy_len _ _ _) (L08_len dir m hf)
theorem W09_len (dir : Int) (m : MsgD) (hf : m.few) : (W09 dir m).1.length ≤ 1000000 := Nat.le_trans (writeBy_len _ _ _) (L09_len dir m hf)
theorem W10_len (dir : Int) (m : MsgD) (hf : m.few) : (W10 dir m).1.length ≤ 1000000 := Nat.le_trans (writeBy_len _ _ _) (L10_len dir m hf)
theorem W11_len (dir : Int) (m : MsgD) (hf : m.few) : (W11 dir m).1.length ≤ 1000000 := Nat.le_trans (writeBy_len _ _ _) (L11_len dir m hf)
theorem W12_len (dir : Int) (m : MsgD) (hf : m.few) : (W12 dir m).1.length ≤ 1000000 := Nat.le_trans (writeBy_len _ _ _) (L12_len dir m hf)
theorem cas_t {a b c : List UInt8 × Int} {m : List UInt8} {f : Int} (hy : (m, f) = a) (g : f ≠ 0) (hb : c = b) : c = cas a b := by subst hy; subst hb; exact (if_pos g).symm
theorem cas_f {a b : List UInt8 × Int} {m : List UInt8} {f : Int} (hy : (m, f) = a) (g : ¬ f ≠ 0) : (m, f) = cas a b := by subst hy; exact (if_neg g).symm
theorem rW14_ct (dir : Int) (x : MsgX) (hf : x.m.few) : Ct PG 20 [.int .i64 dir, .agg x.cells.toArray] [] [msgR x] (BytesOut (W14 dir x.m)) := by
  refine Ct_of Tryz.func20 rfl 79 rfl (Nat.le_of_ble_eq_true rfl) fun w0 M N => ?_
  rw [← rW14_eq]
  obtain ⟨p, hp⟩ : ∃ p, rW14 dir x.m = p := ⟨_, rfl⟩
  rw [hp]
  unfold rW14 at hp
  refine GC_seq ?_
  refine GC_region ?_
  refine GL_boxA (l := x.cells) rfl rfl (fun b3 => ?_)
  refine GL_v rfl (rv_as (v := .slice _ _ _) vw) ?_
  refine GL_v rfl (rv_as (v := .int .i64 _) vw) ?_
  refine GL_nil ?_
  refine GC_seq ?_
  refine GC_region ?_
  refine GL_v rfl (rv_ldA (l := x.cells) a30 vw rfl) ?_
  refine GL_call rfl cb66 (rW13_ct x) rfl .nil sb ?_
  rintro _ _ _ ⟨A0, n0, k0, rfl, rfl, rfl⟩
  simp only [List.cons_append, List.nil_append]
  have hlen13 := W13_len x.m
  obtain ⟨bs13, e13, hw13⟩ : ∃ bs e, W13 x.m = (bs, e) := ⟨_, _, rfl⟩
  rw [hw13] at hlen13 ⊢
  simp only at hlen13 ⊢
  refine GL_v rfl (rv_mv (v := .tuple [.slice A0 n0 k0, .int .i64 e13].toArray) vw) ?_
  refine GL_v rfl (rv_ext vw rfl) ?_
  refine GL_v rfl (rv_ext vw rfl) ?_
  refine GL_v rfl (rv_as (v := .slice _ _ _) vw) ?_
  refine GL_v rfl (rv_as (v := .int .i64 _) vw) ?_
  refine GL_nil ?_
  refine GC_seq ?_
  refine GC_seq ?_
  refine GC_region ?_
  refine GL_v rfl (rv_mv (v := .int .i64 _) vw) ?_
  refine GL_v rfl (rv_neq vw vw) ?_
  refine GL_nil ?_
  refine GC_cutM (fun E S T => ∃ (bs : List UInt8) (A6 : Option Addr) (n6 k6 : Nat) (e : Int), (bs, e) = pre14 dir x.m ∧ bs.length ≤ 1000001 ∧ At E [(0, .int .i64 dir), (3, .pointer (some ⟨b3, 0, none⟩)), (6, .slice A6 n6 k6), (7, .int .i64 e)] ∧ S = [blk b3 x.cells 30] ∧ T = [row 1 A6 n6 k6 (bytesV bs), msgR x]) ?_ ?_
  ·
    refine GC_cond rfl (fun h0 => ?_) (fun h0 => ?_)
    ·
      have g13 : ¬ (W13 x.m).2 = 0 := by rw [hw13]; have q := h0; simpa using q
      refine GC_seq ?_
      refine GC_region ?_
      refine GL_v rfl (rv_mv (v := .int .i64 _) vw) ?_
      refine GL_v rfl (rv_ldA (l := x.cells) a30 vw rfl) ?_
      refine GL_call rfl cb67 (rW08_ct dir x hf) rfl .nil sb ?_
      rintro _ _ _ ⟨Aw0, nw0, kw0, rfl, rfl, rfl⟩
      simp only [List.cons_append, List.nil_append]
      have hl0 := W08_len dir x.m hf
      obtain ⟨bs0, e0, hw0⟩ : ∃ bs e, W08 dir x.m = (bs, e) := ⟨_, _, rfl⟩
      rw [hw0] at hl0 ⊢
      simp only at hl0 ⊢
      refine GL_v rfl (rv_mv (v := .tuple [.slice Aw0 nw0 kw0, .int .i64 e0].toArray) vw) ?_
      refine GL_v rfl (rv_ext vw rfl) ?_
      refine GL_v rfl (rv_ext vw rfl) ?_
      refine GL_v rfl (rv_as (v := .slice _ _ _) vw) ?_
      refine GL_v rfl (rv_as (v := .int .i64 _) vw) ?_
      refine GL_nil ?_
      have hy0 : (bs0, e0) = W08 dir x.m := hw0.symm
      have hlb0 : bs0.length ≤ 1000000 := hl0
      refine GC_seq ?_
      refine GC_seq ?_
      refine GC_region ?_
      refine GL_v rfl (rv_mv (v := .int .i64 _) vw) ?_
      refine GL_v rfl (rv_neq vw vw) ?_
      refine GL_nil ?_
      refine GC_cutM (fun E S T => ∃ (bs : List UInt8) (A6 : Option Addr) (n6 k6 : Nat) (e : Int), (bs, e) = cas (W08 dir x.m) (W09 dir x.m) ∧ bs.length ≤ 1000000 ∧ At E [(0, .int .i64 dir), (3, .pointer (some ⟨b3, 0, none⟩)), (6, .slice A6 n6 k6), (7, .int .i64 e)] ∧ S = [blk b3 x.cells 30] ∧ T = [row 1 A6 n6 k6 (bytesV bs), msgR x]) ?_ ?_
      ·
        refine GC_cond rfl (fun h1 => ?_) (fun h1 => ?_)
        ·
          have g0 : e0 ≠ 0 := by have q := h1; simpa using q
          refine GC_region ?_
          refine GL_v rfl (rv_mv (v := .int .i64 _) vw) ?_
          refine GL_v rfl (rv_ldA (l := x.cells) a30 vw rfl) ?_
          refine GL_call rfl cb68 (rW09_ct dir x hf) rfl .nil sb ?_
          rintro _ _ _ ⟨Aw1, nw1, kw1, rfl, rfl, rfl⟩
          simp only [List.cons_append, List.nil_append]
          have hl1 := W09_len dir x.m hf
          obtain ⟨bs1, e1, hw1⟩ : ∃ bs e, W09 dir x.m = (bs, e) := ⟨_, _, rfl⟩
          rw [hw1] at hl1 ⊢
          simp only at hl1 ⊢
          refine GL_v rfl (rv_mv (v := .tuple [.slice Aw1 nw1 kw1, .int .i64 e1].toArray) vw) ?_
          refine GL_v rfl (rv_ext vw rfl) ?_
          refine GL_v rfl (rv_ext vw rfl) ?_
          refine GL_v rfl (rv_as (v := .slice _ _ _) vw) ?_
          refine GL_v rfl (rv_as (v := .int .i64 _) vw) ?_
          refine GL_nil ?_
          show Weak _ _ _ _
          exact weak (T' := [row 1 Aw1 nw1 kw1 (bytesV bs1), msgR x]) (.cons .here .nil) sb ⟨bs1, Aw1, nw1, kw1, e1, cas_t hy0 g0 rfl, hl1, ⟨rfl, rfl, rfl, rfl, trivial⟩, rfl, rfl⟩
        ·
          have g0 : ¬ e0 ≠ 0 := by have q := h1; simpa using q
          refine GC_skip ?_
          show Weak _ _ _ _
          exact weak (.cons .here .nil) sb ⟨bs0, Aw0, nw0, kw0, e0, cas_f hy0 g0, hlb0, ⟨rfl, rfl, rfl, rfl, trivial⟩, rfl, rfl⟩
      ·
        rintro E S T ⟨S1, r1, T1, hS, hT, hM⟩
        refine GC_drop hS (GC_dropT hT ?_)
        clear hS hT
        revert hM
        rintro ⟨cs1, Ay1, ny1, ky1, f1, hy1, hlb1, hE1, rfl, rfl⟩
        obtain ⟨E1, rfl⟩ := hE1.ex
        refine GC_seq ?_
        refine GC_seq ?_
        refine GC_region ?_
        refine GL_v rfl (rv_mv (v := .int .i64 _) vw) ?_
        refine GL_v rfl (rv_neq vw vw) ?_
        refine GL_nil ?_
        refine GC_cutM (fun E S T => ∃ (bs : List UInt8) (A6 : Option Addr) (n6 k6 : Nat) (e : Int), (bs, e) = cas (cas (W08 dir x.m) (W09 dir x.m)) (W10 dir x.m) ∧ bs.length ≤ 1000000 ∧ At E [(0, .int .i64 dir), (3, .pointer (some ⟨b3, 0, none⟩)), (6, .slice A6 n6 k6), (7, .int .i64 e)] ∧ S = [blk b3 x.cells 30] ∧ T = [row 1 A6 n6 k6 (bytesV bs), msgR x]) ?_ ?_
        ·
          refine GC_cond rfl (fun h2 => ?_) (fun h2 => ?_)
          ·
            have g0 : f1 ≠ 0 := by have q := h2; simpa using q
            refine GC_region ?_
            refine GL_v rfl (rv_mv (v := .int .i64 _) vw) ?_
            refine GL_v rfl (rv_ldA (l := x.cells) a30 vw rfl) ?_
            refine GL_call rfl cb69 (rW10_ct dir x hf) rfl .nil sb ?_
            rintro _ _ _ ⟨Aw2, nw2, kw2, rfl, rfl, rfl⟩
            simp only [List.cons_append, List.nil_append]
            have hl2 := W10_len dir x.m hf
            obtain ⟨bs2, e2, hw2⟩ : ∃ bs e, W10 dir x.m = (bs, e) := ⟨_, _, rfl⟩
            rw [hw2] at hl2 ⊢
            simp only at hl2 ⊢
            refine GL_v rfl (rv_mv (v := .tuple [.slice Aw2 nw2 kw2, .int .i64 e2].toArray) vw) ?_
            refine GL_v rfl (rv_ext vw rfl) ?_
            refine GL_v rfl (rv_ext vw rfl) ?_
            refine GL_v rfl (rv_as (v := .slice _ _ _) vw) ?_
            refine GL_v rfl (rv_as (v := .int .i64 _) vw) ?_
            refine GL_nil ?_
            show Weak _ _ _ _
            exact weak (T' := [row 1 Aw2 nw2 kw2 (bytesV bs2), msgR x]) (.cons .here .nil) sb ⟨bs2, Aw2, nw2, kw2, e2, cas_t hy1 g0 rfl, hl2, ⟨rfl, rfl, rfl, rfl, trivial⟩, rfl, rfl⟩
          ·
            have g0 : ¬ f1 ≠ 0 := by have q := h2; simpa using q
            refine GC_skip ?_
            show Weak _ _ _ _
            exact weak (.cons .here .nil) sb ⟨cs1, Ay1, ny1, ky1, f1, cas_f hy1 g0, hlb1, ⟨rfl, rfl, rfl, rfl, trivial⟩, rfl, rfl⟩
        ·
          rintro E S T ⟨S1, r1, T1, hS, hT, hM⟩
          refine GC_drop hS (GC_dropT hT ?_)
          clear hS hT
          revert hM
          rintro ⟨cs2, Ay2, ny2, ky2, f2, hy2, hlb2, hE2, rfl, rfl⟩
          obtain ⟨E2, rfl⟩ := hE2.ex
          refine GC_seq ?_
          refine GC_seq ?_
          refine GC_region ?_
          refine GL_v rfl (rv_mv (v := .int .i64 _) vw) ?_
          refine GL_v rfl (rv_neq vw vw) ?_
          refine GL_nil ?_
          refine GC_cutM (fun E S T => ∃ (bs : List UInt8) (A6 : Option Addr) (n6 k6 : Nat) (e : Int), (bs, e) = cas (cas (cas (W08 dir x.m) (W09 dir x.m)) (W10 dir x.m)) (W11 dir x.m) ∧ bs.length ≤ 1000000 ∧ At E [(0, .int .i64 dir), (3, .pointer (some ⟨b3, 0, none⟩)), (6, .slice A6 n6 k6), (7, .int .i64 e)] ∧ S = [blk b3 x.cells 30] ∧ T = [row 1 A6 n6 k6 (bytesV bs), msgR x]) ?_ ?_
          ·
            refine GC_cond rfl (fun h3 => ?_) (fun h3 => ?_)
            ·
              have g0 : f2 ≠ 0 := by have q := h3; simpa using q
              refine GC_region ?_
              refine GL_v rfl (rv_mv (v := .int .i64 _) vw) ?_
              refine GL_v rfl (rv_ldA (l := x.cells) a30 vw rfl) ?_
              refine GL_call rfl cb70 (rW11_ct dir x hf) rfl .nil sb ?_
              rintro _ _ _ ⟨Aw3, nw3, kw3, rfl, rfl, rfl⟩
              simp only [List.cons_append, List.nil_append]
              have hl3 := W11_len dir x.m hf
              obtain ⟨bs3, e3, hw3⟩ : ∃ bs e, W11 dir x.m = (bs, e) := ⟨_, _, rfl⟩
              rw [hw3] at hl3 ⊢
              simp only at hl3 ⊢
              refine GL_v rfl (rv_mv (v := .tuple [.slice Aw3 nw3 kw3, .int .i64 e3].toArray) vw) ?_
              refine GL_v rfl (rv_ext vw rfl) ?_
              refine GL_v rfl (rv_ext vw rfl) ?_
              refine GL_v rfl (rv_as (v := .slice _ _ _) vw) ?_
              refine GL_v rfl (rv_as (v := .int .i64 _) vw) ?_
              refine GL_nil ?_
              show Weak _ _ _ _
              exact weak (T' := [row 1 Aw3 nw3 kw3 (bytesV bs3), msgR x]) (.cons .here .nil) sb ⟨bs3, Aw3, nw3, kw3, e3, cas_t hy2 g0 rfl, hl3, ⟨rfl, rfl, rfl, rfl, trivial⟩, rfl, rfl⟩
            ·
              have g0 : ¬ f2 ≠ 0 := by have q := h3; simpa using q
              refine GC_skip ?_
              show Weak _ _ _ _
              exact weak (.cons .here .nil) sb ⟨cs2, Ay2, ny2, ky2, f2, cas_f hy2 g0, hlb2, ⟨rfl, rfl, rfl, rfl, trivial⟩, rfl, rfl⟩
          ·
            rintro E S T ⟨S1, r1, T1, hS, hT, hM⟩
            refine GC_drop hS (GC_dropT hT ?_)
            clear hS hT
            revert hM
            rintro ⟨cs3, Ay3, ny3, ky3, f3, hy3, hlb3, hE3, rfl, rfl⟩
            obtain ⟨E3, rfl⟩ := hE3.ex
            refine GC_seq ?_
            refine GC_seq ?_
            refine GC_region ?_
            refine GL_v rfl (rv_mv (v := .int .i64 _) vw) ?_
            refine GL_v rfl (rv_neq vw vw) ?_
            refine GL_nil ?_
            refine GC_cutM (fun E S T => ∃ (bs : List UInt8) (A6 : Option Addr) (n6 k6 : Nat) (e : Int), (bs, e) = cas (cas (cas (cas (W08 dir x.m) (W09 dir x.m)) (W10 dir x.m)) (W11 dir x.m)) (W12 dir x.m) ∧ bs.length ≤ 1000000 ∧ At E [(0, .int .i64 dir), (3, .pointer (some ⟨b3, 0, none⟩)), (6, .slice A6 n6 k6), (7, .int .i64 e)] ∧ S = [blk b3 x.cells 30] ∧ T = [row 1 A6 n6 k6 (bytesV bs), msgR x]) ?_ ?_
            ·
              refine GC_cond rfl (fun h4 => ?_) (fun h4 => ?_)
              ·
                have g0 : f3 ≠ 0 := by have q := h4; simpa using q
                refine GC_region ?_
                refine GL_v rfl (rv_mv (v := .int .i64 _) vw) ?_
                refine GL_v rfl (rv_ldA (l := x.cells) a30 vw rfl) ?_
                refine GL_call rfl cb71 (rW12_ct dir x hf) rfl .nil sb ?_
                rintro _ _ _ ⟨Aw4, nw4, kw4, rfl, rfl, rfl⟩
                simp only [List.cons_append, List.nil_append]
                have hl4 := W12_len dir x.m hf
                obtain ⟨bs4, e4, hw4⟩ : ∃ bs e, W12 dir x.m = (bs, e) := ⟨_, _, rfl⟩
                rw [hw4] at hl4 ⊢
                simp only at hl4 ⊢
                refine GL_v rfl (rv_mv (v := .tuple [.slice Aw4 nw4 kw4, .int .i64 e4].toArray) vw) ?_
                refine GL_v rfl (rv_ext vw rfl) ?_
                refine GL_v rfl (rv_ext vw rfl) ?_
                refine GL_v rfl (rv_as (v := .slice _ _ _) vw) ?_
                refine GL_v rfl (rv_as (v := .int .i64 _) vw) ?_
                refine GL_nil ?_
                show Weak _ _ _ _
                exact weak (T' := [row 1 Aw4 nw4 kw4 (bytesV bs4), msgR x]) (.cons .here .nil) sb ⟨bs4, Aw4, nw4, kw4, e4, cas_t hy3 g0 rfl, hl4, ⟨rfl, rfl, rfl, rfl, trivial⟩, rfl, rfl⟩
              ·
                have g0 : ¬ f3 ≠ 0 := by have q := h4; simpa using q
                refine GC_skip ?_
                show Weak _ _ _ _
                exact weak (.cons .here .nil) sb ⟨cs3, Ay3, ny3, ky3, f3, cas_f hy3 g0, hlb3, ⟨rfl, rfl, rfl, rfl, trivial⟩, rfl, rfl⟩
            ·
              rintro E S T ⟨S1, r1, T1, hS, hT, hM⟩
              refine GC_drop hS (GC_dropT hT ?_)
              clear hS hT
              revert hM
              rintro ⟨cs4, Ay4, ny4, ky4, f4, hy4, hlb4, hE4, rfl, rfl⟩
              obtain ⟨E4, rfl⟩ := hE4.ex
              refine GC_region ?_
              refine GL_v rfl (rv_fa fa30_0 vw) ?_
              refine GL_row Ay4 fun hr4 => ?_
              have hn4 : cs4.length = ny4 := by have := hr4.1; simpa [bytesV] using this
              rw [x.cells_eq]
              refine GL_v rfl (rv_ld (v := b8 x.m.code) Tryz.underlying5 rfl vw) ?_
              rw [← x.cells_eq]
              refine GL_bs (l := bytesV [x.m.code]) rfl el22 z5 rfl rfl rfl (fun b58 => ?_)
              refine GL_shift (.cons .here .nil) (blk_own (n := 1) (sz := 1) rfl (by decide)) ?_
              refine GL_v rfl (rv_mv (v := .slice _ _ _) vw) ?_
              refine GL_app (m := ny4) rfl el22 rfl rfl pW (by rw [bytesV_length, hn4, Nat.mul_one]) (bytesV_one _) (by omega) (by simp [maxLen]; omega) (fun A7 k7 => ?_)
              rw [← bytesV_append]
              refine GL_shift (.cons .here .nil) own_toRow ?_
              refine GL_v rfl (rv_as (v := .slice _ _ _) vw) ?_
              refine GL_nil ?_
              show Weak _ _ _ _
              exact weak (T' := [row 1 A7 (1 + ny4) k7 (bytesV ([x.m.code] ++ cs4)), msgR x]) (.cons .here .nil) sb ⟨[x.m.code] ++ cs4, A7, _, k7, f4, by unfold pre14; rw [if_neg g13]; unfold body14; rw [← hy4]; rfl, by simp; omega, ⟨rfl, rfl, rfl, rfl, trivial⟩, rfl, rfl⟩
    ·
      have g13 : (W13 x.m).2 = 0 := by rw [hw13]; have q := h0; simpa using q
      refine GC_skip ?_
      show Weak _ _ _ _
      exact weak (.cons .here .nil) sb ⟨bs13, A0, n0, k0, e13, by unfold pre14; rw [if_pos g13, hw13], by omega, ⟨rfl, rfl, rfl, rfl, trivial⟩, rfl, rfl⟩
  ·
    rintro E S T ⟨S1, r1, T1, hS, hT, hM⟩
    refine GC_drop hS (GC_dropT hT ?_)
    clear hS hT
    revert hM
    rintro ⟨bs, A6, n6, k6, e, hpre, hlb, hE, rfl, rfl⟩
    obtain ⟨E6, rfl⟩ := hE.ex
    rw [← hpre] at hp
    simp only at hp
    refine GC_seq ?_
    refine GC_seq ?_
    refine GC_region ?_
    refine GL_v rfl (rv_mv (v := .int .i64 _) vw) ?_
    refine GL_v rfl (rv_neq vw vw) ?_
    refine GL_nil ?_
    refine GC_cond rfl (fun h5 => ?_) (fun h5 => ?_)
    ·
      have g : e ≠ 0 := by have q := h5; simpa using q
      rw [if_pos g] at hp
      obtain rfl := hp
      refine GC_seq ?_
      refine GC_region ?_
      refine GL_v rfl (rv_as (v := .slice _ _ _) vw) ?_
      refine GL_v rfl (rv_as (v := .int .i64 _) vw) ?_
      refine GL_nil ?_
      refine GC_shift .nil (nil_row (sz := 1)) ?_
      refine GC_ret ?_
      exact fin2 (T' := [row 1 none 0 0 []]) (.inr rfl) rfl rfl rfl .nil sb ⟨none, 0, 0, rfl, rfl, rfl⟩
    ·
      have g : ¬ e ≠ 0 := by have q := h5; simpa using q
      rw [if_neg g] at hp
      refine GC_row A6 fun hr6 => ?_
      have hn6 : bs.length = n6 := by have := hr6.1; simpa [bytesV] using this
      refine GC_skip ?_
      refine GC_seq ?_
      refine GC_region ?_
      refine GL_v rfl (rv_mv (v := .int .i64 _) vw) ?_
      refine GL_v rfl (rv_mv (v := .slice _ _ _) vw) ?_
      refine GL_call rfl cb16 (rP14_ct dir A6 n6 k6 bs (by omega)) rfl .nil sb ?_
      rintro _ _ _ ⟨y, rfl, hy, rfl, rfl⟩
      simp only [List.cons_append, List.nil_append]
      obtain ⟨m2, e2, hp2⟩ : ∃ m e, P14 dir bs = (m, e) := ⟨_, _, rfl⟩
      rw [hp2] at hy hp ⊢
      simp only at hy hp ⊢
      refine GL_v rfl (rv_mv (v := .tuple [.agg y.cells.toArray, .int .i64 e2].toArray) vw) ?_
      refine GL_v rfl (rv_ext vw rfl) ?_
      refine GL_v rfl (rv_ext vw rfl) ?_
      refine GL_alloc rfl z30 (fun bb8 => ?_)
      refine GL_stA (l' := y.cells) rfl rfl c30 (MsgX.cells_one _) (by rfl) ?_
      refine GL_v rfl (rv_as (v := .int .i64 _) vw) ?_
      refine GL_nil ?_
      refine GC_seq ?_
      refine GC_region ?_
      refine GL_v rfl (rv_ldA (l := y.cells) a30 vw rfl) ?_
      refine GL_v rfl (rv_ldA (l := x.cells) a30 vw rfl) ?_
      refine GL_callD rfl cb17 (rSame_ct y x) rfl .nil sb ?_
      refine GL_v rfl (rv_as (v := .bool _) vw) ?_
      refine GL_nil ?_
      refine GC_seq ?_
      refine GC_seq ?_
      refine GC_region ?_
      refine GL_v rfl (rv_mv (v := .int .i64 _) vw) ?_
      refine GL_v rfl (rv_neq vw vw) ?_
      refine GL_v rfl (rv_mv (v := .bool _) vw) ?_
      refine GL_g rfl rfl gvf (rv_mv (v := .bool _) vw) ?_
      refine GL_g rfl rfl gvf (rv_not vwg) ?_
      refine GL_v rfl (rv_or vw vwg) ?_
      refine GL_nil ?_
      refine GC_cond rfl (fun h6 => ?_) (fun h6 => ?_)
      ·
        have hh : e2 ≠ 0 ∨ m2 ≠ x.m := by
          have q := h6
          rw [hy] at q; simp at q
          exact q
        rw [if_pos hh] at hp
        obtain rfl := hp
        refine GC_seq ?_
        refine GC_region ?_
        refine GL_v rfl (rv_as (v := .slice _ _ _) vw) ?_
        refine GL_v rfl (rv_as (v := .int .i64 _) vw) ?_
        refine GL_nil ?_
        refine GC_shift .nil (nil_row (sz := 1)) ?_
        refine GC_ret ?_
        exact fin2 (T' := [row 1 none 0 0 []]) (.inr rfl) rfl rfl rfl .nil sb ⟨none, 0, 0, rfl, rfl, rfl⟩
      ·
        have hh : ¬ (e2 ≠ 0 ∨ m2 ≠ x.m) := by
          have q := h6
          rw [hy] at q; simp at q
          rintro (z | z)
          · exact z q.1
          · exact z q.2
        rw [if_neg hh] at hp
        obtain rfl := hp
        refine GC_skip ?_
        refine GC_seq ?_
        refine GC_region ?_
        refine GL_v rfl (rv_mv (v := .slice _ _ _) vw) ?_
        refine GL_v rfl (rv_as (v := .slice _ _ _) vw) ?_
        refine GL_v rfl (rv_as (v := .int .i64 _) vw) ?_
        refine GL_nil ?_
        refine GC_ret ?_
        exact fin2 (.inr rfl) rfl rfl rfl .nil sb ⟨A6, n6, k6, rfl, rfl, rfl⟩
end Go.Bus
