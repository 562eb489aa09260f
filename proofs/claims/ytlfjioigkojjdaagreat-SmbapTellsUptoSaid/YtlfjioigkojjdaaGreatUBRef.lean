/- Part of the proof: Ref. No condition. -/
import Derived.Test.YtlfjioigkojjdaaGreatUBSpec
import Derived.Test.YtlfjioigkojjdaaGreatUBSame
set_option linter.unusedVariables false
set_option linter.unusedSimpArgs false
set_option maxRecDepth 100000
set_option maxHeartbeats 4000000
namespace Go.Bus
open Go Go.Proofs
theorem P13_ct (A : Option Addr) (n k : Nat) (b : List UInt8) : Ct PG 55 [.slice A n k] [] [row 1 A n k (bytesV b)] (MsgOut (P13 b)) := by
 refine Ct_of Tryz.func55 rfl 49 rfl (Nat.le_of_ble_eq_true rfl) fun w0 M N => ?_
 refine GC_row A fun hrow => ?_
 have hl : b.length = n := by have := hrow.1; simpa [bytesV] using this
 obtain ⟨p, hp⟩ : ∃ p, P13 b = p := ⟨_, rfl⟩
 rw [hp]
 refine GC_seq ?_
 refine GC_region ?_
 refine GL_alloc rfl z30 (fun b2 => ?_)
 refine GL_v rfl (rv_as (v := .int .i64 _) vw) ?_
 refine GL_nil ?_
 refine GC_seq ?_
 refine GC_block ?_
 refine GC_seq ?_
 refine GC_region ?_
 refine GL_v rfl (rv_mv (v := .slice _ _ _) vw) ?_
 refine GL_v rfl (rv_len el22 vw) ?_
 refine GL_v rfl (rv_eql vw vw) ?_
 refine GL_v rfl (rv_as (v := .bool _) vw) ?_
 refine GL_nil ?_
 refine GC_cond rfl (fun h0 => ?_) (fun h0 => ?_)
 ·
  obtain rfl : b = [] := List.eq_nil_of_length_eq_zero (by simp at h0; omega)
  obtain rfl := hp
  refine GC_seq ?_
  refine GC_region ?_
  refine GL_v rfl (rv_bld (z' := [.int .u8 0, .int .u8 0, .int .u16 0, .int .u16 0, .int .u16 0, .int .u16 0, .int .u16 0, .int .u16 0, .int .u16 0, .int .u16 0, .int .u16 0, .int .u16 0, .slice none 0 0, .slice none 0 0, .slice none 0 0, .slice none 0 0, .int .u8 0, .int .u8 0, .int .u8 0, .int .u8 0, .int .u8 0, .slice none 0 0]) z30 l30 (fun _ => rfl)) ?_
  refine GL_stA rfl rfl c30 (by simp [Value.oneCell']) (by rfl) ?_
  refine GL_v rfl (rv_as (v := .int .i64 _) vw) ?_
  refine GL_nil ?_
  refine GC_shift .nil (msg0 {}) ?_
  refine GC_ret ?_
  exact finA (T' := [msgR { m := {} }]) (.inr rfl) rfl rfl rfl inferInstance a30 rfl .nil sb ⟨{ m := {} }, rfl, rfl, rfl, rfl⟩
 ·
  obtain ⟨a, l, rfl⟩ : ∃ a l, b = a :: l := by
   cases b with
   | nil => simp at hl h0; omega
   | cons a l => exact ⟨a, l, rfl⟩
  have hA : A ≠ none := hrow.2.2.2.2 (by simp at hl; omega) (by decide)
  have ha := a.toNat_lt
  simp only [List.length_cons] at hl
  refine GC_seq ?_
  refine GC_region ?_
  refine GL_v rfl (rv_mv (v := .slice _ _ _) vw) ?_
  refine GL_v rfl (rv_ix (i := 0) el22 vw vw (fun _ => rfl) (fun _ => by omega) (fun _ => hA)) ?_
  refine GL_v rfl (rv_ldE (v := b8 a) Tryz.underlying5 rfl vw (fun _ => rfl)) ?_
  refine GL_v rfl (rv_lss vw vw) ?_
  refine GL_v rfl (rv_mv (v := .bool _) vw) ?_
  refine GL_g rfl rfl gvf (rv_mv (v := .slice _ _ _) vw) ?_
  refine GL_g rfl rfl gvf (rv_ix (i := 0) el22 vwg vw (fun _ => rfl) (fun _ => by omega) (fun _ => hA)) ?_
  refine GL_g rfl rfl gvf (rv_ldE (v := b8 a) Tryz.underlying5 rfl vwg (fun _ => rfl)) ?_
  refine GL_g rfl rfl gvf (rv_sub (r := ((a - 128 : UInt8).toNat : Int)) vwg vw (fun _ => sub128 a)) ?_
  refine GL_callG rfl rfl gvf cb95 (fun _ => Public_ct (a - 128)) (fun q => congrArg (· :: []) (vwg q)) (fun _ => .nil) ?_
  refine GL_g rfl rfl gvf (rv_not vwg) ?_
  refine GL_v rfl (rv_or vw vwg) ?_
  refine GL_v rfl (rv_as (v := .bool _) vw) ?_
  refine GL_nil ?_
  refine GC_cond rfl (fun h1 => ?_) (fun h1 => ?_)
  ·
   have hh : a.toNat < 128 ∨ publicS (a - 128) = false := by
    simp only [Bool.or_eq_true, decide_eq_true_eq, Bool.not_eq_true'] at h1; rcases h1 with h1 | h1
    · left; omega
    · exact .inr h1
   have he : P13 (a :: l) = ({}, 4) := if_pos hh
   obtain rfl := hp.symm.trans he
   refine GC_seq ?_
   refine GC_region ?_
   refine GL_v rfl (rv_bld (z' := [.int .u8 0, .int .u8 0, .int .u16 0, .int .u16 0, .int .u16 0, .int .u16 0, .int .u16 0, .int .u16 0, .int .u16 0, .int .u16 0, .int .u16 0, .int .u16 0, .slice none 0 0, .slice none 0 0, .slice none 0 0, .slice none 0 0, .int .u8 0, .int .u8 0, .int .u8 0, .int .u8 0, .int .u8 0, .slice none 0 0]) z30 l30 (fun _ => rfl)) ?_
   refine GL_stA rfl rfl c30 (by simp [Value.oneCell']) (by rfl) ?_
   refine GL_v rfl (rv_as (v := .int .i64 _) vw) ?_
   refine GL_nil ?_
   refine GC_shift .nil (msg0 {}) ?_
   refine GC_ret ?_
   exact finA (T' := [msgR { m := {} }]) (.inr rfl) rfl rfl rfl inferInstance a30 rfl .nil sb ⟨{ m := {} }, rfl, rfl, rfl, rfl⟩
  ·
   have hh : ¬ (a.toNat < 128 ∨ publicS (a - 128) = false) := by
    simp only [Bool.or_eq_false_iff, decide_eq_false_iff_not, Bool.not_eq_false'] at h1
    rintro (h | h)
    · omega
    · rw [h1.2] at h; cases h
   simp only [P13, if_neg hh] at hp
   refine GC_seq ?_
   refine GC_region ?_
   refine GL_v rfl (rv_mv (v := .slice _ _ _) vw) ?_
   refine GL_v rfl (rv_len el22 vw) ?_
   refine GL_v rfl (rv_eql vw vw) ?_
   refine GL_v rfl (rv_as (v := .bool _) vw) ?_
   refine GL_nil ?_
   refine GC_cond rfl (fun h2 => ?_) (fun h2 => ?_)
   ·
    obtain rfl : l = [] := List.eq_nil_of_length_eq_zero (by simp at h2; omega)
    obtain rfl := hp
    refine GC_seq ?_
    refine GC_region ?_
    refine GL_v rfl (rv_bld (z' := [.int .u8 0, .int .u8 0, .int .u16 0, .int .u16 0, .int .u16 0, .int .u16 0, .int .u16 0, .int .u16 0, .int .u16 0, .int .u16 0, .int .u16 0, .int .u16 0, .slice none 0 0, .slice none 0 0, .slice none 0 0, .slice none 0 0, .int .u8 0, .int .u8 0, .int .u8 0, .int .u8 0, .int .u8 0, .slice none 0 0]) z30 l30 (fun _ => rfl)) ?_
    refine GL_stA rfl rfl c30 (by simp [Value.oneCell']) (by rfl) ?_
    refine GL_v rfl (rv_as (v := .int .i64 _) vw) ?_
    refine GL_nil ?_
    refine GC_shift .nil (msg0 {}) ?_
    refine GC_ret ?_
    exact finA (T' := [msgR { m := {} }]) (.inr rfl) rfl rfl rfl inferInstance a30 rfl .nil sb ⟨{ m := {} }, rfl, rfl, rfl, rfl⟩
   ·
    obtain ⟨f, r, rfl⟩ : ∃ f r, l = f :: r := by
     cases l with
     | nil => simp at hl h2; omega
     | cons a l => exact ⟨a, l, rfl⟩
    simp only [List.length_cons] at hl
    simp only at hp
    refine GC_seq ?_
    refine GC_region ?_
    refine GL_v rfl (rv_mv (v := .slice _ _ _) vw) ?_
    refine GL_v rfl (rv_ix (i := 1) el22 vw vw (fun _ => rfl) (fun _ => by omega) (fun _ => hA)) ?_
    refine GL_v rfl (rv_ldE (v := b8 f) Tryz.underlying5 rfl vw (fun _ => rfl)) ?_
    refine GL_callD rfl cb96 (Failure_ct f) rfl .nil .nil ?_
    refine GL_v rfl (rv_not vw) ?_
    refine GL_v rfl (rv_as (v := .bool _) vw) ?_
    refine GL_nil ?_
    refine GC_cond rfl (fun h3 => ?_) (fun h3 => ?_)
    ·
     have hh : failureS f = false := by simpa using h3
     rw [if_pos hh] at hp
     obtain rfl := hp
     refine GC_seq ?_
     refine GC_region ?_
     refine GL_v rfl (rv_bld (z' := [.int .u8 0, .int .u8 0, .int .u16 0, .int .u16 0, .int .u16 0, .int .u16 0, .int .u16 0, .int .u16 0, .int .u16 0, .int .u16 0, .int .u16 0, .int .u16 0, .slice none 0 0, .slice none 0 0, .slice none 0 0, .slice none 0 0, .int .u8 0, .int .u8 0, .int .u8 0, .int .u8 0, .int .u8 0, .slice none 0 0]) z30 l30 (fun _ => rfl)) ?_
     refine GL_stA rfl rfl c30 (by simp [Value.oneCell']) (by rfl) ?_
     refine GL_v rfl (rv_as (v := .int .i64 _) vw) ?_
     refine GL_nil ?_
     refine GC_shift .nil (msg0 {}) ?_
     refine GC_ret ?_
     exact finA (T' := [msgR { m := {} }]) (.inr rfl) rfl rfl rfl inferInstance a30 rfl .nil sb ⟨{ m := {} }, rfl, rfl, rfl, rfl⟩
    ·
     have hh3 : ¬ failureS f = false := by simpa using h3
     rw [if_neg hh3] at hp
     refine GC_seq ?_
     refine GC_region ?_
     refine GL_v rfl (rv_mv (v := .slice _ _ _) vw) ?_
     refine GL_v rfl (rv_len el22 vw) ?_
     refine GL_v rfl (rv_gtr vw vw) ?_
     refine GL_v rfl (rv_as (v := .bool _) vw) ?_
     refine GL_nil ?_
     refine GC_cond rfl (fun h4 => ?_) (fun h4 => ?_)
     ·
      have hr : r ≠ [] := by rintro rfl; simp at h4 hl; omega
      rw [if_pos hr] at hp
      obtain rfl := hp
      refine GC_seq ?_
      refine GC_region ?_
      refine GL_v rfl (rv_bld (z' := [.int .u8 0, .int .u8 0, .int .u16 0, .int .u16 0, .int .u16 0, .int .u16 0, .int .u16 0, .int .u16 0, .int .u16 0, .int .u16 0, .int .u16 0, .int .u16 0, .slice none 0 0, .slice none 0 0, .slice none 0 0, .slice none 0 0, .int .u8 0, .int .u8 0, .int .u8 0, .int .u8 0, .int .u8 0, .slice none 0 0]) z30 l30 (fun _ => rfl)) ?_
      refine GL_stA rfl rfl c30 (by simp [Value.oneCell']) (by rfl) ?_
      refine GL_v rfl (rv_as (v := .int .i64 _) vw) ?_
      refine GL_nil ?_
      refine GC_shift .nil (msg0 {}) ?_
      refine GC_ret ?_
      exact finA (T' := [msgR { m := {} }]) (.inr rfl) rfl rfl rfl inferInstance a30 rfl .nil sb ⟨{ m := {} }, rfl, rfl, rfl, rfl⟩
     ·
      obtain rfl : r = [] := List.eq_nil_of_length_eq_zero (by simp at h4; omega)
      rw [if_neg (by simp)] at hp
      obtain rfl := hp
      refine GC_skip ?_
      refine GC_seq ?_
      refine GC_draw 9 ([row 1 A n k (bytesV [a, f])]) mixed ?_
      refine GA_v (i := 0) rfl rfl rfl (by kernel_rfl) (rv_mv (v := .slice _ _ _) vw) ?_
      refine GA_v (i := 1) rfl rfl rfl (by kernel_rfl) (rv_ix (i := 0) el22 vw vw (fun _ => rfl) (fun _ => by omega) (fun _ => hA)) ?_
      refine GA_v (i := 2) rfl rfl rfl (by kernel_rfl) (rv_ldE (v := b8 a) Tryz.underlying5 rfl vw (fun _ => rfl)) ?_
      refine GA_v (i := 3) rfl rfl rfl (by kernel_rfl) (rv_sub (r := ((a - 128 : UInt8).toNat : Int)) vw vw (fun _ => sub128 a)) ?_
      refine GA_v (i := 4) rfl rfl rfl (by kernel_rfl) (rv_mv (v := .slice _ _ _) vw) ?_
      refine GA_v (i := 5) rfl rfl rfl (by kernel_rfl) (rv_ix (i := 1) el22 vw vw (fun _ => rfl) (fun _ => by omega) (fun _ => hA)) ?_
      refine GA_v (i := 6) rfl rfl rfl (by kernel_rfl) (rv_ldE (v := b8 f) Tryz.underlying5 rfl vw (fun _ => rfl)) ?_
      refine GA_v (i := 7) rfl rfl rfl (by kernel_rfl) (rv_bld (z' := [b8 (a - 128), b8 f]) z108 l108 (fun _ => rfl)) ?_
      refine GA_one 8 rfl rfl (by kernel_rfl) ?_
      refine GL_callD rfl cb97 (of_ct (a - 128) f) rfl .nil .nil ?_
      refine GL_nil ⟨inferInstance, ?_⟩
      refine GA_free (by kernel_rfl) ?_
      refine GA_last 9 rfl (by kernel_rfl) ?_
      refine GL_stA (l' := MsgX.cells { m := { code := a - 128, fail := f } }) rfl rfl c30 (MsgX.cells_one _) (by rfl) ?_
      refine GL_nil ?_
      refine GA_w (i := 10) rfl rfl rfl (by kernel_rfl) (rv_as (v := .int .i64 _) vw) ?_
      refine GA_nil (by kernel_rfl) ?_
      refine GC_shift .nil (msg0 { code := a - 128, fail := f }) ?_
      refine GC_ret ?_
      exact finA (T' := [msgR { m := { code := a - 128, fail := f } }]) (.inr rfl) rfl rfl rfl inferInstance a30 rfl .nil sb ⟨{ m := { code := a - 128, fail := f } }, rfl, rfl, rfl, rfl⟩
end Go.Bus
