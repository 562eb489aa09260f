/- Part of the proof: Ref14. No condition. -/
import Derived.Test.YtlfjioigkojjdaaGreatUBRef11
import Derived.Test.YtlfjioigkojjdaaGreatUBPlainb
import Derived.Test.YtlfjioigkojjdaaGreatUBPdu
set_option linter.unusedVariables false
set_option linter.unusedSimpArgs false
set_option maxRecDepth 100000
set_option maxHeartbeats 8000000
namespace Go.Bus
open Go Go.Proofs
theorem rP13_ct (A : Option Addr) (n k : Nat) (b : List UInt8) (hn : n ≤ 35184372088832) : Ct PG 57 [.slice A n k] [] [row 1 A n k (bytesV b)] (MsgOut (P13 b)) := by
 refine Ct_of Tryz.func57 rfl 46 rfl (Nat.le_of_ble_eq_true rfl) fun w0 M N => ?_
 refine GC_row A fun hrow => ?_
 have hbl : b.length = n := by have := hrow.1; simpa [bytesV] using this
 obtain ⟨pp, hpp⟩ : ∃ pp, P13 b = pp := ⟨_, rfl⟩
 rw [hpp]
 refine GC_seq ?_
 refine GC_region ?_
 refine GL_alloc rfl z30 (fun b2 => ?_)
 refine GL_v rfl (rv_as (v := .int .i64 _) vw) ?_
 refine GL_nil ?_
 refine GC_seq ?_
 refine GC_seq ?_
 refine GC_region ?_
 refine GL_v rfl (rv_mv (v := .slice _ _ _) vw) ?_
 refine GL_v rfl (rv_len el22 vw) ?_
 refine GL_v rfl (rv_lss vw vw) ?_
 refine GL_nil ?_
 refine GC_cond rfl (fun h0 => ?_) (fun h0 => ?_)
 ·
  obtain rfl : b = [] := List.eq_nil_of_length_eq_zero (by have := h0; simp at this; omega)
  obtain rfl := hpp
  refine GC_seq ?_
  refine GC_region ?_
  refine GL_v rfl (rv_bld (z' := [.int .u8 0, .int .u8 0, .int .u16 0, .int .u16 0, .int .u16 0, .int .u16 0, .int .u16 0, .int .u16 0, .int .u16 0, .int .u16 0, .int .u16 0, .int .u16 0, .slice none 0 0, .slice none 0 0, .slice none 0 0, .slice none 0 0, .int .u8 0, .int .u8 0, .int .u8 0, .int .u8 0, .int .u8 0, .slice none 0 0]) z30 l30 (fun _ => rfl)) ?_
  refine GL_stA rfl rfl c30 (by simp [Value.oneCell']) (by rfl) ?_
  refine GL_v rfl (rv_as (v := .int .i64 _) vw) ?_
  refine GL_nil ?_
  refine GC_shift .nil (msg0 {}) ?_
  refine GC_ret ?_
  exact finA (T' := [msgR { m := {} }]) (.inr rfl) rfl rfl rfl inferInstance a30 rfl .nil sb ⟨{ m := {} }, rfl, rfl, rfl, rfl⟩
 ·
  obtain ⟨a, l, rfl⟩ : ∃ a l, b = a :: l := by
   cases b with
   | nil => have := h0; simp at this hbl; omega
   | cons a l => exact ⟨a, l, rfl⟩
  have hA : A ≠ none := hrow.2.2.2.2 (by simp at hbl; omega) (by decide)
  have ha := a.toNat_lt
  have hll : l.length + 1 = n := by simpa using hbl
  simp only [P13] at hpp
  refine GC_skip ?_
  refine GC_seq ?_
  refine GC_region ?_
  refine GL_v rfl (rv_mv (v := .slice _ _ _) vw) ?_
  refine GL_v rfl (rv_ix (i := 0) el22 vw vw (fun _ => rfl) (fun _ => by omega) (fun _ => hA)) ?_
  refine GL_v rfl (rv_ldE (v := b8 a) Tryz.underlying5 rfl vw (fun _ => rfl)) ?_
  refine GL_v rfl (rv_cnv (r := (a.toNat : Int)) Tryz.underlying5 Tryz.underlying3 vw (fun _ => IntWalk.i64_in _ (by omega))) ?_
  refine GL_v rfl (rv_sub (r := (a.toNat : Int) - 128) vw vw (fun _ => IntWalk.i64_in _ (by omega))) ?_
  refine GL_v rfl (rv_as (v := .int .i64 _) vw) ?_
  refine GL_nil ?_
  refine GC_seq ?_
  refine GC_seq ?_
  refine GC_region ?_
  refine GL_v rfl (rv_mv (v := .int .i64 _) vw) ?_
  refine GL_v rfl (rv_lss vw vw) ?_
  refine GL_nil ?_
  refine GC_cond rfl (fun h1 => ?_) (fun h1 => ?_)
  ·
   have g : a.toNat < 128 := by have := h1; simp at this; omega
   rw [if_pos (.inl g)] at hpp
   obtain rfl := hpp
   refine GC_seq ?_
   refine GC_region ?_
   refine GL_v rfl (rv_bld (z' := [.int .u8 0, .int .u8 0, .int .u16 0, .int .u16 0, .int .u16 0, .int .u16 0, .int .u16 0, .int .u16 0, .int .u16 0, .int .u16 0, .int .u16 0, .int .u16 0, .slice none 0 0, .slice none 0 0, .slice none 0 0, .slice none 0 0, .int .u8 0, .int .u8 0, .int .u8 0, .int .u8 0, .int .u8 0, .slice none 0 0]) z30 l30 (fun _ => rfl)) ?_
   refine GL_stA rfl rfl c30 (by simp [Value.oneCell']) (by rfl) ?_
   refine GL_v rfl (rv_as (v := .int .i64 _) vw) ?_
   refine GL_nil ?_
   refine GC_shift .nil (msg0 {}) ?_
   refine GC_ret ?_
   exact finA (T' := [msgR { m := {} }]) (.inr rfl) rfl rfl rfl inferInstance a30 rfl .nil sb ⟨{ m := {} }, rfl, rfl, rfl, rfl⟩
  ·
   have g : ¬ a.toNat < 128 := by have := h1; simp at this; omega
   refine GC_skip ?_
   refine GC_seq ?_
   refine GC_region ?_
   refine GL_v rfl (rv_mv (v := .int .i64 _) vw) ?_
   refine GL_v rfl (rv_cnv (r := ((a - 128 : UInt8).toNat : Int)) Tryz.underlying3 Tryz.underlying5 vw (fun _ => sub128 a)) ?_
   refine GL_callD rfl cb108 (rPublic_ct (a - 128)) rfl .nil .nil ?_
   refine GL_v rfl (rv_as (v := .bool _) vw) ?_
   refine GL_nil ?_
   refine GC_seq ?_
   refine GC_seq ?_
   refine GC_region ?_
   refine GL_v rfl (rv_mv (v := .bool _) vw) ?_
   refine GL_v rfl (rv_not vw) ?_
   refine GL_nil ?_
   refine GC_cond rfl (fun h2 => ?_) (fun h2 => ?_)
   ·
    have gp : publicS (a - 128) = false := by have := h2; simpa using this
    rw [if_pos (.inr gp)] at hpp
    obtain rfl := hpp
    refine GC_seq ?_
    refine GC_region ?_
    refine GL_v rfl (rv_bld (z' := [.int .u8 0, .int .u8 0, .int .u16 0, .int .u16 0, .int .u16 0, .int .u16 0, .int .u16 0, .int .u16 0, .int .u16 0, .int .u16 0, .int .u16 0, .int .u16 0, .slice none 0 0, .slice none 0 0, .slice none 0 0, .slice none 0 0, .int .u8 0, .int .u8 0, .int .u8 0, .int .u8 0, .int .u8 0, .slice none 0 0]) z30 l30 (fun _ => rfl)) ?_
    refine GL_stA rfl rfl c30 (by simp [Value.oneCell']) (by rfl) ?_
    refine GL_v rfl (rv_as (v := .int .i64 _) vw) ?_
    refine GL_nil ?_
    refine GC_shift .nil (msg0 {}) ?_
    refine GC_ret ?_
    exact finA (T' := [msgR { m := {} }]) (.inr rfl) rfl rfl rfl inferInstance a30 rfl .nil sb ⟨{ m := {} }, rfl, rfl, rfl, rfl⟩
   ·
    have gp : ¬ publicS (a - 128) = false := by have := h2; simpa using this
    rw [if_neg (fun q => q.elim g gp)] at hpp
    refine GC_skip ?_
    refine GC_seq ?_
    refine GC_seq ?_
    refine GC_region ?_
    refine GL_v rfl (rv_mv (v := .slice _ _ _) vw) ?_
    refine GL_v rfl (rv_len el22 vw) ?_
    refine GL_v rfl (rv_lss vw vw) ?_
    refine GL_nil ?_
    refine GC_cond rfl (fun h3 => ?_) (fun h3 => ?_)
    ·
     obtain rfl : l = [] := List.eq_nil_of_length_eq_zero (by have := h3; simp at this; omega)
     obtain rfl := hpp
     refine GC_seq ?_
     refine GC_region ?_
     refine GL_v rfl (rv_bld (z' := [.int .u8 0, .int .u8 0, .int .u16 0, .int .u16 0, .int .u16 0, .int .u16 0, .int .u16 0, .int .u16 0, .int .u16 0, .int .u16 0, .int .u16 0, .int .u16 0, .slice none 0 0, .slice none 0 0, .slice none 0 0, .slice none 0 0, .int .u8 0, .int .u8 0, .int .u8 0, .int .u8 0, .int .u8 0, .slice none 0 0]) z30 l30 (fun _ => rfl)) ?_
     refine GL_stA rfl rfl c30 (by simp [Value.oneCell']) (by rfl) ?_
     refine GL_v rfl (rv_as (v := .int .i64 _) vw) ?_
     refine GL_nil ?_
     refine GC_shift .nil (msg0 {}) ?_
     refine GC_ret ?_
     exact finA (T' := [msgR { m := {} }]) (.inr rfl) rfl rfl rfl inferInstance a30 rfl .nil sb ⟨{ m := {} }, rfl, rfl, rfl, rfl⟩
    ·
     obtain ⟨f, r, rfl⟩ : ∃ f r, l = f :: r := by
      cases l with
      | nil => have := h3; simp at this hll; omega
      | cons f r => exact ⟨f, r, rfl⟩
     simp only at hpp
     have hrl : r.length + 2 = n := by simpa using hll
     refine GC_skip ?_
     refine GC_seq ?_
     refine GC_region ?_
     refine GL_v rfl (rv_mv (v := .slice _ _ _) vw) ?_
     refine GL_v rfl (rv_ix (i := 1) el22 vw vw (fun _ => rfl) (fun _ => by omega) (fun _ => hA)) ?_
     refine GL_v rfl (rv_ldE (v := b8 f) Tryz.underlying5 rfl vw (fun _ => rfl)) ?_
     refine GL_callD rfl cb109 (rFailure_ct f) rfl .nil .nil ?_
     refine GL_v rfl (rv_as (v := .bool _) vw) ?_
     refine GL_nil ?_
     refine GC_seq ?_
     refine GC_seq ?_
     refine GC_region ?_
     refine GL_v rfl (rv_mv (v := .bool _) vw) ?_
     refine GL_v rfl (rv_not vw) ?_
     refine GL_nil ?_
     refine GC_cond rfl (fun h4 => ?_) (fun h4 => ?_)
     ·
      have gf : failureS f = false := by have := h4; simpa using this
      rw [if_pos gf] at hpp
      obtain rfl := hpp
      refine GC_seq ?_
      refine GC_region ?_
      refine GL_v rfl (rv_bld (z' := [.int .u8 0, .int .u8 0, .int .u16 0, .int .u16 0, .int .u16 0, .int .u16 0, .int .u16 0, .int .u16 0, .int .u16 0, .int .u16 0, .int .u16 0, .int .u16 0, .slice none 0 0, .slice none 0 0, .slice none 0 0, .slice none 0 0, .int .u8 0, .int .u8 0, .int .u8 0, .int .u8 0, .int .u8 0, .slice none 0 0]) z30 l30 (fun _ => rfl)) ?_
      refine GL_stA rfl rfl c30 (by simp [Value.oneCell']) (by rfl) ?_
      refine GL_v rfl (rv_as (v := .int .i64 _) vw) ?_
      refine GL_nil ?_
      refine GC_shift .nil (msg0 {}) ?_
      refine GC_ret ?_
      exact finA (T' := [msgR { m := {} }]) (.inr rfl) rfl rfl rfl inferInstance a30 rfl .nil sb ⟨{ m := {} }, rfl, rfl, rfl, rfl⟩
     ·
      have gf : ¬ failureS f = false := by have := h4; simpa using this
      rw [if_neg gf] at hpp
      refine GC_skip ?_
      refine GC_seq ?_
      refine GC_seq ?_
      refine GC_region ?_
      refine GL_v rfl (rv_mv (v := .slice _ _ _) vw) ?_
      refine GL_v rfl (rv_len el22 vw) ?_
      refine GL_v rfl (rv_gtr vw vw) ?_
      refine GL_nil ?_
      refine GC_cond rfl (fun h5 => ?_) (fun h5 => ?_)
      ·
       have gr : r ≠ [] := fun q => by have := h5; subst q; simp at this hrl; omega
       rw [if_pos gr] at hpp
       obtain rfl := hpp
       refine GC_seq ?_
       refine GC_region ?_
       refine GL_v rfl (rv_bld (z' := [.int .u8 0, .int .u8 0, .int .u16 0, .int .u16 0, .int .u16 0, .int .u16 0, .int .u16 0, .int .u16 0, .int .u16 0, .int .u16 0, .int .u16 0, .int .u16 0, .slice none 0 0, .slice none 0 0, .slice none 0 0, .slice none 0 0, .int .u8 0, .int .u8 0, .int .u8 0, .int .u8 0, .int .u8 0, .slice none 0 0]) z30 l30 (fun _ => rfl)) ?_
       refine GL_stA rfl rfl c30 (by simp [Value.oneCell']) (by rfl) ?_
       refine GL_v rfl (rv_as (v := .int .i64 _) vw) ?_
       refine GL_nil ?_
       refine GC_shift .nil (msg0 {}) ?_
       refine GC_ret ?_
       exact finA (T' := [msgR { m := {} }]) (.inr rfl) rfl rfl rfl inferInstance a30 rfl .nil sb ⟨{ m := {} }, rfl, rfl, rfl, rfl⟩
      ·
       obtain rfl : r = [] := List.eq_nil_of_length_eq_zero (by have := h5; simp at this; omega)
       rw [if_neg (by simp)] at hpp
       obtain rfl := hpp
       refine GC_shift .nil (msg0 { code := a - 128, fail := f }) ?_
       refine GC_skip ?_
       refine GC_seq ?_
       refine GC_region ?_
       refine GL_v rfl (rv_mv (v := .int .i64 _) vw) ?_
       refine GL_v rfl (rv_cnv (r := ((a - 128 : UInt8).toNat : Int)) Tryz.underlying3 Tryz.underlying5 vw (fun _ => sub128 a)) ?_
       refine GL_v rfl (rv_mv (v := .slice _ _ _) vw) ?_
       refine GL_v rfl (rv_ix (i := 1) el22 vw vw (fun _ => rfl) (fun _ => by omega) (fun _ => hA)) ?_
       refine GL_v rfl (rv_ldE (v := b8 f) Tryz.underlying5 rfl vw (fun _ => rfl)) ?_
       refine GL_v rfl (rv_bld (z' := MsgX.cells { m := { code := a - 128, fail := f } }) z30 l30 (fun _ => rfl)) ?_
       refine GL_stA (l' := MsgX.cells { m := { code := a - 128, fail := f } }) rfl rfl c30 (MsgX.cells_one _) (by rfl) ?_
       refine GL_v rfl (rv_as (v := .int .i64 _) vw) ?_
       refine GL_nil ?_
       refine GC_ret ?_
       exact finA (T' := [msgR { m := { code := a - 128, fail := f } }]) (.inr rfl) rfl rfl rfl inferInstance a30 rfl .nil sb ⟨{ m := { code := a - 128, fail := f } }, rfl, rfl, rfl, rfl⟩
def cas4 (a b : MsgD × Int) : MsgD × Int := if a.2 = 4 then b else a
theorem cas4_no {b : MsgD × Int} : cas4 ({}, 4) b = b := rfl
theorem cas4_r {a : MsgD × Int} (h : a.2 = 4 → a = ({}, 4)) : cas4 a ({}, 4) = a := by
 unfold cas4; split
 · rename_i q; rw [h q]
 · rfl
theorem cas4_t {a b c : MsgD × Int} {m : MsgD} {f : Int} (hy : (m, f) = a) (g : f = 4) (hb : c = b) : c = cas4 a b := by subst hy; subst hb; exact (if_pos g).symm
theorem cas4_f {a b : MsgD × Int} {m : MsgD} {f : Int} (hy : (m, f) = a) (g : ¬ f = 4) : (m, f) = cas4 a b := by subst hy; exact (if_neg g).symm
theorem finish_4 {p : MsgD × Cu} (h : (finish p).2 = 4) : finish p = ({}, 4) := by
 unfold finish at h ⊢
 by_cases q : p.2.fin.e = 0
 · rw [if_pos q] at h; simp at h
 · rw [if_neg q] at h ⊢; simp only at h; rw [h]
theorem parseBy_4 {form : Option (MsgD → Cu → MsgD × Cu)} {dir : Int} {c : UInt8} {l : List UInt8} (h : (parseBy form dir c l).2 = 4) : parseBy form dir c l = ({}, 4) := by
 unfold parseBy at h ⊢
 by_cases hd : dir ≠ 0 ∧ dir ≠ 1
 · rw [if_pos hd] at h; exact absurd h (by decide)
 · rw [if_neg hd] at h ⊢
   cases form with
   | none => rfl
   | some f => exact finish_4 h
theorem P11_4 {dir : Int} {c : UInt8} {l : List UInt8} (h : (P11 dir c l).2 = 4) : P11 dir c l = ({}, 4) := by
 unfold P11 at h ⊢
 by_cases hd : dir ≠ 0 ∧ dir ≠ 1
 · rw [if_pos hd] at h; exact absurd h (by decide)
 · rw [if_neg hd] at h ⊢
   cases hr : rulesS dir c with
   | none => rfl
   | some q => rw [hr] at h; exact finish_4 h
theorem P08_4 {dir : Int} {c : UInt8} {l : List UInt8} (h : (P08 dir c l).2 = 4) : P08 dir c l = ({}, 4) := parseBy_4 h
theorem P09_4 {dir : Int} {c : UInt8} {l : List UInt8} (h : (P09 dir c l).2 = 4) : P09 dir c l = ({}, 4) := parseBy_4 h
theorem P10_4 {dir : Int} {c : UInt8} {l : List UInt8} (h : (P10 dir c l).2 = 4) : P10 dir c l = ({}, 4) := parseBy_4 h
theorem parseBy_x {dir : Int} {c : UInt8} {l : List UInt8} (hd : ¬ (dir ≠ 0 ∧ dir ≠ 1)) : parseBy none dir c l = ({}, 4) := by unfold parseBy; rw [if_neg hd]
section
variable {dir : Int} {c : UInt8} (l : List UInt8) (hd : ¬ (dir ≠ 0 ∧ dir ≠ 1))
include hd
theorem P08_x (h : ¬ (c.toNat = 1 ∨ c.toNat = 2 ∨ c.toNat = 5 ∨ c.toNat = 15)) : P08 dir c l = ({}, 4) := by
 have hf : form08 dir c = none := by unfold form08; rw [if_neg (by omega), if_neg (by omega), if_neg (by omega)]
 unfold P08; rw [hf]; exact parseBy_x hd
theorem P09_x (h : ¬ (c.toNat = 3 ∨ c.toNat = 4 ∨ c.toNat = 6 ∨ c.toNat = 16 ∨ c.toNat = 22 ∨ c.toNat = 23 ∨ c.toNat = 24)) : P09 dir c l = ({}, 4) := by
 have hf : form09 dir c = none := by
  unfold form09
  rw [if_neg (by omega), if_neg (by omega), if_neg (by omega), if_neg (by omega), if_neg (by omega), if_neg (by omega), if_neg (by omega), if_neg (by omega)]
 unfold P09; rw [hf]; exact parseBy_x hd
theorem P10_x (h : ¬ (c.toNat = 7 ∨ c.toNat = 8 ∨ c.toNat = 11 ∨ c.toNat = 12 ∨ c.toNat = 17)) : P10 dir c l = ({}, 4) := by
 have hf : form10 dir c = none := by unfold form10; rw [if_neg (by omega), if_neg (by omega)]
 unfold P10; rw [hf]; exact parseBy_x hd
theorem P11_x (h : ¬ (c.toNat = 20 ∨ c.toNat = 21)) : P11 dir c l = ({}, 4) := by
 have hf : rulesS dir c = none := by unfold rulesS; rw [if_neg (by omega), if_neg (by omega), if_neg (by omega)]
 unfold P11; rw [hf, if_neg hd]
theorem P12_x (h : ¬ c.toNat = 43) : P12 dir c l = ({}, 4) := by
 have hf : form12 dir c = none := by unfold form12; rw [if_neg h]
 unfold P12; rw [hf]; exact parseBy_x hd
theorem cas_parse : cas4 (cas4 (cas4 (cas4 (P08 dir c l) (P09 dir c l)) (P10 dir c l)) (P11 dir c l)) (P12 dir c l) = (match codecS c with | none => ({}, 4) | some (p, _) => p dir c l) := by
 rcases codec_cases c with ⟨h, k⟩ | ⟨h, k⟩ | ⟨h, k⟩ | ⟨h, k⟩ | ⟨h, k⟩ | ⟨h, k1, k2, k3, k4, k5⟩ <;> rw [h]
 · rw [P09_x l hd (by omega), P10_x l hd (by omega), P11_x l hd (by omega), P12_x l hd (by omega), cas4_r P08_4, cas4_r P08_4, cas4_r P08_4, cas4_r P08_4]
 · rw [P08_x l hd (by omega), P10_x l hd (by omega), P11_x l hd (by omega), P12_x l hd (by omega), cas4_no, cas4_r P09_4, cas4_r P09_4, cas4_r P09_4]
 · rw [P08_x l hd (by omega), P09_x l hd (by omega), P11_x l hd (by omega), P12_x l hd (by omega), cas4_no, cas4_no, cas4_r P10_4, cas4_r P10_4]
 · rw [P08_x l hd (by omega), P09_x l hd (by omega), P10_x l hd (by omega), P12_x l hd (by omega), cas4_no, cas4_no, cas4_no, cas4_r P11_4]
 · rw [P08_x l hd (by omega), P09_x l hd (by omega), P10_x l hd (by omega), P11_x l hd (by omega), cas4_no, cas4_no, cas4_no, cas4_no]
 · rw [P08_x l hd k1, P09_x l hd k2, P10_x l hd k3, P11_x l hd k4, P12_x l hd k5]; rfl
end
theorem rP14_ct (dir : Int) (A : Option Addr) (n k : Nat) (b : List UInt8) (hn : n ≤ 35184372088832) : Ct PG 16 [.int .i64 dir, .slice A n k] [] [row 1 A n k (bytesV b)] (MsgOut (P14 dir b)) := by
 refine Ct_of Tryz.func16 rfl 87 rfl (Nat.le_of_ble_eq_true rfl) fun w0 M N => ?_
 refine GC_row A fun hrow => ?_
 have hl : b.length = n := by have := hrow.1; simpa [bytesV] using this
 obtain ⟨p, hp⟩ : ∃ p, P14 dir b = p := ⟨_, rfl⟩
 rw [hp]
 refine GC_seq ?_
 refine GC_region ?_
 refine GL_alloc rfl z30 (fun b4 => ?_)
 refine GL_v rfl (rv_as (v := .int .i64 _) vw) ?_
 refine GL_nil ?_
 refine GC_seq ?_
 refine GC_seq ?_
 refine GC_region ?_
 refine GL_v rfl (rv_mv (v := .int .i64 _) vw) ?_
 refine GL_v rfl (rv_neq vw vw) ?_
 refine GL_v rfl (rv_mv (v := .bool _) vw) ?_
 refine GL_g rfl rfl gvt (rv_mv (v := .int .i64 _) vw) ?_
 refine GL_g rfl rfl gvt (rv_neq vwg vw) ?_
 refine GL_v rfl (rv_and vw vwg) ?_
 refine GL_nil ?_
 refine GC_cond rfl (fun h0 => ?_) (fun h0 => ?_)
 ·
  have hd : dir ≠ 0 ∧ dir ≠ 1 := by have := h0; simpa using this
  have he : P14 dir b = ({}, 1) := if_pos hd
  obtain rfl := hp.symm.trans he
  refine GC_seq ?_
  refine GC_region ?_
  refine GL_v rfl (rv_bld (z' := [.int .u8 0, .int .u8 0, .int .u16 0, .int .u16 0, .int .u16 0, .int .u16 0, .int .u16 0, .int .u16 0, .int .u16 0, .int .u16 0, .int .u16 0, .int .u16 0, .slice none 0 0, .slice none 0 0, .slice none 0 0, .slice none 0 0, .int .u8 0, .int .u8 0, .int .u8 0, .int .u8 0, .int .u8 0, .slice none 0 0]) z30 l30 (fun _ => rfl)) ?_
  refine GL_stA rfl rfl c30 (by simp [Value.oneCell']) (by rfl) ?_
  refine GL_v rfl (rv_as (v := .int .i64 _) vw) ?_
  refine GL_nil ?_
  refine GC_shift .nil (msg0 {}) ?_
  refine GC_ret ?_
  exact finA (T' := [msgR { m := {} }]) (.inr rfl) rfl rfl rfl inferInstance a30 rfl .nil sb ⟨{ m := {} }, rfl, rfl, rfl, rfl⟩
 ·
  have hd : ¬ (dir ≠ 0 ∧ dir ≠ 1) := by have := h0; simpa using this
  simp only [P14, if_neg hd] at hp
  refine GC_skip ?_
  refine GC_seq ?_
  refine GC_seq ?_
  refine GC_region ?_
  refine GL_v rfl (rv_mv (v := .slice _ _ _) vw) ?_
  refine GL_v rfl (rv_len el22 vw) ?_
  refine GL_v rfl (rv_eql vw vw) ?_
  refine GL_nil ?_
  refine GC_cond rfl (fun h1 => ?_) (fun h1 => ?_)
  ·
   obtain rfl : b = [] := List.eq_nil_of_length_eq_zero (by have := h1; simp at this; omega)
   obtain rfl := hp
   refine GC_seq ?_
   refine GC_region ?_
   refine GL_v rfl (rv_bld (z' := [.int .u8 0, .int .u8 0, .int .u16 0, .int .u16 0, .int .u16 0, .int .u16 0, .int .u16 0, .int .u16 0, .int .u16 0, .int .u16 0, .int .u16 0, .int .u16 0, .slice none 0 0, .slice none 0 0, .slice none 0 0, .slice none 0 0, .int .u8 0, .int .u8 0, .int .u8 0, .int .u8 0, .int .u8 0, .slice none 0 0]) z30 l30 (fun _ => rfl)) ?_
   refine GL_stA rfl rfl c30 (by simp [Value.oneCell']) (by rfl) ?_
   refine GL_v rfl (rv_as (v := .int .i64 _) vw) ?_
   refine GL_nil ?_
   refine GC_shift .nil (msg0 {}) ?_
   refine GC_ret ?_
   exact finA (T' := [msgR { m := {} }]) (.inr rfl) rfl rfl rfl inferInstance a30 rfl .nil sb ⟨{ m := {} }, rfl, rfl, rfl, rfl⟩
  ·
   obtain ⟨a, l, rfl⟩ : ∃ a l, b = a :: l := by
    cases b with
    | nil => have := h1; simp at this hl; omega
    | cons a l => exact ⟨a, l, rfl⟩
   have hA : A ≠ none := hrow.2.2.2.2 (by simp at hl; omega) (by decide)
   have ha := a.toNat_lt
   simp only at hp
   refine GC_skip ?_
   refine GC_seq ?_
   refine GC_seq ?_
   refine GC_region ?_
   refine GL_v rfl (rv_mv (v := .slice _ _ _) vw) ?_
   refine GL_v rfl (rv_len el22 vw) ?_
   refine GL_v rfl (rv_gtr vw vw) ?_
   refine GL_nil ?_
   refine GC_cond rfl (fun h2 => ?_) (fun h2 => ?_)
   ·
    have hlen : 253 < (a :: l).length := by have := h2; simp at this; omega
    rw [if_pos hlen] at hp
    obtain rfl := hp
    refine GC_seq ?_
    refine GC_region ?_
    refine GL_v rfl (rv_bld (z' := [.int .u8 0, .int .u8 0, .int .u16 0, .int .u16 0, .int .u16 0, .int .u16 0, .int .u16 0, .int .u16 0, .int .u16 0, .int .u16 0, .int .u16 0, .int .u16 0, .slice none 0 0, .slice none 0 0, .slice none 0 0, .slice none 0 0, .int .u8 0, .int .u8 0, .int .u8 0, .int .u8 0, .int .u8 0, .slice none 0 0]) z30 l30 (fun _ => rfl)) ?_
    refine GL_stA rfl rfl c30 (by simp [Value.oneCell']) (by rfl) ?_
    refine GL_v rfl (rv_as (v := .int .i64 _) vw) ?_
    refine GL_nil ?_
    refine GC_shift .nil (msg0 {}) ?_
    refine GC_ret ?_
    exact finA (T' := [msgR { m := {} }]) (.inr rfl) rfl rfl rfl inferInstance a30 rfl .nil sb ⟨{ m := {} }, rfl, rfl, rfl, rfl⟩
   ·
    have hlen : ¬ 253 < (a :: l).length := by have := h2; simp at this; omega
    rw [if_neg hlen] at hp
    refine GC_skip ?_
    refine GC_seq ?_
    refine GC_region ?_
    refine GL_v rfl (rv_mv (v := .slice _ _ _) vw) ?_
    refine GL_v rfl (rv_ix (i := 0) el22 vw vw (fun _ => rfl) (fun _ => by simp at hl; omega) (fun _ => hA)) ?_
    refine GL_v rfl (rv_ldE (v := b8 a) Tryz.underlying5 rfl vw (fun _ => rfl)) ?_
    refine GL_v rfl (rv_as (v := b8 a) vw) ?_
    refine GL_nil ?_
    refine GC_seq ?_
    refine GC_seq ?_
    refine GC_region ?_
    refine GL_v rfl (rv_mv (v := .int .u8 _) vw) ?_
    refine GL_v rfl (rv_geq vw vw) ?_
    refine GL_v rfl (rv_mv (v := .bool _) vw) ?_
    refine GL_g rfl rfl gvt (rv_mv (v := .int .i64 _) vw) ?_
    refine GL_g rfl rfl gvt (rv_eql vwg vw) ?_
    refine GL_v rfl (rv_and vw vwg) ?_
    refine GL_nil ?_
    refine GC_cond rfl (fun h3 => ?_) (fun h3 => ?_)
    ·
     have hc : 128 ≤ a.toNat ∧ dir = 1 := by have := h3; simp at this; omega
     rw [if_pos hc] at hp
     refine GC_seq ?_
     refine GC_region ?_
     refine GL_v rfl (rv_mv (v := .slice _ _ _) vw) ?_
     refine GL_call rfl cb57 (rP13_ct A n k (a :: l) hn) rfl .nil sR ?_
     rintro _ _ _ ⟨x, rfl, hx, rfl, rfl⟩
     simp only [List.cons_append, List.nil_append]
     rw [hp] at hx ⊢
     refine GL_v rfl (rv_ext vw rfl) ?_
     refine GL_v rfl (rv_ext vw rfl) ?_
     refine GL_stA (l' := x.cells) rfl rfl c30 (MsgX.cells_one _) (by rfl) ?_
     refine GL_v rfl (rv_as (v := .int .i64 _) vw) ?_
     refine GL_nil ?_
     refine GC_ret ?_
     exact finA (T' := [msgR x]) (.inr rfl) rfl rfl rfl inferInstance a30 rfl .nil sb ⟨x, rfl, hx, rfl, rfl⟩
    ·
     have hc : ¬ (128 ≤ a.toNat ∧ dir = 1) := by have := h3; simp at this; omega
     rw [if_neg hc] at hp
     replace hp := (cas_parse (c := a) l hd).trans hp
     refine GC_shift .nil (row_cut (l := 1) (h := n) (by simp : row 1 A n k (bytesV (a :: l)) ∈ _) (by simp at hl; omega) (Nat.le_refl _) (by decide)) ?_
     have e2 : ((bytesV (a :: l)).drop (1 * 1)).take ((n - 1) * 1) = bytesV l := by
      simp at hl; simp [bytesV]; rw [List.take_of_length_le (by simp; omega)]
     rw [e2]
     have hn1 : 1 ≤ n := by simp at hl; omega
     refine GC_skip ?_
     refine GC_seq ?_
     refine GC_region ?_
     refine GL_v rfl (rv_mv (v := .int .i64 _) vw) ?_
     refine GL_v rfl (rv_mv (v := b8 a) vw) ?_
     refine GL_v rfl (rv_mv (v := .slice _ _ _) vw) ?_
     refine GL_v rfl (rv_slL (l := 1) el22 vw vw (fun _ => rfl) (fun _ => hn1)) ?_
     refine GL_call rfl cb58 (rP08_ct dir a (cut A k 1 1) (n - 1) (k - 1) l (by omega)) rfl .nil sR ?_
     rintro _ _ _ ⟨x0, rfl, hx0, rfl, rfl⟩
     simp only [List.cons_append, List.nil_append]
     obtain ⟨m0, e0, hp0⟩ : ∃ m e, P08 dir a l = (m, e) := ⟨_, _, rfl⟩
     rw [hp0] at hx0 ⊢
     simp only at hx0 ⊢
     refine GL_v rfl (rv_mv (v := .tuple [.agg x0.cells.toArray, .int .i64 e0].toArray) vw) ?_
     refine GL_v rfl (rv_ext vw rfl) ?_
     refine GL_v rfl (rv_ext vw rfl) ?_
     refine GL_alloc rfl z30 (fun b7 => ?_)
     refine GL_stA (l' := x0.cells) rfl rfl c30 (MsgX.cells_one _) (by rfl) ?_
     refine GL_v rfl (rv_as (v := .int .i64 _) vw) ?_
     refine GL_nil ?_
     have hy0 : (x0.m, e0) = P08 dir a l := by rw [hp0, hx0]
     refine GC_seq ?_
     refine GC_seq ?_
     refine GC_region ?_
     refine GL_v rfl (rv_mv (v := .int .i64 _) vw) ?_
     refine GL_v rfl (rv_eql vw vw) ?_
     refine GL_nil ?_
     refine GC_cutM (fun E S T => ∃ (y : MsgX) (f : Int), (y.m, f) = cas4 (P08 dir a l) (P09 dir a l) ∧ At E [(0, .int .i64 dir), (1, .slice A n k), (4, .pointer (some ⟨b4, 0, none⟩)), (6, b8 a), (7, .pointer (some ⟨b7, 0, none⟩)), (8, .int .i64 f)] ∧ S = [blk b7 y.cells 30, blk b4 (MsgX.cells { m := {} }) 30] ∧ T = [msgR y, row 1 (cut A k 1 1) (n - 1) (k - 1) (bytesV l), row 1 A n k (bytesV (a :: l))]) ?_ ?_
     ·
      refine GC_cond rfl (fun h4 => ?_) (fun h4 => ?_)
      ·
       have g4 : e0 = 4 := by have q := h4; simpa using q
       refine GC_region ?_
       refine GL_v rfl (rv_mv (v := .int .i64 _) vw) ?_
       refine GL_v rfl (rv_mv (v := b8 a) vw) ?_
       refine GL_v rfl (rv_mv (v := .slice _ _ _) vw) ?_
       refine GL_v rfl (rv_slL (l := 1) el22 vw vw (fun _ => rfl) (fun _ => hn1)) ?_
       refine GL_call rfl cb59 (rP09_ct dir a (cut A k 1 1) (n - 1) (k - 1) l (by omega)) rfl .nil sR ?_
       rintro _ _ _ ⟨x1, rfl, hx1, rfl, rfl⟩
       simp only [List.cons_append, List.nil_append]
       obtain ⟨m1, e1, hp1⟩ : ∃ m e, P09 dir a l = (m, e) := ⟨_, _, rfl⟩
       rw [hp1] at hx1 ⊢
       simp only at hx1 ⊢
       refine GL_v rfl (rv_mv (v := .tuple [.agg x1.cells.toArray, .int .i64 e1].toArray) vw) ?_
       refine GL_v rfl (rv_ext vw rfl) ?_
       refine GL_v rfl (rv_ext vw rfl) ?_
       refine GL_stA (l' := x1.cells) rfl rfl c30 (MsgX.cells_one _) (by rfl) ?_
       refine GL_v rfl (rv_as (v := .int .i64 _) vw) ?_
       refine GL_nil ?_
       show Weak _ _ _ _
       exact weak (.cons .here (.cons .here .nil)) (.cons (.head _) (.cons (.tail _ (.tail _ (.head _))) (.cons (.tail _ (.tail _ (.tail _ (.head _)))) .nil))) ⟨x1, e1, cas4_t hy0 g4 (by rw [hx1]), ⟨rfl, rfl, rfl, rfl, rfl, rfl, trivial⟩, rfl, rfl⟩
      ·
       have g4 : ¬ e0 = 4 := by have q := h4; simpa using q
       refine GC_skip ?_
       show Weak _ _ _ _
       exact weak (.cons .here (.cons .here .nil)) sb ⟨x0, e0, cas4_f hy0 g4, ⟨rfl, rfl, rfl, rfl, rfl, rfl, trivial⟩, rfl, rfl⟩
     ·
      rintro E S T ⟨S1, r1, T1, hS, hT, hM⟩
      refine GC_drop hS (GC_dropT hT ?_)
      clear hS hT
      revert hM
      rintro ⟨y1, f1, hy1, hE1, rfl, rfl⟩
      obtain ⟨E1, rfl⟩ := hE1.ex
      refine GC_seq ?_
      refine GC_seq ?_
      refine GC_region ?_
      refine GL_v rfl (rv_mv (v := .int .i64 _) vw) ?_
      refine GL_v rfl (rv_eql vw vw) ?_
      refine GL_nil ?_
      refine GC_cutM (fun E S T => ∃ (y : MsgX) (f : Int), (y.m, f) = cas4 (cas4 (P08 dir a l) (P09 dir a l)) (P10 dir a l) ∧ At E [(0, .int .i64 dir), (1, .slice A n k), (4, .pointer (some ⟨b4, 0, none⟩)), (6, b8 a), (7, .pointer (some ⟨b7, 0, none⟩)), (8, .int .i64 f)] ∧ S = [blk b7 y.cells 30, blk b4 (MsgX.cells { m := {} }) 30] ∧ T = [msgR y, row 1 (cut A k 1 1) (n - 1) (k - 1) (bytesV l), row 1 A n k (bytesV (a :: l))]) ?_ ?_
      ·
       refine GC_cond rfl (fun h5 => ?_) (fun h5 => ?_)
       ·
        have g4 : f1 = 4 := by have q := h5; simpa using q
        refine GC_region ?_
        refine GL_v rfl (rv_mv (v := .int .i64 _) vw) ?_
        refine GL_v rfl (rv_mv (v := b8 a) vw) ?_
        refine GL_v rfl (rv_mv (v := .slice _ _ _) vw) ?_
        refine GL_v rfl (rv_slL (l := 1) el22 vw vw (fun _ => rfl) (fun _ => hn1)) ?_
        refine GL_call rfl cb60 (rP10_ct dir a (cut A k 1 1) (n - 1) (k - 1) l (by omega)) rfl .nil sR ?_
        rintro _ _ _ ⟨x2, rfl, hx2, rfl, rfl⟩
        simp only [List.cons_append, List.nil_append]
        obtain ⟨m2, e2, hp2⟩ : ∃ m e, P10 dir a l = (m, e) := ⟨_, _, rfl⟩
        rw [hp2] at hx2 ⊢
        simp only at hx2 ⊢
        refine GL_v rfl (rv_mv (v := .tuple [.agg x2.cells.toArray, .int .i64 e2].toArray) vw) ?_
        refine GL_v rfl (rv_ext vw rfl) ?_
        refine GL_v rfl (rv_ext vw rfl) ?_
        refine GL_stA (l' := x2.cells) rfl rfl c30 (MsgX.cells_one _) (by rfl) ?_
        refine GL_v rfl (rv_as (v := .int .i64 _) vw) ?_
        refine GL_nil ?_
        show Weak _ _ _ _
        exact weak (.cons .here (.cons .here .nil)) (.cons (.head _) (.cons (.tail _ (.tail _ (.head _))) (.cons (.tail _ (.tail _ (.tail _ (.head _)))) .nil))) ⟨x2, e2, cas4_t hy1 g4 (by rw [hx2]), ⟨rfl, rfl, rfl, rfl, rfl, rfl, trivial⟩, rfl, rfl⟩
       ·
        have g4 : ¬ f1 = 4 := by have q := h5; simpa using q
        refine GC_skip ?_
        show Weak _ _ _ _
        exact weak (.cons .here (.cons .here .nil)) sb ⟨y1, f1, cas4_f hy1 g4, ⟨rfl, rfl, rfl, rfl, rfl, rfl, trivial⟩, rfl, rfl⟩
      ·
       rintro E S T ⟨S1, r1, T1, hS, hT, hM⟩
       refine GC_drop hS (GC_dropT hT ?_)
       clear hS hT
       revert hM
       rintro ⟨y2, f2, hy2, hE2, rfl, rfl⟩
       obtain ⟨E2, rfl⟩ := hE2.ex
       refine GC_seq ?_
       refine GC_seq ?_
       refine GC_region ?_
       refine GL_v rfl (rv_mv (v := .int .i64 _) vw) ?_
       refine GL_v rfl (rv_eql vw vw) ?_
       refine GL_nil ?_
       refine GC_cutM (fun E S T => ∃ (y : MsgX) (f : Int), (y.m, f) = cas4 (cas4 (cas4 (P08 dir a l) (P09 dir a l)) (P10 dir a l)) (P11 dir a l) ∧ At E [(0, .int .i64 dir), (1, .slice A n k), (4, .pointer (some ⟨b4, 0, none⟩)), (6, b8 a), (7, .pointer (some ⟨b7, 0, none⟩)), (8, .int .i64 f)] ∧ S = [blk b7 y.cells 30, blk b4 (MsgX.cells { m := {} }) 30] ∧ T = [msgR y, row 1 (cut A k 1 1) (n - 1) (k - 1) (bytesV l), row 1 A n k (bytesV (a :: l))]) ?_ ?_
       ·
        refine GC_cond rfl (fun h6 => ?_) (fun h6 => ?_)
        ·
         have g4 : f2 = 4 := by have q := h6; simpa using q
         refine GC_region ?_
         refine GL_v rfl (rv_mv (v := .int .i64 _) vw) ?_
         refine GL_v rfl (rv_mv (v := b8 a) vw) ?_
         refine GL_v rfl (rv_mv (v := .slice _ _ _) vw) ?_
         refine GL_v rfl (rv_slL (l := 1) el22 vw vw (fun _ => rfl) (fun _ => hn1)) ?_
         refine GL_call rfl cb61 (rP11_ct dir a (cut A k 1 1) (n - 1) (k - 1) l (by omega)) rfl .nil sR ?_
         rintro _ _ _ ⟨x3, rfl, hx3, rfl, rfl⟩
         simp only [List.cons_append, List.nil_append]
         obtain ⟨m3, e3, hp3⟩ : ∃ m e, P11 dir a l = (m, e) := ⟨_, _, rfl⟩
         rw [hp3] at hx3 ⊢
         simp only at hx3 ⊢
         refine GL_v rfl (rv_mv (v := .tuple [.agg x3.cells.toArray, .int .i64 e3].toArray) vw) ?_
         refine GL_v rfl (rv_ext vw rfl) ?_
         refine GL_v rfl (rv_ext vw rfl) ?_
         refine GL_stA (l' := x3.cells) rfl rfl c30 (MsgX.cells_one _) (by rfl) ?_
         refine GL_v rfl (rv_as (v := .int .i64 _) vw) ?_
         refine GL_nil ?_
         show Weak _ _ _ _
         exact weak (.cons .here (.cons .here .nil)) (.cons (.head _) (.cons (.tail _ (.tail _ (.head _))) (.cons (.tail _ (.tail _ (.tail _ (.head _)))) .nil))) ⟨x3, e3, cas4_t hy2 g4 (by rw [hx3]), ⟨rfl, rfl, rfl, rfl, rfl, rfl, trivial⟩, rfl, rfl⟩
        ·
         have g4 : ¬ f2 = 4 := by have q := h6; simpa using q
         refine GC_skip ?_
         show Weak _ _ _ _
         exact weak (.cons .here (.cons .here .nil)) sb ⟨y2, f2, cas4_f hy2 g4, ⟨rfl, rfl, rfl, rfl, rfl, rfl, trivial⟩, rfl, rfl⟩
       ·
        rintro E S T ⟨S1, r1, T1, hS, hT, hM⟩
        refine GC_drop hS (GC_dropT hT ?_)
        clear hS hT
        revert hM
        rintro ⟨y3, f3, hy3, hE3, rfl, rfl⟩
        obtain ⟨E3, rfl⟩ := hE3.ex
        refine GC_seq ?_
        refine GC_seq ?_
        refine GC_region ?_
        refine GL_v rfl (rv_mv (v := .int .i64 _) vw) ?_
        refine GL_v rfl (rv_eql vw vw) ?_
        refine GL_nil ?_
        refine GC_cutM (fun E S T => ∃ (y : MsgX) (f : Int), (y.m, f) = cas4 (cas4 (cas4 (cas4 (P08 dir a l) (P09 dir a l)) (P10 dir a l)) (P11 dir a l)) (P12 dir a l) ∧ At E [(0, .int .i64 dir), (1, .slice A n k), (4, .pointer (some ⟨b4, 0, none⟩)), (6, b8 a), (7, .pointer (some ⟨b7, 0, none⟩)), (8, .int .i64 f)] ∧ S = [blk b7 y.cells 30, blk b4 (MsgX.cells { m := {} }) 30] ∧ T = [msgR y, row 1 (cut A k 1 1) (n - 1) (k - 1) (bytesV l), row 1 A n k (bytesV (a :: l))]) ?_ ?_
        ·
         refine GC_cond rfl (fun h7 => ?_) (fun h7 => ?_)
         ·
          have g4 : f3 = 4 := by have q := h7; simpa using q
          refine GC_region ?_
          refine GL_v rfl (rv_mv (v := .int .i64 _) vw) ?_
          refine GL_v rfl (rv_mv (v := b8 a) vw) ?_
          refine GL_v rfl (rv_mv (v := .slice _ _ _) vw) ?_
          refine GL_v rfl (rv_slL (l := 1) el22 vw vw (fun _ => rfl) (fun _ => hn1)) ?_
          refine GL_call rfl cb62 (rP12_ct dir a (cut A k 1 1) (n - 1) (k - 1) l (by omega)) rfl .nil sR ?_
          rintro _ _ _ ⟨x4, rfl, hx4, rfl, rfl⟩
          simp only [List.cons_append, List.nil_append]
          obtain ⟨m4, e4, hp4⟩ : ∃ m e, P12 dir a l = (m, e) := ⟨_, _, rfl⟩
          rw [hp4] at hx4 ⊢
          simp only at hx4 ⊢
          refine GL_v rfl (rv_mv (v := .tuple [.agg x4.cells.toArray, .int .i64 e4].toArray) vw) ?_
          refine GL_v rfl (rv_ext vw rfl) ?_
          refine GL_v rfl (rv_ext vw rfl) ?_
          refine GL_stA (l' := x4.cells) rfl rfl c30 (MsgX.cells_one _) (by rfl) ?_
          refine GL_v rfl (rv_as (v := .int .i64 _) vw) ?_
          refine GL_nil ?_
          show Weak _ _ _ _
          exact weak (.cons .here (.cons .here .nil)) (.cons (.head _) (.cons (.tail _ (.tail _ (.head _))) (.cons (.tail _ (.tail _ (.tail _ (.head _)))) .nil))) ⟨x4, e4, cas4_t hy3 g4 (by rw [hx4]), ⟨rfl, rfl, rfl, rfl, rfl, rfl, trivial⟩, rfl, rfl⟩
         ·
          have g4 : ¬ f3 = 4 := by have q := h7; simpa using q
          refine GC_skip ?_
          show Weak _ _ _ _
          exact weak (.cons .here (.cons .here .nil)) sb ⟨y3, f3, cas4_f hy3 g4, ⟨rfl, rfl, rfl, rfl, rfl, rfl, trivial⟩, rfl, rfl⟩
        ·
         rintro E S T ⟨S1, r1, T1, hS, hT, hM⟩
         refine GC_drop hS (GC_dropT hT ?_)
         clear hS hT
         revert hM
         rintro ⟨y4, f4, hy4, hE4, rfl, rfl⟩
         obtain ⟨E4, rfl⟩ := hE4.ex
         refine GC_seq ?_
         refine GC_region ?_
         refine GL_v rfl (rv_ldA (l := y4.cells) a30 vw rfl) ?_
         refine GL_v rfl (rv_mv (v := .int .i64 _) vw) ?_
         refine GL_stA (l' := y4.cells) rfl rfl c30 (MsgX.cells_one _) (by rfl) ?_
         refine GL_v rfl (rv_as (v := .int .i64 _) vw) ?_
         refine GL_nil ?_
         refine GC_ret ?_
         exact finA (T' := [msgR y4]) (.inr rfl) rfl rfl rfl inferInstance a30 rfl .nil sb ⟨y4, by rw [← hp, ← hy4]; rfl, by rw [← hp, ← hy4], rfl, rfl⟩
end Go.Bus
