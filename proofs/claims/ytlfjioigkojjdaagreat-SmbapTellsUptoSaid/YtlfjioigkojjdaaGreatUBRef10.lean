/- Part of the proof: Ref10. No condition. -/
import Derived.Test.YtlfjioigkojjdaaGreatUBRef9
import Derived.Test.YtlfjioigkojjdaaGreatUBDiag
set_option linter.unusedVariables false
set_option linter.unusedSimpArgs false
set_option maxRecDepth 100000
set_option maxHeartbeats 8000000
namespace Go.Bus
open Go Go.Proofs
theorem wordTake_two (l : List UInt8) (h : l.length = 2) : ∃ a, wordTake l = [a] := by
 match l, h with
 | [x, y], _ => exact ⟨UInt16.ofNat (256 * x.toNat + y.toNat), by simp [wordTake, takeW]⟩
theorem words1 (c : Cu) : (∃ a, (c.words 1).1 = [a]) ∨ ((c.words 1).1 = [] ∧ (c.words 1).2.e ≠ 0) := by
 have hbad : ∀ n, c.bad n = true → (c.bytes n).2.e ≠ 0 ∧ (c.bytes n).1 = [] := fun n h => by
  unfold Cu.bytes; rw [if_pos h]
  refine ⟨?_, rfl⟩
  show needE c.e false 2 ≠ 0
  unfold needE; split
  · decide
  · rename_i q; intro e; exact q ⟨e, rfl⟩
 unfold Cu.words
 by_cases h : (1 : Int) < 0 ∨ (c.r.length : Int) < 1
 · rw [if_pos h]; exact .inr ⟨rfl, (hbad (-1) (by simp [Cu.bad])).1⟩
 · rw [if_neg h]
   by_cases hb : c.bad (2 * 1) = true
   · obtain ⟨h1, h2⟩ := hbad _ hb
     refine .inr ⟨?_, h1⟩
     simp only [h2]; rfl
   · left
     have h3 : (c.bytes (2 * 1)).1 = c.r.take 2 := by unfold Cu.bytes; rw [if_neg hb]; rfl
     simp only [h3]
     refine wordTake_two _ ?_
     unfold Cu.bad at hb; simp at hb
     rw [List.length_take]; omega
theorem need_stays {c : Cu} {ok : Bool} {j : Int} (h : c.e ≠ 0) : (c.need ok j).e = c.e := by
 show needE c.e ok j = c.e
 unfold needE; rw [if_neg (fun q => h q.1)]
theorem finish_err {m : MsgD} {c : Cu} (h : c.e ≠ 0) : finish (m, c) = ({}, c.e) := by
 have : c.fin.e = c.e := need_stays h
 unfold finish; simp only [this]; rw [if_neg h]
theorem lineS_ref {dir : Int} {m : MsgD} {c c1 d d2 d3 : Cu} {sub v : UInt16} (h0 : sub.toNat ≠ 0) (h1 : c.word = (sub, c1)) (h2 : c1.need (subS sub && (decide (dir = 0) || !decide ((sub.toNat : Int) = 4))) 8 = d) (h3 : d.word = (v, d2)) (h4 : d2.need (mayS dir sub v) 6 = d3) :
 finish ({ m with sub := sub, words := [v] }, d3) = finish (lineS dir m c) := by
 unfold lineS
 simp only [h1, h2]
 rw [if_pos h0]
 have hv : v = (d.words 1).1.headD 0 := congrArg Prod.fst h3.symm
 have hd2 : d2 = (d.words 1).2 := congrArg Prod.snd h3.symm
 rcases words1 d with ⟨a, ha⟩ | ⟨ha, he⟩
 · rw [← h4, hv, hd2, ha]; rfl
 · have e3 : d3.e = (d.words 1).2.e := by rw [← h4, hd2, need_stays he]
   rw [finish_err (by rw [e3]; exact he), finish_err (by rw [need_stays he]; exact he), e3, need_stays he]
theorem or_sub (a b c : Bool) : (a && (b || c)) = (a && (c || b)) := by rw [Bool.or_comm]
theorem rP10_ct (dir : Int) (code : UInt8) (A : Option Addr) (n k : Nat) (b : List UInt8) (hn : n ≤ 35184372088832) : Ct PG 60 [.int .i64 dir, b8 code, .slice A n k] [] [row 1 A n k (bytesV b)] (MsgOut (P10 dir code b)) := by
 refine Ct_of Tryz.func60 rfl 197 rfl (Nat.le_of_ble_eq_true rfl) fun w0 M N => ?_
 refine GC_row A fun hrow => ?_
 have hbl : b.length = n := by have := hrow.1; simpa [bytesV] using this
 obtain ⟨pp, hpp⟩ : ∃ pp, P10 dir code b = pp := ⟨_, rfl⟩
 rw [hpp]
 refine GC_seq ?_
 refine GC_region ?_
 refine GL_alloc rfl z30 (fun b6 => ?_)
 refine GL_v rfl (rv_as (v := .int .i64 _) vw) ?_
 refine GL_nil ?_
 refine GC_seq ?_
 refine GC_seq ?_
 refine GC_region ?_
 refine GL_v rfl (rv_mv (v := .int .i64 _) vw) ?_
 refine GL_v rfl (rv_neq vw vw) ?_
 refine GL_v rfl (rv_mv (v := .bool _) vw) ?_
 refine GL_g rfl rfl gvt (rv_mv (v := .int .i64 _) vw) ?_
 refine GL_g rfl rfl gvt (rv_neq vwg vw) ?_
 refine GL_v rfl (rv_and vw vwg) ?_
 refine GL_nil ?_
 refine GC_cond rfl (fun h0 => ?_) (fun h0 => ?_)
 ·
  have hd : dir ≠ 0 ∧ dir ≠ 1 := by have := h0; simpa using this
  have he : P10 dir code b = ({}, 1) := if_pos hd
  obtain rfl := hpp.symm.trans he
  refine GC_seq ?_
  refine GC_region ?_
  refine GL_v rfl (rv_bld (z' := [.int .u8 0, .int .u8 0, .int .u16 0, .int .u16 0, .int .u16 0, .int .u16 0, .int .u16 0, .int .u16 0, .int .u16 0, .int .u16 0, .int .u16 0, .int .u16 0, .slice none 0 0, .slice none 0 0, .slice none 0 0, .slice none 0 0, .int .u8 0, .int .u8 0, .int .u8 0, .int .u8 0, .int .u8 0, .slice none 0 0]) z30 l30 (fun _ => rfl)) ?_
  refine GL_stA rfl rfl c30 (by simp [Value.oneCell']) (by rfl) ?_
  refine GL_v rfl (rv_as (v := .int .i64 _) vw) ?_
  refine GL_nil ?_
  refine GC_shift .nil (msg0 {}) ?_
  refine GC_ret ?_
  exact finA (T' := [msgR { m := {} }]) (.inr rfl) rfl rfl rfl inferInstance a30 rfl .nil sb ⟨{ m := {} }, rfl, rfl, rfl, rfl⟩
 ·
  have hd : ¬ (dir ≠ 0 ∧ dir ≠ 1) := by have := h0; simpa using this
  simp only [P10, parseBy, if_neg hd] at hpp
  have hcode := code.toNat_lt
  refine GC_skip ?_
  refine GC_seq ?_
  refine GC_seq ?_
  refine GC_region ?_
  refine GL_v rfl (rv_mv (v := .int .u8 _) vw) ?_
  refine GL_v rfl (rv_neq vw vw) ?_
  refine GL_v rfl (rv_mv (v := .bool _) vw) ?_
  refine GL_g rfl rfl gvt (rv_mv (v := .int .u8 _) vw) ?_
  refine GL_g rfl rfl gvt (rv_neq vwg vw) ?_
  refine GL_v rfl (rv_and vw vwg) ?_
  refine GL_v rfl (rv_mv (v := .bool _) vw) ?_
  refine GL_g rfl rfl gvt (rv_mv (v := .int .u8 _) vw) ?_
  refine GL_g rfl rfl gvt (rv_neq vwg vw) ?_
  refine GL_v rfl (rv_and vw vwg) ?_
  refine GL_v rfl (rv_mv (v := .bool _) vw) ?_
  refine GL_g rfl rfl gvt (rv_mv (v := .int .u8 _) vw) ?_
  refine GL_g rfl rfl gvt (rv_neq vwg vw) ?_
  refine GL_v rfl (rv_and vw vwg) ?_
  refine GL_v rfl (rv_mv (v := .bool _) vw) ?_
  refine GL_g rfl rfl gvt (rv_mv (v := .int .u8 _) vw) ?_
  refine GL_g rfl rfl gvt (rv_neq vwg vw) ?_
  refine GL_v rfl (rv_and vw vwg) ?_
  refine GL_nil ?_
  refine GC_cond rfl (fun h1 => ?_) (fun h1 => ?_)
  ·
   have g : ¬ code.toNat = 8 ∧ ¬ (code.toNat = 7 ∨ code.toNat = 11 ∨ code.toNat = 12 ∨ code.toNat = 17) := by have := h1; simp at this; omega
   have hf : form10 dir code = none := by unfold form10; rw [if_neg g.1, if_neg g.2]
   simp only [hf] at hpp
   obtain rfl := hpp
   refine GC_seq ?_
   refine GC_region ?_
   refine GL_v rfl (rv_bld (z' := [.int .u8 0, .int .u8 0, .int .u16 0, .int .u16 0, .int .u16 0, .int .u16 0, .int .u16 0, .int .u16 0, .int .u16 0, .int .u16 0, .int .u16 0, .int .u16 0, .slice none 0 0, .slice none 0 0, .slice none 0 0, .slice none 0 0, .int .u8 0, .int .u8 0, .int .u8 0, .int .u8 0, .int .u8 0, .slice none 0 0]) z30 l30 (fun _ => rfl)) ?_
   refine GL_stA rfl rfl c30 (by simp [Value.oneCell']) (by rfl) ?_
   refine GL_v rfl (rv_as (v := .int .i64 _) vw) ?_
   refine GL_nil ?_
   refine GC_shift .nil (msg0 {}) ?_
   refine GC_ret ?_
   exact finA (T' := [msgR { m := {} }]) (.inr rfl) rfl rfl rfl inferInstance a30 rfl .nil sb ⟨{ m := {} }, rfl, rfl, rfl, rfl⟩
  ·
   have g5 : code.toNat = 8 ∨ code.toNat = 7 ∨ code.toNat = 11 ∨ code.toNat = 12 ∨ code.toNat = 17 := by have := h1; simp at this; omega
   refine GC_skip ?_
   refine GC_seq ?_
   refine GC_region ?_
   refine GL_v rfl (rv_mv (v := .slice _ _ _) vw) ?_
   refine GL_v rfl (rv_bld (z' := [.slice _ _ _, .int .i64 0, .bool false, .int .i64 0]) z113 l113 (fun _ => rfl)) ?_
   refine GL_boxA rfl rfl (fun b43 => ?_)
   refine GL_v rfl (rv_as (v := .pointer _) vw) ?_
   refine GL_nil ?_
   refine GC_seq ?_
   refine GC_region ?_
   refine GL_v rfl (rv_mv (v := b8 code) vw) ?_
   refine GL_v rfl (rv_bld (z' := [.int .u8 _, .int .u8 0, .int .u16 0, .int .u16 0, .int .u16 0, .int .u16 0, .int .u16 0, .int .u16 0, .int .u16 0, .int .u16 0, .int .u16 0, .int .u16 0, .slice none 0 0, .slice none 0 0, .slice none 0 0, .slice none 0 0, .int .u8 0, .int .u8 0, .int .u8 0, .int .u8 0, .int .u8 0, .slice none 0 0]) z30 l30 (fun _ => rfl)) ?_
   refine GL_alloc rfl z30 (fun b9 => ?_)
   refine GL_stA (l' := [b8 code, .int .u8 0, .int .u16 0, .int .u16 0, .int .u16 0, .int .u16 0, .int .u16 0, .int .u16 0, .int .u16 0, .int .u16 0, .int .u16 0, .int .u16 0, .slice none 0 0, .slice none 0 0, .slice none 0 0, .slice none 0 0, .int .u8 0, .int .u8 0, .int .u8 0, .int .u8 0, .int .u8 0, .slice none 0 0]) rfl rfl c30 (by simp [b8, Value.oneCell']) (by rfl) ?_
   refine GL_nil ?_
   refine GC_seq ?_
   refine GC_cutM (fun E S T => ∃ (x : MsgX) (p : Nat) (s : Bool) (e : Int), finish (x.m, ⟨b.drop p, s, e⟩) = pp ∧ (p ≤ n ∧ n ≤ 35184372088832) ∧ At E [(6, .pointer (some ⟨b6, 0, none⟩)), (8, .pointer (some ⟨b43, 0, none⟩)), (9, .pointer (some ⟨b9, 0, none⟩))] ∧ S = [rcub b43 A n k p s e, blk b9 x.cells 30, blk b6 (MsgX.cells { m := {} }) 30] ∧ T = [msgR x, row 1 A n k (bytesV b)]) ?_ ?_
   ·
    refine GC_block ?_
    refine GC_seq ?_
    refine GC_region ?_
    refine GL_v rfl (rv_mv (v := .int .u8 _) vw) ?_
    refine GL_v rfl (rv_eql vw vw) ?_
    refine GL_v rfl (rv_as (v := .bool _) vw) ?_
    refine GL_nil ?_
    refine GC_cond rfl (fun h2 => ?_) (fun h2 => ?_)
    ·
     have g : code.toNat = 8 := by have := h2; simp at this; omega
     have hf : form10 dir code = some (lineS dir) := by unfold form10; rw [if_pos g]
     simp only [hf] at hpp
     refine GC_seq ?_
     refine GC_region ?_
     refine GL_v rfl (rv_mv (v := .pointer _) vw) ?_
     refine GL_call rfl cb114 (rWord_k b43 n k 0 A b false 0 ⟨Nat.zero_le _, hn⟩) rfl pB sR ?_
     rintro _ _ _ ⟨sub, p1, s1, e1, hc1, hp1, rfl, rfl, rfl⟩
     simp only [List.cons_append, List.nil_append]
     have hsub := sub.toNat_lt
     refine GL_v rfl (rv_fa fa30_8 vw) ?_
     refine GL_st (u := w16 sub) rfl rfl c24 rfl ?_
     refine GL_nil ?_
     refine GC_seq ?_
     refine GC_region ?_
     refine GL_v rfl (rv_fa fa30_8 vw) ?_
     refine GL_v rfl (rv_ld (v := w16 sub) Tryz.underlying24 rfl vw) ?_
     refine GL_callD rfl cb120 (rSub_ct sub) rfl .nil .nil ?_
     refine GL_v rfl (rv_as (v := .bool _) vw) ?_
     refine GL_nil ?_
     refine GC_seq ?_
     refine GC_region ?_
     refine GL_v rfl (rv_mv (v := .pointer _) vw) ?_
     refine GL_v rfl (rv_mv (v := .bool _) vw) ?_
     refine GL_v rfl (rv_mv (v := .bool _) vw) ?_
     refine GL_g rfl rfl gvt (rv_fa fa30_8 vw) ?_
     refine GL_g rfl rfl gvt (rv_ld Tryz.underlying24 rfl vwg) ?_
     refine GL_g rfl rfl gvt (rv_neq vwg vw) ?_
     refine GL_g rfl rfl gvt (rv_mv (v := .bool _) vwg) ?_
     refine GL_g rfl rfl gvgf (rv_mv (v := .int .i64 _) vw) ?_
     refine GL_g rfl rfl gvgf (rv_eql vwg vw) ?_
     refine GL_g rfl rfl gvt (rv_or vwg vwg) ?_
     refine GL_v rfl (rv_and vw vwg) ?_
     refine GL_call rfl cb112 (rNeed_k b43 n k p1 A b s1 e1 (subS sub && (!decide ((sub.toNat : Int) = 4) || decide (dir = 0))) 8) rfl pB .nil ?_
     rintro _ _ _ ⟨e2, hc2, rfl, rfl, rfl⟩
     simp only [List.cons_append, List.nil_append]
     rw [or_sub] at hc2
     refine GL_nil ?_
     refine GC_seq ?_
     refine GC_seq ?_
     refine GC_region ?_
     refine GL_v rfl (rv_fa fa30_8 vw) ?_
     refine GL_v rfl (rv_ld Tryz.underlying24 rfl vw) ?_
     refine GL_v rfl (rv_eql vw vw) ?_
     refine GL_nil ?_
     refine GC_cond rfl (fun h3 => ?_) (fun h3 => ?_)
     ·
      have g0 : ¬ sub.toNat ≠ 0 := by have := h3; simp at this; omega
      have hrl : (b.drop p1).length ≤ n := by rw [List.length_drop]; omega
      refine GC_seq ?_
      refine GC_region ?_
      refine GL_v rfl (rv_mv (v := .pointer _) vw) ?_
      refine GL_callD rfl cb121 (rLeft_k b43 n k p1 A b s1 e2 hp1) rfl pB sR ?_
      refine GL_v rfl (rv_as (v := .int .i64 _) vw) ?_
      refine GL_nil ?_
      refine GC_seq ?_
      refine GC_region ?_
      refine GL_v rfl (rv_mv (v := .pointer _) vw) ?_
      refine GL_v rfl (rv_mv (v := .int .i64 _) vw) ?_
      refine GL_v rfl (rv_rem (r := ((b.drop p1).length : Int) % 2) vw vw (fun _ => by decide) (fun _ => Int.tmod_eq_emod_of_nonneg (by omega))) ?_
      refine GL_v rfl (rv_eql vw vw) ?_
      refine GL_v rfl (rv_mv (v := .bool _) vw) ?_
      refine GL_g rfl rfl gvt (rv_mv (v := .int .i64 _) vw) ?_
      refine GL_g rfl rfl gvt (rv_geq vwg vw) ?_
      refine GL_v rfl (rv_and vw vwg) ?_
      refine GL_v rfl (rv_mv (v := .bool _) vw) ?_
      refine GL_g rfl rfl gvt (rv_mv (v := .int .i64 _) vw) ?_
      refine GL_g rfl rfl gvt (rv_leq vwg vw) ?_
      refine GL_v rfl (rv_and vw vwg) ?_
      refine GL_call rfl cb112 (rNeed_k b43 n k p1 A b s1 e2 (evenB (b.drop p1).length 250) 5) rfl pB .nil ?_
      rintro _ _ _ ⟨e4, hc4, rfl, rfl, rfl⟩
      simp only [List.cons_append, List.nil_append]
      refine GL_nil ?_
      refine GC_seq ?_
      refine GC_region ?_
      refine GL_v rfl (rv_mv (v := .pointer _) vw) ?_
      refine GL_v rfl (rv_mv (v := .int .i64 _) vw) ?_
      refine GL_v rfl (rv_quo (r := ((b.drop p1).length : Int) / 2) vw vw (fun _ => by decide) (fun _ => by rw [Int.tdiv_eq_ediv_of_nonneg (by omega)]; exact IntWalk.i64_in _ (by omega))) ?_
      refine GL_call rfl cb118 (rWords_k b43 n k p1 A b s1 e4 (((b.drop p1).length : Int) / 2) hp1) rfl pB sR ?_
      rintro _ _ _ ⟨v, p5, s5, e5, Ax5, nx5, kx5, hc5, hp5, rfl, rfl, rfl⟩
      simp only [List.cons_append, List.nil_append]
      refine GL_shift .nil (msgWords { code := code, sub := sub, words := v } ⟨Ax5, nx5, kx5⟩) ?_
      refine GL_v rfl (rv_fa fa30_12 vw) ?_
      refine GL_st (u := .slice _ _ _) rfl rfl c25 rfl ?_
      refine GL_nil ?_
      refine GC_exit ?_
      show Weak _ _ _ _
      exact weak pB3 sb ⟨{ m := { code := code, sub := sub, words := v }, w := ⟨Ax5, nx5, kx5⟩ }, p5, s5, e5, by rw [← hpp]; rw [show (⟨b, false, 0⟩ : Cu) = ⟨b.drop 0, false, 0⟩ from rfl]; unfold lineS; simp only [hc1, hc2]; rw [if_neg g0]; simp only [hc1, hc2, hc4, hc5], hp5, ⟨rfl, rfl, rfl, trivial⟩, rfl, rfl⟩
     ·
      have g0 : sub.toNat ≠ 0 := by have := h3; simp at this; omega
      refine GC_skip ?_
      refine GC_seq ?_
      refine GC_region ?_
      refine GL_v rfl (rv_mv (v := .pointer _) vw) ?_
      refine GL_call rfl cb114 (rWord_k b43 n k p1 A b s1 e2 hp1) rfl pB sR ?_
      rintro _ _ _ ⟨v, p6, s6, e6, hc6, hp6, rfl, rfl, rfl⟩
      simp only [List.cons_append, List.nil_append]
      refine GL_v rfl (rv_as (v := .int .u16 _) vw) ?_
      refine GL_nil ?_
      refine GC_seq ?_
      refine GC_region ?_
      refine GL_v rfl (rv_mv (v := .pointer _) vw) ?_
      refine GL_v rfl (rv_mv (v := .int .i64 _) vw) ?_
      refine GL_v rfl (rv_fa fa30_8 vw) ?_
      refine GL_v rfl (rv_ld (v := w16 sub) Tryz.underlying24 rfl vw) ?_
      refine GL_v rfl (rv_mv (v := w16 v) vw) ?_
      refine GL_callD rfl cb122 (rMay_ct dir sub v) rfl .nil .nil ?_
      refine GL_call rfl cb112 (rNeed_k b43 n k p6 A b s6 e6 (mayS dir sub v) 6) rfl pB .nil ?_
      rintro _ _ _ ⟨e7, hc7, rfl, rfl, rfl⟩
      simp only [List.cons_append, List.nil_append]
      refine GL_nil ?_
      refine GC_region ?_
      refine GL_v rfl (rv_mv (v := .int .u16 _) vw) ?_
      refine GL_bs (l := wordsV [v]) rfl el25 z24 rfl rfl rfl (fun b115 => ?_)
      refine GL_shift (.cons .here .nil) (blk_own (n := 1) (sz := 1) rfl (by decide)) ?_
      refine GL_shift (.cons .here .nil) own_toRow ?_
      refine GL_v rfl (rv_fa fa30_12 vw) ?_
      refine GL_st (u := .slice _ _ _) rfl rfl c25 rfl ?_
      refine GL_shift .nil (msgWords { code := code, sub := sub, words := [v] } ⟨some ⟨b115, 0, none⟩, 1, 1⟩) ?_
      refine GL_nil ?_
      show Weak _ _ _ _
      exact weak pB3 sb ⟨{ m := { code := code, sub := sub, words := [v] }, w := ⟨some ⟨b115, 0, none⟩, 1, 1⟩ }, p6, s6, e7, by rw [← hpp]; rw [show (⟨b, false, 0⟩ : Cu) = ⟨b.drop 0, false, 0⟩ from rfl]; exact lineS_ref (m := { code := code }) g0 hc1 hc2 hc6 hc7, hp6, ⟨rfl, rfl, rfl, trivial⟩, rfl, rfl⟩
    ·
     have g8 : ¬ code.toNat = 8 := by have := h2; simp at this; omega
     have hf : form10 dir code = some (if dir = 1 then answerS else Prod.mk) := by unfold form10; rw [if_neg g8, if_pos (by omega)]
     simp only [hf] at hpp
     refine GC_seq ?_
     refine GC_region ?_
     refine GL_v rfl (rv_mv (v := .int .i64 _) vw) ?_
     refine GL_v rfl (rv_eql vw vw) ?_
     refine GL_v rfl (rv_as (v := .bool _) vw) ?_
     refine GL_nil ?_
     refine GC_cond rfl (fun h4 => ?_) (fun h4 => ?_)
     ·
      have gd : dir = 0 := by have := h4; simpa using this
      rw [if_neg (by omega : ¬ dir = 1)] at hpp
      refine GC_shift .nil (msg0 { code := code }) ?_
      refine GC_skip ?_
      show Weak _ _ _ _
      exact weak pB3 sb ⟨{ m := { code := code } }, 0, false, 0, hpp, ⟨Nat.zero_le _, hn⟩, ⟨rfl, rfl, rfl, trivial⟩, rfl, rfl⟩
     ·
      have gd : dir = 1 := by have := h4; simp at this; omega
      rw [if_pos gd] at hpp
      refine GC_seq ?_
      refine GC_region ?_
      refine GL_v rfl (rv_mv (v := .int .u8 _) vw) ?_
      refine GL_v rfl (rv_eql vw vw) ?_
      refine GL_v rfl (rv_as (v := .bool _) vw) ?_
      refine GL_nil ?_
      refine GC_cond rfl (fun h5 => ?_) (fun h5 => ?_)
      ·
       have g : code.toNat = 7 := by have := h5; simp at this; omega
       refine GC_region ?_
       refine GL_v rfl (rv_mv (v := .pointer _) vw) ?_
       refine GL_call rfl cb111 (rByte_k b43 n k 0 A b false 0 ⟨Nat.zero_le _, hn⟩) rfl pB sR ?_
       rintro _ _ _ ⟨a, p9, s9, e9, hc9, hp9, rfl, rfl, rfl⟩
       simp only [List.cons_append, List.nil_append]
       refine GL_v rfl (rv_cnv (r := ((UInt16.ofNat a.toNat).toNat : Int)) Tryz.underlying5 Tryz.underlying24 vw (fun _ => wrap16 _)) ?_
       refine GL_v rfl (rv_fa fa30_4 vw) ?_
       refine GL_st (u := w16 (UInt16.ofNat a.toNat)) rfl rfl c24 rfl ?_
       refine GL_shift .nil (msg0 { code := code, value := UInt16.ofNat a.toNat }) ?_
       refine GL_nil ?_
       show Weak _ _ _ _
       exact weak pB3 sb ⟨{ m := { code := code, value := UInt16.ofNat a.toNat } }, p9, s9, e9, by rw [← hpp]; unfold answerS; simp only; rw [if_pos g]; rw [show (⟨b, false, 0⟩ : Cu) = ⟨b.drop 0, false, 0⟩ from rfl]; simp only [hc9], hp9, ⟨rfl, rfl, rfl, trivial⟩, rfl, rfl⟩
      ·
       have g7 : ¬ code.toNat = 7 := by have := h5; simp at this; omega
       refine GC_seq ?_
       refine GC_region ?_
       refine GL_v rfl (rv_mv (v := .int .u8 _) vw) ?_
       refine GL_v rfl (rv_eql vw vw) ?_
       refine GL_v rfl (rv_as (v := .bool _) vw) ?_
       refine GL_nil ?_
       refine GC_cond rfl (fun h6 => ?_) (fun h6 => ?_)
       ·
        have g : code.toNat = 11 := by have := h6; simp at this; omega
        refine GC_seq ?_
        refine GC_region ?_
        refine GL_v rfl (rv_mv (v := .pointer _) vw) ?_
        refine GL_call rfl cb114 (rWord_k b43 n k 0 A b false 0 ⟨Nat.zero_le _, hn⟩) rfl pB sR ?_
        rintro _ _ _ ⟨st, p10, s10, e10, hc10, hp10, rfl, rfl, rfl⟩
        simp only [List.cons_append, List.nil_append]
        refine GL_v rfl (rv_fa fa30_9 vw) ?_
        refine GL_st (u := w16 st) rfl rfl c24 rfl ?_
        refine GL_nil ?_
        refine GC_seq ?_
        refine GC_region ?_
        refine GL_v rfl (rv_mv (v := .pointer _) vw) ?_
        refine GL_v rfl (rv_fa fa30_9 vw) ?_
        refine GL_v rfl (rv_ld Tryz.underlying24 rfl vw) ?_
        refine GL_v rfl (rv_eql vw vw) ?_
        refine GL_v rfl (rv_mv (v := .bool _) vw) ?_
        refine GL_g rfl rfl gvf (rv_fa fa30_9 vw) ?_
        refine GL_g rfl rfl gvf (rv_ld Tryz.underlying24 rfl vwg) ?_
        refine GL_g rfl rfl gvf (rv_eql vwg vw) ?_
        refine GL_v rfl (rv_or vw vwg) ?_
        refine GL_call rfl cb112 (rNeed_k b43 n k p10 A b s10 e10 (decide ((st.toNat : Int) = 0) || decide ((st.toNat : Int) = 65535)) 6) rfl pB .nil ?_
        rintro _ _ _ ⟨e11, hc11, rfl, rfl, rfl⟩
        simp only [List.cons_append, List.nil_append]
        refine GL_nil ?_
        refine GC_region ?_
        refine GL_v rfl (rv_mv (v := .pointer _) vw) ?_
        refine GL_call rfl cb114 (rWord_k b43 n k p10 A b s10 e11 hp10) rfl pB sR ?_
        rintro _ _ _ ⟨ev, p12, s12, e12, hc12, hp12, rfl, rfl, rfl⟩
        simp only [List.cons_append, List.nil_append]
        refine GL_v rfl (rv_fa fa30_10 vw) ?_
        refine GL_st (u := w16 ev) rfl rfl c24 rfl ?_
        refine GL_shift .nil (msg0 { code := code, status := st, events := ev }) ?_
        refine GL_nil ?_
        show Weak _ _ _ _
        exact weak pB3 sb ⟨{ m := { code := code, status := st, events := ev } }, p12, s12, e12, by rw [← hpp]; unfold answerS; simp only; rw [if_neg g7, if_pos g]; rw [show (⟨b, false, 0⟩ : Cu) = ⟨b.drop 0, false, 0⟩ from rfl]; simp only [busyS, hc10, hc11, hc12], hp12, ⟨rfl, rfl, rfl, trivial⟩, rfl, rfl⟩
       ·
        have g11 : ¬ code.toNat = 11 := by have := h6; simp at this; omega
        refine GC_seq ?_
        refine GC_region ?_
        refine GL_v rfl (rv_mv (v := .int .u8 _) vw) ?_
        refine GL_v rfl (rv_eql vw vw) ?_
        refine GL_v rfl (rv_as (v := .bool _) vw) ?_
        refine GL_nil ?_
        refine GC_cond rfl (fun h7 => ?_) (fun h7 => ?_)
        ·
         have g : code.toNat = 12 := by have := h7; simp at this; omega
         refine GC_seq ?_
         refine GC_region ?_
         refine GL_v rfl (rv_mv (v := .pointer _) vw) ?_
         refine GL_call rfl cb111 (rByte_k b43 n k 0 A b false 0 ⟨Nat.zero_le _, hn⟩) rfl pB sR ?_
         rintro _ _ _ ⟨a, p13, s13, e13, hc13, hp13, rfl, rfl, rfl⟩
         simp only [List.cons_append, List.nil_append]
         have ha := a.toNat_lt
         refine GL_v rfl (rv_cnv (r := (a.toNat : Int)) Tryz.underlying5 Tryz.underlying3 vw (fun _ => IntWalk.i64_in _ (by omega))) ?_
         refine GL_v rfl (rv_as (v := .int .i64 _) vw) ?_
         refine GL_nil ?_
         refine GC_seq ?_
         refine GC_region ?_
         refine GL_v rfl (rv_mv (v := .pointer _) vw) ?_
         refine GL_v rfl (rv_mv (v := .int .i64 _) vw) ?_
         refine GL_v rfl (rv_geq vw vw) ?_
         refine GL_v rfl (rv_mv (v := .bool _) vw) ?_
         refine GL_g rfl rfl gvt (rv_mv (v := .int .i64 _) vw) ?_
         refine GL_g rfl rfl gvt (rv_leq vwg vw) ?_
         refine GL_v rfl (rv_and vw vwg) ?_
         refine GL_call rfl cb112 (rNeed_k b43 n k p13 A b s13 e13 (decide ((6 : Int) ≤ a.toNat) && decide ((a.toNat : Int) ≤ 70)) 5) rfl pB .nil ?_
         rintro _ _ _ ⟨e14, hc14, rfl, rfl, rfl⟩
         simp only [List.cons_append, List.nil_append]
         refine GL_nil ?_
         refine GC_seq ?_
         refine GC_region ?_
         refine GL_v rfl (rv_mv (v := .pointer _) vw) ?_
         refine GL_call rfl cb114 (rWord_k b43 n k p13 A b s13 e14 hp13) rfl pB sR ?_
         rintro _ _ _ ⟨st, p15, s15, e15, hc15, hp15, rfl, rfl, rfl⟩
         simp only [List.cons_append, List.nil_append]
         refine GL_v rfl (rv_fa fa30_9 vw) ?_
         refine GL_st (u := w16 st) rfl rfl c24 rfl ?_
         refine GL_nil ?_
         refine GC_seq ?_
         refine GC_region ?_
         refine GL_v rfl (rv_mv (v := .pointer _) vw) ?_
         refine GL_v rfl (rv_fa fa30_9 vw) ?_
         refine GL_v rfl (rv_ld Tryz.underlying24 rfl vw) ?_
         refine GL_v rfl (rv_eql vw vw) ?_
         refine GL_v rfl (rv_mv (v := .bool _) vw) ?_
         refine GL_g rfl rfl gvf (rv_fa fa30_9 vw) ?_
         refine GL_g rfl rfl gvf (rv_ld Tryz.underlying24 rfl vwg) ?_
         refine GL_g rfl rfl gvf (rv_eql vwg vw) ?_
         refine GL_v rfl (rv_or vw vwg) ?_
         refine GL_call rfl cb112 (rNeed_k b43 n k p15 A b s15 e15 (decide ((st.toNat : Int) = 0) || decide ((st.toNat : Int) = 65535)) 6) rfl pB .nil ?_
         rintro _ _ _ ⟨e16, hc16, rfl, rfl, rfl⟩
         simp only [List.cons_append, List.nil_append]
         refine GL_nil ?_
         refine GC_seq ?_
         refine GC_region ?_
         refine GL_v rfl (rv_mv (v := .pointer _) vw) ?_
         refine GL_call rfl cb114 (rWord_k b43 n k p15 A b s15 e16 hp15) rfl pB sR ?_
         rintro _ _ _ ⟨ev, p17, s17, e17, hc17, hp17, rfl, rfl, rfl⟩
         simp only [List.cons_append, List.nil_append]
         refine GL_v rfl (rv_fa fa30_10 vw) ?_
         refine GL_st (u := w16 ev) rfl rfl c24 rfl ?_
         refine GL_nil ?_
         refine GC_seq ?_
         refine GC_region ?_
         refine GL_v rfl (rv_mv (v := .pointer _) vw) ?_
         refine GL_call rfl cb114 (rWord_k b43 n k p17 A b s17 e17 hp17) rfl pB sR ?_
         rintro _ _ _ ⟨ms, p18, s18, e18, hc18, hp18, rfl, rfl, rfl⟩
         simp only [List.cons_append, List.nil_append]
         refine GL_v rfl (rv_fa fa30_11 vw) ?_
         refine GL_st (u := w16 ms) rfl rfl c24 rfl ?_
         refine GL_nil ?_
         refine GC_region ?_
         refine GL_v rfl (rv_mv (v := .pointer _) vw) ?_
         refine GL_v rfl (rv_mv (v := .int .i64 _) vw) ?_
         refine GL_v rfl (rv_sub (r := (a.toNat : Int) - 6) vw vw (fun _ => IntWalk.i64_in _ (by omega))) ?_
         refine GL_call rfl cb113 (rBytes_k b43 n k p18 A b s18 e18 ((a.toNat : Int) - 6) hp18) rfl pB sR ?_
         rintro _ _ _ ⟨v, p19, s19, e19, Ax19, nx19, kx19, hc19, hp19, hnx19, rfl, rfl, rfl⟩
         simp only [List.cons_append, List.nil_append]
         refine GL_shift .nil (msgData { code := code, status := st, events := ev, messages := ms, data := v } ⟨Ax19, nx19, kx19⟩) ?_
         refine GL_v rfl (rv_fa fa30_14 vw) ?_
         refine GL_st (u := .slice _ _ _) rfl rfl c22 rfl ?_
         refine GL_nil ?_
         show Weak _ _ _ _
         exact weak pB3 sb ⟨{ m := { code := code, status := st, events := ev, messages := ms, data := v }, d := ⟨Ax19, nx19, kx19⟩ }, p19, s19, e19, by rw [← hpp]; unfold answerS; simp only; rw [if_neg g7, if_neg g11, if_pos g]; rw [show (⟨b, false, 0⟩ : Cu) = ⟨b.drop 0, false, 0⟩ from rfl]; simp only [busyS, hc13, hc14, hc15, hc16, hc17, hc18, hc19], hp19, ⟨rfl, rfl, rfl, trivial⟩, rfl, rfl⟩
        ·
         have g12 : ¬ code.toNat = 12 := by have := h7; simp at this; omega
         have g : code.toNat = 17 := by omega
         refine GC_seq ?_
         refine GC_region ?_
         refine GL_v rfl (rv_mv (v := .pointer _) vw) ?_
         refine GL_call rfl cb111 (rByte_k b43 n k 0 A b false 0 ⟨Nat.zero_le _, hn⟩) rfl pB sR ?_
         rintro _ _ _ ⟨a, p20, s20, e20, hc20, hp20, rfl, rfl, rfl⟩
         simp only [List.cons_append, List.nil_append]
         have ha := a.toNat_lt
         refine GL_v rfl (rv_cnv (r := (a.toNat : Int)) Tryz.underlying5 Tryz.underlying3 vw (fun _ => IntWalk.i64_in _ (by omega))) ?_
         refine GL_v rfl (rv_as (v := .int .i64 _) vw) ?_
         refine GL_nil ?_
         refine GC_seq ?_
         refine GC_region ?_
         refine GL_v rfl (rv_mv (v := .pointer _) vw) ?_
         refine GL_v rfl (rv_mv (v := .int .i64 _) vw) ?_
         refine GL_v rfl (rv_geq vw vw) ?_
         refine GL_v rfl (rv_mv (v := .bool _) vw) ?_
         refine GL_g rfl rfl gvt (rv_mv (v := .int .i64 _) vw) ?_
         refine GL_g rfl rfl gvt (rv_leq vwg vw) ?_
         refine GL_v rfl (rv_and vw vwg) ?_
         refine GL_call rfl cb112 (rNeed_k b43 n k p20 A b s20 e20 (decide ((1 : Int) ≤ a.toNat) && decide ((a.toNat : Int) ≤ 251)) 5) rfl pB .nil ?_
         rintro _ _ _ ⟨e21, hc21, rfl, rfl, rfl⟩
         simp only [List.cons_append, List.nil_append]
         refine GL_nil ?_
         refine GC_region ?_
         refine GL_v rfl (rv_mv (v := .pointer _) vw) ?_
         refine GL_v rfl (rv_mv (v := .int .i64 _) vw) ?_
         refine GL_call rfl cb113 (rBytes_k b43 n k p20 A b s20 e21 (a.toNat : Int) hp20) rfl pB sR ?_
         rintro _ _ _ ⟨v, p22, s22, e22, Ax22, nx22, kx22, hc22, hp22, hnx22, rfl, rfl, rfl⟩
         simp only [List.cons_append, List.nil_append]
         refine GL_shift .nil (msgData { code := code, data := v } ⟨Ax22, nx22, kx22⟩) ?_
         refine GL_v rfl (rv_fa fa30_14 vw) ?_
         refine GL_st (u := .slice _ _ _) rfl rfl c22 rfl ?_
         refine GL_nil ?_
         show Weak _ _ _ _
         exact weak pB3 sb ⟨{ m := { code := code, data := v }, d := ⟨Ax22, nx22, kx22⟩ }, p22, s22, e22, by rw [← hpp]; unfold answerS; simp only; rw [if_neg g7, if_neg g11, if_neg g12, if_pos g]; rw [show (⟨b, false, 0⟩ : Cu) = ⟨b.drop 0, false, 0⟩ from rfl]; simp only [hc20, hc21, hc22], hp22, ⟨rfl, rfl, rfl, trivial⟩, rfl, rfl⟩
   ·
    rintro E S T ⟨S1, r1, T1, hS, hT, hM⟩
    refine GC_drop hS (GC_dropT hT ?_)
    clear hS hT
    revert hM
    rintro ⟨x, p, s, e, hfin, hp, hE, rfl, rfl⟩
    obtain ⟨E0, rfl⟩ := hE.ex
    refine GC_seq ?_
    refine GC_region ?_
    refine GL_v rfl (rv_mv (v := .pointer _) vw) ?_
    refine GL_call rfl cb117 (rEnd_k b43 n k p A b s e hp) rfl pB sR ?_
    rintro _ _ _ ⟨e23, hc23, rfl, rfl, rfl⟩
    simp only [List.cons_append, List.nil_append]
    refine GL_nil ?_
    refine GC_seq ?_
    refine GC_seq ?_
    refine GC_region ?_
    refine GL_v rfl (rv_mv (v := .pointer _) vw) ?_
    refine GL_v rfl (rv_nil vw) ?_
    refine GL_v rfl (rv_fa fa113_3 vw) ?_
    refine GL_v rfl (rv_ld Tryz.underlying31 rfl vw) ?_
    refine GL_v rfl (rv_neq vw vw) ?_
    refine GL_nil ?_
    refine GC_cond rfl (fun h8 => ?_) (fun h8 => ?_)
    ·
     have he : ¬ e23 = 0 := by have := h8; simpa using this
     rw [finish_no hc23 he] at hfin
     obtain rfl := hfin
     refine GC_seq ?_
     refine GC_draw 7 ([rcub b43 A n k p s e23]) mixed ?_
     refine GA_v (i := 0) rfl rfl rfl (by kernel_rfl) (rv_bld (z' := [.int .u8 0, .int .u8 0, .int .u16 0, .int .u16 0, .int .u16 0, .int .u16 0, .int .u16 0, .int .u16 0, .int .u16 0, .int .u16 0, .int .u16 0, .int .u16 0, .slice none 0 0, .slice none 0 0, .slice none 0 0, .slice none 0 0, .int .u8 0, .int .u8 0, .int .u8 0, .int .u8 0, .int .u8 0, .slice none 0 0]) z30 l30 (fun _ => rfl)) ?_
     refine GA_v (i := 1) rfl rfl rfl (by kernel_rfl) (rv_mv (v := .pointer _) vw) ?_
     refine GA_v (i := 2) rfl rfl rfl (by kernel_rfl) (rv_nil vw) ?_
     refine GA_v (i := 3) rfl rfl rfl (by kernel_rfl) (rv_fa fa113_3 vw) ?_
     refine GA_v (i := 4) rfl rfl rfl (by kernel_rfl) (rv_ld Tryz.underlying31 rfl vw) ?_
     refine GA_one 5 rfl rfl (by kernel_rfl) ?_
     refine GL_stA rfl rfl c30 (by simp [Value.oneCell']) (by rfl) ?_
     refine GL_nil ⟨inferInstance, ?_⟩
     refine GA_v (i := 6) rfl rfl rfl (by kernel_rfl) (rv_as (v := .int .i64 _) vw) ?_
     refine GA_nil (by kernel_rfl) ?_
     refine GC_shift .nil (msg0 {}) ?_
     refine GC_ret ?_
     exact finA (T' := [msgR { m := {} }]) (.inr rfl) rfl rfl rfl inferInstance a30 rfl .nil sb ⟨{ m := {} }, rfl, rfl, rfl, rfl⟩
    ·
     have he : e23 = 0 := by have := h8; simpa using this
     rw [finish_ok hc23 he] at hfin
     obtain rfl := hfin
     refine GC_skip ?_
     refine GC_seq ?_
     refine GC_region ?_
     refine GL_v rfl (rv_ldA (l := x.cells) a30 vw rfl) ?_
     refine GL_stA (l' := x.cells) rfl rfl c30 (MsgX.cells_one _) (by rfl) ?_
     refine GL_v rfl (rv_as (v := .int .i64 _) vw) ?_
     refine GL_nil ?_
     refine GC_ret ?_
     exact finA (T' := [msgR x]) (.inr rfl) rfl rfl rfl inferInstance a30 rfl .nil sb ⟨x, rfl, rfl, rfl, rfl⟩
end Go.Bus
