/- Part of the proof: FileP. No condition. -/
import Derived.Test.YtlfjioigkojjdaaGreatUBFull
set_option linter.unusedVariables false
set_option linter.unusedSimpArgs false
set_option maxRecDepth 100000
set_option maxHeartbeats 4000000
namespace Go.Bus
open Go Go.Proofs
def PartsOut (Bm Bk Bs : Nat) (code : UInt8) (p : List RecD × Cu) (S' T' : List Res) : Prop := ∃ l hs r s e A n k Ao ko sum, p = (l, ⟨r, s, e⟩) ∧ hs.length = l.length ∧ l.length ≤ 255 ∧ n ≤ 35184372088832 ∧ S' = [blk Bm (mrc code Ao l.length ko) 30, own 76 4 Ao l.length ko (recsV l hs), cub Bk A n k s e, blk Bs [.int .i64 sum] 3] ∧ T' = [bun (hs.length = l.length) (recRows l hs), row 1 A n k (bytesV r)]
theorem P11_ct (dir : Int) (code : UInt8) (A : Option Addr) (n k : Nat) (b : List UInt8) (hn : n ≤ 35184372088832) : Ct PG 104 [.int .i64 dir, b8 code, .slice A n k] [] [row 1 A n k (bytesV b)] (MsgOut (P11 dir code b)) := by
 refine Ct_ofM Tryz.func104 rfl 77 rfl (Nat.le_of_ble_eq_true rfl) fun w0 M N QQ hQ1 hQ2 => ?_
 obtain ⟨p, hp⟩ : ∃ p, P11 dir code b = p := ⟨_, rfl⟩
 rw [hp] at hQ1 hQ2
 refine GX_seq (fun e a w _ h => hQ1 e a w h) ?_
 refine GC_region ?_
 refine GL_alloc rfl z30 (fun b6 => ?_)
 refine GL_v rfl (rv_as (v := .int .i64 _) vw) ?_
 refine GL_nil ?_
 refine GX_seq (fun e a w _ h => hQ1 e a w h) ?_
 refine GC_seq ?_
 refine GC_region ?_
 refine GL_v rfl (rv_mv (v := .int .i64 _) vw) ?_
 refine GL_v rfl (rv_neq vw vw) ?_
 refine GL_v rfl (rv_mv (v := .bool _) vw) ?_
 refine GL_g rfl rfl gvt (rv_mv (v := .int .i64 _) vw) ?_
 refine GL_g rfl rfl gvt (rv_neq vwg vw) ?_
 refine GL_v rfl (rv_and vw vwg) ?_
 refine GL_nil ?_
 refine GC_cond rfl (fun h0 => ?_) (fun h0 => ?_)
 ·
  have hd : dir ≠ 0 ∧ dir ≠ 1 := by have := h0; simpa using this
  have he : P11 dir code b = ({}, 1) := if_pos hd
  obtain rfl := hp.symm.trans he
  refine GC_seq ?_
  refine GC_region ?_
  refine GL_v rfl (rv_bld (z' := [.int .u8 0, .int .u8 0, .int .u16 0, .int .u16 0, .int .u16 0, .int .u16 0, .int .u16 0, .int .u16 0, .int .u16 0, .int .u16 0, .int .u16 0, .int .u16 0, .slice none 0 0, .slice none 0 0, .slice none 0 0, .slice none 0 0, .int .u8 0, .int .u8 0, .int .u8 0, .int .u8 0, .int .u8 0, .slice none 0 0]) z30 l30 (fun _ => rfl)) ?_
  refine GL_stA rfl rfl c30 (by simp [Value.oneCell']) (by rfl) ?_
  refine GL_v rfl (rv_as (v := .int .i64 _) vw) ?_
  refine GL_nil ?_
  refine GC_shift .nil (msg0 {}) ?_
  refine GC_ret ?_
  exact finA (T' := [msgR { m := {} }]) (.inr rfl) rfl rfl rfl inferInstance a30 rfl .nil sb ⟨{ m := {} }, rfl, rfl, rfl, rfl⟩
 ·
  have hd : ¬ (dir ≠ 0 ∧ dir ≠ 1) := by have := h0; simpa using this
  simp only [P11, if_neg hd] at hp
  refine GC_skip ?_
  refine GX_seq (fun e a w _ h => hQ1 e a w h) ?_
  refine GC_region ?_
  refine GL_v rfl (rv_mv (v := .int .i64 _) vw) ?_
  refine GL_v rfl (rv_mv (v := b8 code) vw) ?_
  refine GL_call rfl cb167 (rules_ct dir code) rfl .nil .nil ?_
  rintro _ _ _ ⟨rfl, fm, fo, Bs, bb, rfl, ho1, ho2, rfl, hno, hyes⟩
  simp only [List.cons_append, List.nil_append]
  refine GL_v rfl (rv_mv (v := .tuple [.agg [fm, fo].toArray, .bool bb].toArray) vw) ?_
  refine GL_v rfl (rv_ext vw rfl) ?_
  refine GL_v rfl (rv_ext vw rfl) ?_
  refine GL_alloc rfl z160 (fun bb8 => ?_)
  refine GL_stA (l' := [fm, fo]) rfl rfl c160 (by intro u hu; simp at hu; rcases hu with rfl | rfl; exact ho1; exact ho2) (by rfl) ?_
  refine GL_v rfl (rv_as (v := .bool _) vw) ?_
  refine GL_nil ?_
  refine GX_seq (fun e a w _ h => hQ1 e a w h) ?_
  refine GC_seq ?_
  refine GC_region ?_
  refine GL_v rfl (rv_mv (v := .bool _) vw) ?_
  refine GL_v rfl (rv_not vw) ?_
  refine GL_nil ?_
  refine GC_cond rfl (fun h1 => ?_) (fun h1 => ?_)
  ·
   have hb : bb = false := by have := h1; simpa using this
   rw [hno hb] at hp
   obtain rfl := hp
   refine GC_seq ?_
   refine GC_region ?_
   refine GL_v rfl (rv_bld (z' := [.int .u8 0, .int .u8 0, .int .u16 0, .int .u16 0, .int .u16 0, .int .u16 0, .int .u16 0, .int .u16 0, .int .u16 0, .int .u16 0, .int .u16 0, .int .u16 0, .slice none 0 0, .slice none 0 0, .slice none 0 0, .slice none 0 0, .int .u8 0, .int .u8 0, .int .u8 0, .int .u8 0, .int .u8 0, .slice none 0 0]) z30 l30 (fun _ => rfl)) ?_
   refine GL_stA rfl rfl c30 (by simp [Value.oneCell']) (by rfl) ?_
   refine GL_v rfl (rv_as (v := .int .i64 _) vw) ?_
   refine GL_nil ?_
   refine GC_shift .nil (msg0 {}) ?_
   refine GC_ret ?_
   exact finA (T' := [msgR { m := {} }]) (.inr rfl) rfl rfl rfl inferInstance a30 rfl .nil sb ⟨{ m := {} }, rfl, rfl, rfl, rfl⟩
  ·
   have hb : bb = true := by have := h1; simpa using this
   obtain ⟨may, one, hru, ⟨f1, rfl, hcb1, hct1⟩, ⟨f2, caps, rfl, hcb2, hct2⟩⟩ := hyes hb
   have hok := rulesS_ok hru
   rw [hru] at hp
   simp only at hp
   refine GC_skip ?_
   refine GX_seq (fun e a w _ h => hQ1 e a w h) ?_
   refine GC_region ?_
   refine GL_v rfl (rv_mv (v := .slice _ _ _) vw) ?_
   refine GL_call rfl cb72 (New_k A n _ b hn) rfl .nil sR ?_
   rintro _ _ _ ⟨B, A1, n1, k1, hn1, rfl, rfl, rfl⟩
   simp only [List.cons_append, List.nil_append]
   refine GL_v rfl (rv_as (v := .pointer _) vw) ?_
   refine GL_nil ?_
   refine GX_seq (fun e a w _ h => hQ1 e a w h) ?_
   refine GC_region ?_
   refine GL_v rfl (rv_mv (v := .pointer _) vw) ?_
   refine GL_call rfl cb74 (Byte_k B n1 k1 A1 b false 0 hn1) rfl pB sR ?_
   rintro _ _ _ ⟨q, r2, s2, e2, A2, n2, k2, hc2, hn2, rfl, rfl, rfl⟩
   simp only [List.cons_append, List.nil_append]
   have hq := q.toNat_lt
   refine GL_v rfl (rv_cnv (r := (q.toNat : Int)) Tryz.underlying5 Tryz.underlying3 vw (fun _ => IntWalk.i64_in _ (by omega))) ?_
   refine GL_v rfl (rv_as (v := .int .i64 _) vw) ?_
   refine GL_nil ?_
   refine GX_seq (fun e a w _ h => hQ1 e a w h) ?_
   refine GC_region ?_
   refine GL_v rfl (rv_mv (v := .pointer _) vw) ?_
   refine GL_v rfl (rv_fa fa160_0 vw) ?_
   refine GL_v rfl (rv_ld (v := .func (.func f1) [].toArray [].toArray) Tryz.underlying157 rfl vw) ?_
   refine GL_v rfl (rv_mv (v := .int .i64 _) vw) ?_
   refine GL_callCD rfl rfl hcb1 rfl (hct1 q.toNat (by omega)) .nil .nil ?_
   refine GL_call rfl cb133 (Need_k B n2 k2 A2 r2 s2 e2 (may q.toNat) 5) rfl pB .nil ?_
   rintro _ _ _ ⟨e3, hc3, rfl, rfl, rfl⟩
   simp only [List.cons_append, List.nil_append]
   refine GL_nil ?_
   refine GX_seq (fun e a w _ h => hQ1 e a w h) ?_
   refine GC_region ?_
   refine GL_v rfl (rv_mv (v := .pointer _) vw) ?_
   refine GL_v rfl (rv_mv (v := .int .i64 _) vw) ?_
   refine GL_call rfl cb75 (Bytes_k B n2 k2 A2 r2 s2 e3 q.toNat hn2) rfl pB sR ?_
   rintro _ _ _ ⟨v, r4, s4, e4, A4, n4, k4, Ax4, nx4, kx4, hc4, hn4, hnx4, rfl, rfl, rfl⟩
   simp only [List.cons_append, List.nil_append]
   have hvl : v.length ≤ 255 := by
    have h1 : v = (Cu.bytes ⟨r2, s2, e3⟩ q.toNat).1 := by rw [hc4]
    rw [h1]; unfold Cu.bytes; split
    · simp
    · simp; omega
   refine GL_call rfl cb72 (New_k Ax4 nx4 _ v hnx4) rfl .nil sR ?_
   rintro _ _ _ ⟨Bq, A5, n5, k5, hn5, rfl, rfl, rfl⟩
   simp only [List.cons_append, List.nil_append]
   refine GL_v rfl (rv_as (v := .pointer _) vw) ?_
   refine GL_nil ?_
   refine GX_seq (fun e a w _ h => hQ1 e a w h) ?_
   refine GC_region ?_
   refine GL_v rfl (rv_mv (v := b8 code) vw) ?_
   refine GL_v rfl (rv_bld (z' := [.int .u8 _, .int .u8 0, .int .u16 0, .int .u16 0, .int .u16 0, .int .u16 0, .int .u16 0, .int .u16 0, .int .u16 0, .int .u16 0, .int .u16 0, .int .u16 0, .slice none 0 0, .slice none 0 0, .slice none 0 0, .slice none 0 0, .int .u8 0, .int .u8 0, .int .u8 0, .int .u8 0, .int .u8 0, .slice none 0 0]) z30 l30 (fun _ => rfl)) ?_
   refine GL_alloc rfl z30 (fun b13 => ?_)
   refine GL_stA (l' := mrc code none 0 0) rfl rfl c30 (MsgX.cells_one { m := { code := code } }) (by rfl) ?_
   refine GL_nil ?_
   refine GX_seqL (fun e a w _ h => hQ1 e a w h) ?_
   refine GC_region ?_
   refine GL_v rfl (rv_mv (v := .pointer _) vw) ?_
   refine GL_v rfl (rv_fa fa160_1 vw) ?_
   refine GL_v rfl (rv_ld (v := .func (.func f2) [].toArray caps.toArray) Tryz.underlying158 rfl vw) ?_
   refine GL_call rfl cb168 (full_ct Bq (.func (.func f2) [].toArray caps.toArray) rfl) rfl .nil .nil ?_
   rintro _ _ _ ⟨b2, b3, rfl, rfl, rfl⟩
   simp only [List.cons_append, List.nil_append]
   refine GL_shift .nil (nil_own (t := 76) (sz := 4)) ?_
   refine GL_shift .nil (bun_nil (p := ([] : List Hd).length = ([] : List RecD).length) rfl) ?_
   refine GL_nil ?_
   refine GX_rangeB rfl (lbv := [.pointer (some ⟨b2, 0, none⟩), .pointer (some ⟨b3, 0, none⟩)]) rfl cb215 (S1 := [blk b13 (mrc code none 0 0) 30, own 76 4 none 0 0 [], cub Bq A5 n5 k5 false 0, blk Bs [.int .i64 0] 3]) (T1 := [bun (([] : List Hd).length = ([] : List RecD).length) [], blk b2 [.pointer (some ⟨Bq, 0, none⟩)] 80, blk b3 [.func (.func f2) [].toArray caps.toArray] 158, row 1 A5 n5 k5 (bytesV v)]) pA sb (R := PartsOut b13 Bq Bs code (partsF one (v.length + 1) 0 ⟨v, false, 0⟩ [])) ?_ ?_
   · intro L D f tm htm hE
     refine (full1_ct L b2 b3 Bq Bs b13 n5 k5 A5 v code one f2 caps hcb2 (fun B n k A r s e sum => hct2 B n k A r s e sum) hok (obj L (.loop _)) (obj D (.deferred (some []))) hvl hn5 ?_).monoW ?_
     · intro l hs x h Ao ko hl hlen
       refine YCt_of htm hE rfl rfl rfl fun w0 M N => ?_
       refine GL_alloc rfl z76 (fun b14 => ?_)
       refine GL_stA (l' := recCells x h) rfl rfl c76 (recCells_one _ _) (by rfl) ?_
       refine GL_nil ⟨rfl, _, swapP, ?_⟩
       simp only [mrc]
       refine GL_v rfl (rv_fa fa30_15 vw) ?_
       refine GL_v rfl (rv_ld Tryz.underlying27 rfl vw) ?_
       refine GL_v rfl (rv_ldA (l := recCells x h) a76 vw rfl) ?_
       refine GL_bs (l := recCells x h) rfl el27 z76 rfl rfl rfl (fun b57 => ?_)
       refine GL_app (m := 1) rfl el27 rfl rfl pW rfl (recCells_one _ _) (by omega) (by simp [maxLen]; omega) (fun A9 k9 => ?_)
       refine GL_v rfl (rv_fa fa30_15 vw) ?_
       refine GL_st (u := .slice A9 (l.length + 1) k9) rfl rfl c27 rfl ?_
       rw [← recsV_snoc l hs x h hlen]
       refine GL_shift .nil (bun_snocM (hs.length = l.length) (recRows l hs) (row 1 h.A h.n h.k (wordsV x.words)) (p2 := (hs ++ [h]).length = (l ++ [x]).length) (by simp [hlen]) (recRows_snoc l hs x h hlen)) ?_
       refine GL_nil ⟨rfl, _, _, _, _, swapP, .cons (.there (.there (.there .here))) (.cons (.there (.there (.there .here))) (.cons .here .nil)), .cons (List.mem_cons_self ..) .nil, rfl, A9, k9, ?_, rfl⟩
       show _ = [_, _, _]
       rw [List.length_append]; rfl
     · rintro _ _ _ w w' h1 h2 ⟨l, hs, r, s, e, A, n, k, Ao, ko, sum, h3, h4, h5, h6, rfl, rfl⟩
       exact ⟨_, rfl, l, hs, r, s, e, A, n, k, Ao, ko, sum, h3, h4, h5, h6, rfl, rfl⟩
   rintro L D o S2 T' ⟨l, hs, rq, sq, eq, Aq, nq, kq, Ao, ko, sum, hpf, hlen, hl5, hnq, rfl, rfl⟩
   refine fun w a hr hs' => (GX_of (hQ2 D) ?_) w a hr hs'
   simp only [List.cons_append, List.nil_append]
   refine GC_seq ?_
   refine GC_region ?_
   refine GL_v rfl (rv_mv (v := .pointer _) vw) ?_
   refine GL_v rfl (rv_mv (v := .pointer _) vw) ?_
   refine GL_callD rfl cb160 (Err_ct Bq nq kq Aq sq eq) rfl (pB (B := Bq)) .nil ?_
   refine GL_v rfl (rv_eql vw vw) ?_
   refine GL_v rfl (rv_mv (v := .pointer _) vw) ?_
   refine GL_callD rfl cb160 (Err_ct Bq nq kq Aq sq eq) rfl (pB (B := Bq)) .nil ?_
   refine GL_callD rfl cb169 (within_e_ct eq) rfl .nil .nil ?_
   refine GL_call rfl cb133 (Need_k B n4 k4 A4 r4 s4 e4 (decide (eq = 0)) (withinS eq)) rfl (pB (B := B)) .nil ?_
   rintro _ _ _ ⟨e9, hc9, rfl, rfl, rfl⟩
   simp only [List.cons_append, List.nil_append]
   simp only [hc2, hc3, hc4, hpf, hc9] at hp
   refine GL_nil ?_
   refine GC_seq ?_
   refine GC_region ?_
   refine GL_v rfl (rv_mv (v := .pointer _) vw) ?_
   refine GL_call rfl cb159 (End_k B n4 k4 A4 r4 s4 e9) rfl pB sR ?_
   rintro _ _ _ ⟨e6, hc6, rfl, rfl, rfl⟩
   simp only [List.cons_append, List.nil_append]
   have hfin := hc6
   refine GL_nil ?_
   refine GC_seq ?_
   refine GC_seq ?_
   refine GC_region ?_
   refine GL_v rfl (rv_mv (v := .pointer _) vw) ?_
   refine GL_callD rfl cb160 (Err_ct B n4 k4 A4 s4 e6) rfl pB .nil ?_
   refine GL_v rfl (rv_as (v := .int .i64 _) vw) ?_
   refine GL_nil ?_
   refine GC_seq ?_
   refine GC_region ?_
   refine GL_v rfl (rv_mv (v := .int .i64 _) vw) ?_
   refine GL_v rfl (rv_neq vw vw) ?_
   refine GL_nil ?_
   refine GC_cond rfl (fun h2 => ?_) (fun h2 => ?_)
   ·
    have he : ¬ e6 = 0 := by have := h2; simpa using this
    rw [finish_no hfin he] at hp
    obtain rfl := hp
    refine GC_seq ?_
    refine GC_region ?_
    refine GL_v rfl (rv_bld (z' := [.int .u8 0, .int .u8 0, .int .u16 0, .int .u16 0, .int .u16 0, .int .u16 0, .int .u16 0, .int .u16 0, .int .u16 0, .int .u16 0, .int .u16 0, .int .u16 0, .slice none 0 0, .slice none 0 0, .slice none 0 0, .slice none 0 0, .int .u8 0, .int .u8 0, .int .u8 0, .int .u8 0, .int .u8 0, .slice none 0 0]) z30 l30 (fun _ => rfl)) ?_
    refine GL_v rfl (rv_mv (v := .int .i64 _) vw) ?_
    refine GL_stA rfl rfl c30 (by simp [Value.oneCell']) (by rfl) ?_
    refine GL_v rfl (rv_as (v := .int .i64 _) vw) ?_
    refine GL_nil ?_
    refine GC_shift .nil (msg0 {}) ?_
    refine GC_ret ?_
    exact ⟨_, swapP, finA (T' := [msgR { m := {} }]) (.inr rfl) rfl rfl rfl inferInstance a30 rfl .nil sb ⟨{ m := {} }, rfl, rfl, rfl, rfl⟩⟩
   ·
    have he : e6 = 0 := by have := h2; simpa using this
    rw [finish_ok hfin he] at hp
    obtain rfl := hp
    refine GC_skip ?_
    refine GC_seq ?_
    refine GC_region ?_
    refine GL_v rfl (rv_ldA a30 vw rfl) ?_
    refine GL_stA (l' := mrc code Ao l.length ko) rfl rfl c30 (MsgX.cells_one { m := { code := code, recs := l }, r := ⟨Ao, l.length, ko⟩, rw := hs }) (by rfl) ?_
    refine GL_shift (pW (A := Ao)) own_toRow ?_
    refine GL_shift .nil (msgRecs { code := code, recs := l } ⟨Ao, l.length, ko⟩ hs hlen (by simp) (fun R hR => inT_bun (p := hs.length = l.length) (L := recRows l hs) (by simp) hR)) ?_
    refine GL_v rfl (rv_as (v := .int .i64 _) vw) ?_
    refine GL_nil ?_
    refine GC_ret ?_
    exact ⟨_, swapP, finA (T' := [msgR { m := { code := code, recs := l }, r := ⟨Ao, l.length, ko⟩, rw := hs }]) (.inr rfl) rfl rfl rfl inferInstance a30 rfl .nil sb ⟨{ m := { code := code, recs := l }, r := ⟨Ao, l.length, ko⟩, rw := hs }, rfl, rfl, rfl, rfl⟩⟩
theorem W11_ct (dir : Int) (x : MsgX) (hf : x.m.few) : Ct PG 105 [.int .i64 dir, .agg x.cells.toArray] [] [msgR x] (BytesOut (W11 dir x.m)) := by
 refine Ct_of Tryz.func105 rfl 29 rfl (Nat.le_of_ble_eq_true rfl) fun w0 M N => ?_
 refine GC_seq ?_
 refine GC_region ?_
 refine GL_boxA (l := x.cells) rfl rfl (fun b3 => ?_)
 refine GL_v rfl (rv_as (v := .slice _ _ _) vw) ?_
 refine GL_v rfl (rv_as (v := .int .i64 _) vw) ?_
 refine GL_nil ?_
 refine GC_seq ?_
 refine GC_region ?_
 refine GL_v rfl (rv_mv (v := .int .i64 _) vw) ?_
 refine GL_v rfl (rv_ldA (l := x.cells) a30 vw rfl) ?_
 refine GL_call rfl cb170 (L11_ct dir x hf) rfl .nil sb ?_
 rintro _ _ _ ⟨A, n, k, rfl, rfl, rfl⟩
 simp only [List.cons_append, List.nil_append]
 refine GL_row A fun hr => ?_
 have hn : (L11 dir x.m).length = n := by have := hr.1; simpa [bytesV] using this
 have hlen := L11_len dir x.m hf
 refine GL_v rfl (rv_as (v := .slice _ _ _) vw) ?_
 refine GL_nil ?_
 refine GC_seq ?_
 refine GC_region ?_
 refine GL_v rfl (rv_mv (v := .int .i64 _) vw) ?_
 refine GL_v rfl (rv_fa fa30_0 vw) ?_
 rw [x.cells_eq]
 refine GL_v rfl (rv_ld (v := b8 x.m.code) Tryz.underlying5 rfl vw) ?_
 refine GL_v rfl (rv_mv (v := .slice _ _ _) vw) ?_
 refine GL_call rfl cb104 (P11_ct dir x.m.code A n k (L11 dir x.m) (by omega)) rfl .nil sb ?_
 rintro _ _ _ ⟨y, rfl, hy, rfl, rfl⟩
 simp only [List.cons_append, List.nil_append]
 obtain ⟨p, e, hp⟩ : ∃ p e, P11 dir x.m.code (L11 dir x.m) = (p, e) := ⟨_, _, rfl⟩
 rw [hp] at hy ⊢
 simp only at hy ⊢
 refine GL_v rfl (rv_mv (v := .tuple [.agg y.cells.toArray, .int .i64 e].toArray) vw) ?_
 refine GL_v rfl (rv_ext vw rfl) ?_
 refine GL_v rfl (rv_ext vw rfl) ?_
 refine GL_alloc rfl z30 (fun b7 => ?_)
 refine GL_stA (l' := y.cells) rfl rfl c30 (MsgX.cells_one _) (by rfl) ?_
 rw [← x.cells_eq]
 refine GL_v rfl (rv_as (v := .int .i64 _) vw) ?_
 refine GL_nil ?_
 refine GC_seq ?_
 refine GC_seq ?_
 refine GC_region ?_
 refine GL_v rfl (rv_mv (v := .int .i64 _) vw) ?_
 refine GL_v rfl (rv_neq vw vw) ?_
 refine GL_v rfl (rv_mv (v := .bool _) vw) ?_
 refine GL_g rfl rfl gvf (rv_ldA (l := y.cells) a30 vw rfl) ?_
 refine GL_g rfl rfl gvf (rv_ldA (l := x.cells) a30 vw rfl) ?_
 refine GL_callG rfl rfl gvf cb125 (fun _ => SameP_ct y x) (fun q => by show [gd _ _, gd _ _] = _; rw [vwg q, vwg q]) (fun _ => sb) ?_
 refine GL_g rfl rfl gvf (rv_not vwg) ?_
 refine GL_v rfl (rv_or vw vwg) ?_
 refine GL_nil ?_
 refine GC_cond rfl (fun h0 => ?_) (fun h0 => ?_)
 ·
  have hh : ¬ (e = 0 ∧ p = x.m) := by
   rintro ⟨rfl, rfl⟩
   rw [hy] at h0; simp at h0
  have he : W11 dir x.m = ([], 1) := by unfold W11 writeBy; rw [hp]; exact if_neg hh
  rw [he]
  refine GC_seq ?_
  refine GC_region ?_
  refine GL_v rfl (rv_as (v := .slice _ _ _) vw) ?_
  refine GL_v rfl (rv_as (v := .int .i64 _) vw) ?_
  refine GL_nil ?_
  refine GC_shift .nil (nil_row (sz := 1)) ?_
  refine GC_ret ?_
  exact fin2 (T' := [row 1 none 0 0 []]) (.inr rfl) rfl rfl rfl .nil sb ⟨none, 0, 0, rfl, rfl, rfl⟩
 ·
  have hh : e = 0 ∧ p = x.m := by
   rw [hy] at h0; simpa using h0
  have he : W11 dir x.m = (L11 dir x.m, 0) := by unfold W11 writeBy; rw [hp]; exact if_pos hh
  rw [he]
  refine GC_skip ?_
  refine GC_seq ?_
  refine GC_region ?_
  refine GL_v rfl (rv_mv (v := .slice _ _ _) vw) ?_
  refine GL_v rfl (rv_as (v := .slice _ _ _) vw) ?_
  refine GL_v rfl (rv_as (v := .int .i64 _) vw) ?_
  refine GL_nil ?_
  refine GC_ret ?_
  exact fin2 (.inr rfl) rfl rfl rfl .nil sb ⟨A, n, k, rfl, rfl, rfl⟩
end Go.Bus
