/- Part of the proof: Mei. No condition. -/
import Derived.Test.YtlfjioigkojjdaaGreatUBDiag
set_option linter.unusedVariables false
set_option linter.unusedSimpArgs false
set_option maxRecDepth 100000
set_option maxHeartbeats 4000000
namespace Go.Bus
open Go Go.Proofs
theorem bun_snocM (p : Prop) (L : List Res) (R : Res) {p2 : Prop} {L2 T : List Res} [h : Mm (bun p L) T] [hR : Mm R T] (hp : p2) (e : L2 = L ++ [R]) : Shift [] T [] [bun p2 L2] := bun_snoc h.out hR.out hp e
theorem level_ct (c : UInt8) : CtD PG 216 [b8 c] [] [] (.bool (levelS c)) [] [] := by
 refine Ct_of Tryz.func216 rfl 7 rfl (Nat.le_of_ble_eq_true rfl) fun w0 M N => ?_
 refine GC_seq ?_
 refine GC_region ?_
 refine GL_v rfl (rv_as (v := .bool _) vw) ?_
 refine GL_nil ?_
 refine GC_seq ?_
 refine GC_region ?_
 refine GL_mkMap .u8 rfl (fun Bm => ?_)
 refine GL_ins (dk := .u8) (v := .bool true) Tryz.underlying146 Tryz.underlying5 rfl rfl rfl rfl ?_
 refine GL_ins (dk := .u8) (v := .bool true) Tryz.underlying146 Tryz.underlying5 rfl rfl rfl rfl ?_
 refine GL_ins (dk := .u8) (v := .bool true) Tryz.underlying146 Tryz.underlying5 rfl rfl rfl rfl ?_
 refine GL_ins (dk := .u8) (v := .bool true) Tryz.underlying146 Tryz.underlying5 rfl rfl rfl rfl ?_
 refine GL_ins (dk := .u8) (v := .bool true) Tryz.underlying146 Tryz.underlying5 rfl rfl rfl rfl ?_
 refine GL_ins (dk := .u8) (v := .bool true) Tryz.underlying146 Tryz.underlying5 rfl rfl rfl rfl ?_
 refine GL_v rfl (rv_mv (v := .map _) vw) ?_
 refine GL_v rfl (rv_mv (v := b8 c) vw) ?_
 refine GL_v rfl (rv_look (dk := .u8) (z := .bool false) Tryz.underlying146 Tryz.underlying5 (fun _ => by kernel_rfl) vw vw (lookD_setI c.toNat [1, 2, 3, 129, 130, 131])) ?_
 refine GL_v rfl (rv_as (v := .bool _) vw) ?_
 refine GL_nil ?_
 refine GC_ret ?_
 exact fin1 (.inr rfl) rfl rfl .nil .nil ⟨rfl, rfl, rfl⟩
theorem answer12_ct (B B2 n k : Nat) (A : Option Addr) (r : List UInt8) (s : Bool) (e : Int) (code mei kind : UInt8) (hn : n ≤ 35184372088832) : Ct PG 171 [.pointer (some ⟨B, 0, none⟩), .pointer (some ⟨B2, 0, none⟩)] [cub B A n k s e, mub B2 { m := { code := code, mei := mei, kind := kind } }] [row 1 A n k (bytesV r)] (FormOut B B2 (answer12 { code := code, mei := mei, kind := kind } ⟨r, s, e⟩)) := by
 refine Ct_of Tryz.func171 rfl 92 rfl (Nat.le_of_ble_eq_true rfl) fun w0 M N => ?_
 have e00 : MsgX.cells { m := { code := code, mei := mei, kind := kind } } = [b8 code, .int .u8 0, .int .u16 0, .int .u16 0, .int .u16 0, .int .u16 0, .int .u16 0, .int .u16 0, .int .u16 0, .int .u16 0, .int .u16 0, .int .u16 0, .slice none 0 0, .slice none 0 0, .slice none 0 0, .slice none 0 0, b8 mei, b8 kind, .int .u8 0, .int .u8 0, .int .u8 0, .slice none 0 0] := rfl
 unfold mub; rw [e00]
 refine GC_seq ?_
 refine GC_region ?_
 refine GL_v rfl (rv_mv (v := .pointer _) vw) ?_
 refine GL_v rfl (rv_mv (v := .pointer _) vw) ?_
 refine GL_call rfl cb74 (Byte_k B n k A r s e hn) rfl pB sR ?_
 rintro _ _ _ ⟨lv, r1, s1, e1, A1, n1, k1, hc1, hn1, rfl, rfl, rfl⟩
 simp only [List.cons_append, List.nil_append]
 refine GL_v rfl (rv_nil vw) ?_
 refine GL_v rfl (rv_fa fa30_18 vw) ?_
 refine GL_st (u := b8 lv) rfl rfl c5 rfl ?_
 refine GL_nil ?_
 refine GC_seq ?_
 refine GC_region ?_
 refine GL_v rfl (rv_mv (v := .pointer _) vw) ?_
 refine GL_v rfl (rv_mv (v := .pointer _) vw) ?_
 refine GL_v rfl (rv_nil vw) ?_
 refine GL_v rfl (rv_fa fa30_18 vw) ?_
 refine GL_v rfl (rv_ld (v := b8 lv) Tryz.underlying5 rfl vw) ?_
 refine GL_callD rfl cb216 (level_ct lv) rfl .nil .nil ?_
 refine GL_call rfl cb133 (Need_k B n1 k1 A1 r1 s1 e1 (levelS lv) 6) rfl pB .nil ?_
 rintro _ _ _ ⟨e2, hc2, rfl, rfl, rfl⟩
 simp only [List.cons_append, List.nil_append]
 refine GL_nil ?_
 refine GC_seq ?_
 refine GC_region ?_
 refine GL_v rfl (rv_mv (v := .pointer _) vw) ?_
 refine GL_v rfl (rv_mv (v := .pointer _) vw) ?_
 refine GL_call rfl cb74 (Byte_k B n1 k1 A1 r1 s1 e2 hn1) rfl pB sR ?_
 rintro _ _ _ ⟨mo, r3, s3, e3, A3, n3, k3, hc3, hn3, rfl, rfl, rfl⟩
 simp only [List.cons_append, List.nil_append]
 refine GL_v rfl (rv_nil vw) ?_
 refine GL_v rfl (rv_fa fa30_19 vw) ?_
 refine GL_st (u := b8 mo) rfl rfl c5 rfl ?_
 refine GL_nil ?_
 refine GC_seq ?_
 refine GC_region ?_
 refine GL_v rfl (rv_mv (v := .pointer _) vw) ?_
 refine GL_v rfl (rv_mv (v := .pointer _) vw) ?_
 refine GL_v rfl (rv_nil vw) ?_
 refine GL_v rfl (rv_fa fa30_19 vw) ?_
 refine GL_v rfl (rv_ld Tryz.underlying5 rfl vw) ?_
 refine GL_v rfl (rv_eql vw vw) ?_
 refine GL_v rfl (rv_mv (v := .bool _) vw) ?_
 refine GL_g rfl rfl gvf (rv_mv (v := .pointer _) vw) ?_
 refine GL_g rfl rfl gvf (rv_nil vwg) ?_
 refine GL_g rfl rfl gvf (rv_fa fa30_19 vwg) ?_
 refine GL_g rfl rfl gvf (rv_ld Tryz.underlying5 rfl vwg) ?_
 refine GL_g rfl rfl gvf (rv_eql vwg vw) ?_
 refine GL_v rfl (rv_or vw vwg) ?_
 refine GL_call rfl cb133 (Need_k B n3 k3 A3 r3 s3 e3 (decide ((mo.toNat : Int) = 0) || decide ((mo.toNat : Int) = 255)) 6) rfl pB .nil ?_
 rintro _ _ _ ⟨e4, hc4, rfl, rfl, rfl⟩
 simp only [List.cons_append, List.nil_append]
 refine GL_nil ?_
 refine GC_seq ?_
 refine GC_region ?_
 refine GL_v rfl (rv_mv (v := .pointer _) vw) ?_
 refine GL_v rfl (rv_mv (v := .pointer _) vw) ?_
 refine GL_call rfl cb74 (Byte_k B n3 k3 A3 r3 s3 e4 hn3) rfl pB sR ?_
 rintro _ _ _ ⟨nx, r5, s5, e5, A5, n5, k5, hc5, hn5, rfl, rfl, rfl⟩
 simp only [List.cons_append, List.nil_append]
 refine GL_v rfl (rv_nil vw) ?_
 refine GL_v rfl (rv_fa fa30_20 vw) ?_
 refine GL_st (u := b8 nx) rfl rfl c5 rfl ?_
 refine GL_nil ?_
 refine GC_seq ?_
 refine GC_region ?_
 refine GL_v rfl (rv_mv (v := .pointer _) vw) ?_
 refine GL_v rfl (rv_mv (v := .pointer _) vw) ?_
 refine GL_v rfl (rv_nil vw) ?_
 refine GL_v rfl (rv_fa fa30_19 vw) ?_
 refine GL_v rfl (rv_ld Tryz.underlying5 rfl vw) ?_
 refine GL_v rfl (rv_neq vw vw) ?_
 refine GL_v rfl (rv_mv (v := .bool _) vw) ?_
 refine GL_g rfl rfl gvf (rv_mv (v := .pointer _) vw) ?_
 refine GL_g rfl rfl gvf (rv_nil vwg) ?_
 refine GL_g rfl rfl gvf (rv_fa fa30_20 vwg) ?_
 refine GL_g rfl rfl gvf (rv_ld Tryz.underlying5 rfl vwg) ?_
 refine GL_g rfl rfl gvf (rv_eql vwg vw) ?_
 refine GL_v rfl (rv_or vw vwg) ?_
 refine GL_call rfl cb133 (Need_k B n5 k5 A5 r5 s5 e5 ((!decide ((mo.toNat : Int) = 0)) || decide ((nx.toNat : Int) = 0)) 6) rfl pB .nil ?_
 rintro _ _ _ ⟨e6, hc6, rfl, rfl, rfl⟩
 simp only [List.cons_append, List.nil_append]
 refine GL_nil ?_
 refine GC_seq ?_
 refine GC_region ?_
 refine GL_v rfl (rv_mv (v := .pointer _) vw) ?_
 refine GL_call rfl cb74 (Byte_k B n5 k5 A5 r5 s5 e6 hn5) rfl pB sR ?_
 rintro _ _ _ ⟨q, r7, s7, e7, A7, n7, k7, hc7, hn7, rfl, rfl, rfl⟩
 simp only [List.cons_append, List.nil_append]
 have hq := q.toNat_lt
 refine GL_v rfl (rv_cnv (r := (q.toNat : Int)) Tryz.underlying5 Tryz.underlying3 vw (fun _ => IntWalk.i64_in _ (by omega))) ?_
 refine GL_v rfl (rv_as (v := .int .i64 _) vw) ?_
 refine GL_nil ?_
 refine GC_seq ?_
 refine GC_region ?_
 refine GL_v rfl (rv_mv (v := .pointer _) vw) ?_
 refine GL_v rfl (rv_mv (v := .pointer _) vw) ?_
 refine GL_v rfl (rv_nil vw) ?_
 refine GL_v rfl (rv_fa fa30_17 vw) ?_
 refine GL_v rfl (rv_ld Tryz.underlying5 rfl vw) ?_
 refine GL_v rfl (rv_neq vw vw) ?_
 refine GL_v rfl (rv_mv (v := .bool _) vw) ?_
 refine GL_g rfl rfl gvf (rv_mv (v := .int .i64 _) vw) ?_
 refine GL_g rfl rfl gvf (rv_eql vwg vw) ?_
 refine GL_v rfl (rv_or vw vwg) ?_
 refine GL_call rfl cb133 (Need_k B n7 k7 A7 r7 s7 e7 ((!decide ((kind.toNat : Int) = 4)) || decide ((q.toNat : Int) = 1)) 5) rfl pB .nil ?_
 rintro _ _ _ ⟨e8, hc8, rfl, rfl, rfl⟩
 simp only [List.cons_append, List.nil_append]
 refine GL_nil ?_
 refine GC_seq ?_
 refine GC_region ?_
 refine GL_v rfl (rv_mv (v := .int .i64 _) vw) ?_
 refine GL_v rfl (rv_mv (v := .int .i64 _) vw) ?_
 refine GL_nil ?_
 refine GC_shift .nil (nil_own (t := 78) (sz := 2)) ?_
 refine GC_shift .nil (bun_nil (p := ([] : List Hd).length = ([] : List ObjD).length) rfl) ?_
 refine GC_dropT (T' := [row 1 A7 n7 k7 (bytesV r7), bun (([] : List Hd).length = ([] : List ObjD).length) []]) sb ?_
 refine GC_block ?_
 refine GC_loop (fun (i : Nat) E S T => i ≤ q.toNat ∧ ∃ l hs r s e A n k Ao ko, objsS ⟨r7, s7, e8⟩ i = (l, ⟨r, s, e⟩) ∧ hs.length = l.length ∧ n ≤ 35184372088832 ∧ At E [(0, .pointer (some ⟨B, 0, none⟩)), (1, .pointer (some ⟨B2, 0, none⟩)), (71, .int .i64 i), (70, .int .i64 q.toNat)] ∧ S = [own 78 2 Ao i ko (objsV l hs), cub B A n k s e, blk B2 [b8 code, .int .u8 0, .int .u16 0, .int .u16 0, .int .u16 0, .int .u16 0, .int .u16 0, .int .u16 0, .int .u16 0, .int .u16 0, .int .u16 0, .int .u16 0, .slice none 0 0, .slice none 0 0, .slice none 0 0, .slice none 0 0, b8 mei, b8 kind, b8 lv, b8 mo, b8 nx, .slice Ao i ko] 30] ∧ T = [row 1 A n k (bytesV r), bun (hs.length = l.length) (objRows l hs)]) (fun i => q.toNat - i) 0 ⟨Nat.zero_le _, [], [], r7, s7, e8, A7, n7, k7, none, 0, rfl, rfl, hn7, ⟨rfl, rfl, rfl, rfl, trivial⟩, rfl, rfl⟩ ?_
 rintro i E S T ⟨hi, l, hs, r, s, e, A, n, k, Ao, ko, hob, hlen, hn, hE, rfl, rfl⟩
 obtain ⟨E0, rfl⟩ := hE.ex
 refine GC_seq ?_
 refine GC_region ?_
 refine GL_v rfl (rv_lss vw vw) ?_
 refine GL_nil ?_
 refine GC_seq ?_
 refine GC_cond rfl (fun h0 => ?_) (fun h0 => ?_)
 ·
  have hlt : i < q.toNat := by simp at h0; omega
  refine GC_skip ?_
  refine GC_seq ?_
  refine GC_block ?_
  refine GC_seq ?_
  refine GC_region ?_
  refine GL_v rfl (rv_mv (v := .pointer _) vw) ?_
  refine GL_call rfl cb74 (Byte_k B n k A r s e hn) rfl pB sR ?_
  rintro _ _ _ ⟨id, r9, s9, e9, A9, n9, k9, hc9, hn9, rfl, rfl, rfl⟩
  simp only [List.cons_append, List.nil_append]
  refine GL_v rfl (rv_as (v := b8 id) vw) ?_
  refine GL_nil ?_
  refine GC_draw 14 ([blk B2 [b8 code, .int .u8 0, .int .u16 0, .int .u16 0, .int .u16 0, .int .u16 0, .int .u16 0, .int .u16 0, .int .u16 0, .int .u16 0, .int .u16 0, .int .u16 0, .slice none 0 0, .slice none 0 0, .slice none 0 0, .slice none 0 0, b8 mei, b8 kind, b8 lv, b8 mo, b8 nx, .slice Ao i ko] 30]) mixed ?_
  refine GA_v (i := 0) rfl rfl rfl (by kernel_rfl) (rv_mv (v := .pointer _) vw) ?_
  refine GA_v (i := 1) rfl rfl rfl (by kernel_rfl) (rv_mv (v := .pointer _) vw) ?_
  refine GA_v (i := 2) rfl rfl rfl (by kernel_rfl) (rv_nil vw) ?_
  refine GA_v (i := 3) rfl rfl rfl (by kernel_rfl) (rv_fa fa30_21 vw) ?_
  refine GA_v (i := 4) rfl rfl rfl (by kernel_rfl) (rv_ld Tryz.underlying28 rfl vw) ?_
  refine GA_v (i := 5) rfl rfl rfl (by kernel_rfl) (rv_mv (v := b8 id) vw) ?_
  refine GA_v (i := 6) rfl rfl rfl (by kernel_rfl) (rv_mv (v := .pointer _) vw) ?_
  refine GA_v (i := 7) rfl rfl rfl (by kernel_rfl) (rv_mv (v := .pointer _) vw) ?_
  refine GA_one 8 rfl rfl (by kernel_rfl) ?_
  refine GL_call rfl cb74 (Byte_k B n9 k9 A9 r9 s9 e9 hn9) rfl pB sR ?_
  rintro _ _ _ ⟨j, r10, s10, e10, A10, n10, k10, hc10, hn10, rfl, rfl, rfl⟩
  simp only [List.cons_append, List.nil_append]
  have hj := j.toNat_lt
  refine GL_nil ⟨inferInstance, ?_⟩
  refine GA_v (i := 9) rfl rfl rfl (by kernel_rfl) (rv_cnv (r := (j.toNat : Int)) Tryz.underlying5 Tryz.underlying3 vw (fun _ => IntWalk.i64_in _ (by omega))) ?_
  refine GA_one 10 rfl rfl (by kernel_rfl) ?_
  refine GL_call rfl cb75 (Bytes_k B n10 k10 A10 r10 s10 e10 j.toNat hn10) rfl pB sR ?_
  rintro _ _ _ ⟨v, r11, s11, e11, A11, n11, k11, Ax11, nx11, kx11, hc11, hn11, hnx11, rfl, rfl, rfl⟩
  simp only [List.cons_append, List.nil_append]
  refine GL_nil ⟨inferInstance, ?_⟩
  refine GA_v (i := 11) rfl rfl rfl (by kernel_rfl) (rv_bld (z' := objCells ⟨id, v⟩ ⟨Ax11, nx11, kx11⟩) z78 l78 (fun _ => rfl)) ?_
  refine GA_one 12 rfl rfl (by kernel_rfl) ?_
  refine GL_bs (l := objCells ⟨id, v⟩ ⟨Ax11, nx11, kx11⟩) rfl el28 z78 rfl rfl rfl (fun b87 => ?_)
  refine GL_nil ⟨inferInstance, ?_⟩
  refine GA_one 13 rfl rfl (by kernel_rfl) ?_
  refine GL_app (m := 1) rfl el28 rfl rfl pW rfl (objCells_one _ _) (by omega) (by simp [maxLen]; omega) (fun A9 k9 => ?_)
  refine GL_nil ⟨inferInstance, ?_⟩
  refine GA_free (by kernel_rfl) ?_
  refine GA_w (i := 14) rfl rfl rfl (by kernel_rfl) (rv_nil vw) ?_
  refine GA_w (i := 15) rfl rfl rfl (by kernel_rfl) (rv_fa fa30_21 vw) ?_
  refine GA_last 16 rfl (by kernel_rfl) ?_
  refine GL_st (u := .slice A9 (i + 1) k9) rfl rfl c28 rfl ?_
  rw [← objsV_snoc l hs ⟨id, v⟩ ⟨Ax11, nx11, kx11⟩ hlen]
  refine GL_shift .nil (bun_snocM (hs.length = l.length) (objRows l hs) (row 1 Ax11 nx11 kx11 (bytesV v)) (p2 := (hs ++ [(⟨Ax11, nx11, kx11⟩ : Hd)]).length = (l ++ [(⟨id, v⟩ : ObjD)]).length) (by simp [hlen]) (objRows_snoc l hs ⟨id, v⟩ ⟨Ax11, nx11, kx11⟩ hlen)) ?_
  refine GL_dropT (T' := [row 1 A11 n11 k11 (bytesV r11), bun ((hs ++ [(⟨Ax11, nx11, kx11⟩ : Hd)]).length = (l ++ [(⟨id, v⟩ : ObjD)]).length) (objRows (l ++ [(⟨id, v⟩ : ObjD)]) (hs ++ [(⟨Ax11, nx11, kx11⟩ : Hd)]))]) sb ?_
  refine GL_drop (.cons .here (.cons (.there .here) (.cons (.there .here) .nil))) ?_
  refine GL_nil ?_
  refine GA_nil (by kernel_rfl) ?_
  refine GC_region ?_
  refine GL_v rfl (rv_add (r := ((i + 1 : Nat) : Int)) vw vw (fun _ => by rw [IntWalk.i64_in _ (by omega)]; omega)) ?_
  refine GL_v rfl (rv_mv (v := .int .i64 _) vw) ?_
  refine GL_nil ?_
  refine ⟨i + 1, ⟨by omega, l ++ [(⟨id, v⟩ : ObjD)], hs ++ [(⟨Ax11, nx11, kx11⟩ : Hd)], r11, s11, e11, A11, n11, k11, A9, k9, ?_, by simp [hlen], hn11, ⟨rfl, rfl, rfl, rfl, trivial⟩, ?_, rfl⟩, by omega⟩
  · simp only [objsS, hob, hc1, hc2, hc3, hc4, hc5, hc6, hc7, hc8, hc9, hc10, hc11]
  · rfl
 ·
  obtain rfl : i = q.toNat := by simp at h0; omega
  refine GC_shift (.cons .here .nil) own_toRow ?_
  refine GC_shift .nil (msgObjs { code := code, mei := mei, kind := kind, level := lv, more := mo, next := nx, objects := l } ⟨Ao, q.toNat, ko⟩ hs hlen (by simp) (fun R hR => inT_bun (p := hs.length = l.length) (L := objRows l hs) (by simp) hR)) ?_
  refine GC_exit ?_
  exact fin0 (.inl rfl) rfl pB2 sb ⟨{ m := { code := code, mei := mei, kind := kind, level := lv, more := mo, next := nx, objects := l }, o := ⟨Ao, q.toNat, ko⟩, ow := hs }, r, s, e, A, n, k, by simp only [answer12, hc1, hc2, hc3, hc4, hc5, hc6, hc7, hc8, hob], hn, rfl, rfl, rfl⟩
theorem P12_ct (dir : Int) (code : UInt8) (A : Option Addr) (n k : Nat) (b : List UInt8) (hn : n ≤ 35184372088832) : Ct PG 106 [.int .i64 dir, b8 code, .slice A n k] [] [row 1 A n k (bytesV b)] (MsgOut (P12 dir code b)) := by
 refine Ct_of Tryz.func106 rfl 81 rfl (Nat.le_of_ble_eq_true rfl) fun w0 M N => ?_
 obtain ⟨p, hp⟩ : ∃ p, P12 dir code b = p := ⟨_, rfl⟩
 rw [hp]
 refine GC_seq ?_
 refine GC_region ?_
 refine GL_alloc rfl z30 (fun b6 => ?_)
 refine GL_v rfl (rv_as (v := .int .i64 _) vw) ?_
 refine GL_nil ?_
 refine GC_seq ?_
 refine GC_block ?_
 refine GC_seq ?_
 refine GC_region ?_
 refine GL_v rfl (rv_mv (v := .int .i64 _) vw) ?_
 refine GL_v rfl (rv_neq vw vw) ?_
 refine GL_v rfl (rv_mv (v := .bool _) vw) ?_
 refine GL_g rfl rfl gvt (rv_mv (v := .int .i64 _) vw) ?_
 refine GL_g rfl rfl gvt (rv_neq vwg vw) ?_
 refine GL_v rfl (rv_and vw vwg) ?_
 refine GL_v rfl (rv_as (v := .bool _) vw) ?_
 refine GL_nil ?_
 refine GC_cond rfl (fun h0 => ?_) (fun h0 => ?_)
 ·
  have hd : dir ≠ 0 ∧ dir ≠ 1 := by have := h0; simpa using this
  have he : P12 dir code b = ({}, 1) := if_pos hd
  obtain rfl := hp.symm.trans he
  refine GC_seq ?_
  refine GC_region ?_
  refine GL_v rfl (rv_bld (z' := [.int .u8 0, .int .u8 0, .int .u16 0, .int .u16 0, .int .u16 0, .int .u16 0, .int .u16 0, .int .u16 0, .int .u16 0, .int .u16 0, .int .u16 0, .int .u16 0, .slice none 0 0, .slice none 0 0, .slice none 0 0, .slice none 0 0, .int .u8 0, .int .u8 0, .int .u8 0, .int .u8 0, .int .u8 0, .slice none 0 0]) z30 l30 (fun _ => rfl)) ?_
  refine GL_stA rfl rfl c30 (by simp [Value.oneCell']) (by rfl) ?_
  refine GL_v rfl (rv_as (v := .int .i64 _) vw) ?_
  refine GL_nil ?_
  refine GC_shift .nil (msg0 {}) ?_
  refine GC_ret ?_
  exact finA (T' := [msgR { m := {} }]) (.inr rfl) rfl rfl rfl inferInstance a30 rfl .nil sb ⟨{ m := {} }, rfl, rfl, rfl, rfl⟩
 ·
  have hd : ¬ (dir ≠ 0 ∧ dir ≠ 1) := by have := h0; simpa using this
  simp only [P12, parseBy, if_neg hd] at hp
  refine GC_seq ?_
  refine GC_region ?_
  refine GL_v rfl (rv_mv (v := .int .u8 _) vw) ?_
  refine GL_v rfl (rv_neq vw vw) ?_
  refine GL_v rfl (rv_as (v := .bool _) vw) ?_
  refine GL_nil ?_
  refine GC_cond rfl (fun h1 => ?_) (fun h1 => ?_)
  ·
   have hc : ¬ code.toNat = 43 := by have := h1; simp at this; omega
   rw [show form12 dir code = none from if_neg hc] at hp
   obtain rfl := hp
   refine GC_seq ?_
   refine GC_region ?_
   refine GL_v rfl (rv_bld (z' := [.int .u8 0, .int .u8 0, .int .u16 0, .int .u16 0, .int .u16 0, .int .u16 0, .int .u16 0, .int .u16 0, .int .u16 0, .int .u16 0, .int .u16 0, .int .u16 0, .slice none 0 0, .slice none 0 0, .slice none 0 0, .slice none 0 0, .int .u8 0, .int .u8 0, .int .u8 0, .int .u8 0, .int .u8 0, .slice none 0 0]) z30 l30 (fun _ => rfl)) ?_
   refine GL_stA rfl rfl c30 (by simp [Value.oneCell']) (by rfl) ?_
   refine GL_v rfl (rv_as (v := .int .i64 _) vw) ?_
   refine GL_nil ?_
   refine GC_shift .nil (msg0 {}) ?_
   refine GC_ret ?_
   exact finA (T' := [msgR { m := {} }]) (.inr rfl) rfl rfl rfl inferInstance a30 rfl .nil sb ⟨{ m := {} }, rfl, rfl, rfl, rfl⟩
  ·
   have hc : code.toNat = 43 := by have := h1; simp at this; omega
   rw [show form12 dir code = some (meiS dir) from if_pos hc] at hp
   simp only [meiS] at hp
   refine GC_skip ?_
   refine GC_seq ?_
   refine GC_region ?_
   refine GL_v rfl (rv_mv (v := .slice _ _ _) vw) ?_
   refine GL_call rfl cb72 (New_k A n _ b hn) rfl .nil sR ?_
   rintro _ _ _ ⟨B, A1, n1, k1, hn1, rfl, rfl, rfl⟩
   simp only [List.cons_append, List.nil_append]
   refine GL_v rfl (rv_as (v := .pointer _) vw) ?_
   refine GL_nil ?_
   refine GC_seq ?_
   refine GC_region ?_
   refine GL_v rfl (rv_mv (v := b8 code) vw) ?_
   refine GL_v rfl (rv_mv (v := .pointer _) vw) ?_
   refine GL_call rfl cb74 (Byte_k B n1 k1 A1 b false 0 hn1) rfl pB sR ?_
   rintro _ _ _ ⟨a, r2, s2, e2, A2, n2, k2, hc2, hn2, rfl, rfl, rfl⟩
   simp only [List.cons_append, List.nil_append]
   refine GL_v rfl (rv_bld (z' := MsgX.cells { m := { code := code, mei := a } }) z30 l30 (fun _ => rfl)) ?_
   refine GL_alloc rfl z30 (fun b9 => ?_)
   refine GL_stA (l' := MsgX.cells { m := { code := code, mei := a } }) rfl rfl c30 (MsgX.cells_one _) (by rfl) ?_
   have e00 : MsgX.cells { m := { code := code, mei := a } } = [b8 code, .int .u8 0, .int .u16 0, .int .u16 0, .int .u16 0, .int .u16 0, .int .u16 0, .int .u16 0, .int .u16 0, .int .u16 0, .int .u16 0, .int .u16 0, .slice none 0 0, .slice none 0 0, .slice none 0 0, .slice none 0 0, b8 a, .int .u8 0, .int .u8 0, .int .u8 0, .int .u8 0, .slice none 0 0] := rfl
   rw [e00]
   refine GL_nil ?_
   refine GC_seq ?_
   refine GC_region ?_
   refine GL_v rfl (rv_mv (v := .pointer _) vw) ?_
   refine GL_v rfl (rv_fa fa30_16 vw) ?_
   refine GL_v rfl (rv_ld Tryz.underlying5 rfl vw) ?_
   refine GL_v rfl (rv_eql vw vw) ?_
   refine GL_v rfl (rv_mv (v := .bool _) vw) ?_
   refine GL_g rfl rfl gvf (rv_fa fa30_16 vw) ?_
   refine GL_g rfl rfl gvf (rv_ld Tryz.underlying5 rfl vwg) ?_
   refine GL_g rfl rfl gvf (rv_eql vwg vw) ?_
   refine GL_v rfl (rv_or vw vwg) ?_
   refine GL_call rfl cb133 (Need_k B n2 k2 A2 r2 s2 e2 (decide ((a.toNat : Int) = 13) || decide ((a.toNat : Int) = 14)) 8) rfl pB .nil ?_
   rintro _ _ _ ⟨e3, hc3, rfl, rfl, rfl⟩
   simp only [List.cons_append, List.nil_append]
   refine GL_nil ?_
   refine GC_seq ?_
   refine GC_seq ?_
   refine GC_region ?_
   refine GL_v rfl (rv_fa fa30_16 vw) ?_
   refine GL_v rfl (rv_ld Tryz.underlying5 rfl vw) ?_
   refine GL_v rfl (rv_eql vw vw) ?_
   refine GL_nil ?_
   refine GC_cond rfl (fun h2 => ?_) (fun h2 => ?_)
   ·
    have ha : a.toNat = 13 := by have := h2; simp at this; omega
    rw [if_pos (by simp only [hc2]; exact ha)] at hp
    refine GC_seq ?_
    refine GC_region ?_
    refine GL_v rfl (rv_mv (v := .pointer _) vw) ?_
    refine GL_v rfl (rv_mv (v := .pointer _) vw) ?_
    refine GL_callD rfl cb76 (Left_k B n2 k2 A2 r2 s2 e3) rfl pB sR ?_
    refine GL_v rfl (rv_leq vw vw) ?_
    refine GL_call rfl cb133 (Need_k B n2 k2 A2 r2 s2 e3 (decide ((r2.length : Int) ≤ 251)) 5) rfl pB .nil ?_
    rintro _ _ _ ⟨e5, hc5, rfl, rfl, rfl⟩
    simp only [List.cons_append, List.nil_append]
    refine GL_nil ?_
    refine GC_region ?_
    refine GL_v rfl (rv_mv (v := .pointer _) vw) ?_
    refine GL_v rfl (rv_mv (v := .pointer _) vw) ?_
    refine GL_callD rfl cb76 (Left_k B n2 k2 A2 r2 s2 e5) rfl pB sR ?_
    refine GL_call rfl cb75 (Bytes_k B n2 k2 A2 r2 s2 e5 r2.length hn2) rfl pB sR ?_
    rintro _ _ _ ⟨v, r7, s7, e7, A7, n7, k7, Ax7, nx7, kx7, hc7, hn7, hnx7, rfl, rfl, rfl⟩
    simp only [List.cons_append, List.nil_append]
    refine GL_v rfl (rv_fa fa30_14 vw) ?_
    refine GL_st (u := .slice Ax7 nx7 kx7) rfl rfl c22 rfl ?_
    refine GL_shift .nil (msgData { code := code, mei := a, data := v } ⟨Ax7, nx7, kx7⟩) ?_
    refine GL_nil ?_
    refine GC_seq ?_
    refine GC_region ?_
    try simp only [hc2, hc3, hc5, hc7] at hp
    refine GL_v rfl (rv_mv (v := .pointer _) vw) ?_
    refine GL_call rfl cb159 (End_k B n7 k7 A7 r7 s7 e7) rfl pB sR ?_
    rintro _ _ _ ⟨e8, hc8, rfl, rfl, rfl⟩
    simp only [List.cons_append, List.nil_append]
    have hfin := hc8
    refine GL_nil ?_
    refine GC_seq ?_
    refine GC_seq ?_
    refine GC_region ?_
    refine GL_v rfl (rv_mv (v := .pointer _) vw) ?_
    refine GL_callD rfl cb160 (Err_ct B n7 k7 A7 s7 e8) rfl pB .nil ?_
    refine GL_v rfl (rv_as (v := .int .i64 _) vw) ?_
    refine GL_nil ?_
    refine GC_seq ?_
    refine GC_region ?_
    refine GL_v rfl (rv_mv (v := .int .i64 _) vw) ?_
    refine GL_v rfl (rv_neq vw vw) ?_
    refine GL_nil ?_
    refine GC_cond rfl (fun h3 => ?_) (fun h3 => ?_)
    ·
     have he : ¬ e8 = 0 := by have := h3; simpa using this
     rw [finish_no hfin he] at hp
     obtain rfl := hp
     refine GC_seq ?_
     refine GC_region ?_
     refine GL_v rfl (rv_bld (z' := [.int .u8 0, .int .u8 0, .int .u16 0, .int .u16 0, .int .u16 0, .int .u16 0, .int .u16 0, .int .u16 0, .int .u16 0, .int .u16 0, .int .u16 0, .int .u16 0, .slice none 0 0, .slice none 0 0, .slice none 0 0, .slice none 0 0, .int .u8 0, .int .u8 0, .int .u8 0, .int .u8 0, .int .u8 0, .slice none 0 0]) z30 l30 (fun _ => rfl)) ?_
     refine GL_v rfl (rv_mv (v := .int .i64 _) vw) ?_
     refine GL_stA rfl rfl c30 (by simp [Value.oneCell']) (by rfl) ?_
     refine GL_v rfl (rv_as (v := .int .i64 _) vw) ?_
     refine GL_nil ?_
     refine GC_shift .nil (msg0 {}) ?_
     refine GC_ret ?_
     exact finA (T' := [msgR { m := {} }]) (.inr rfl) rfl rfl rfl inferInstance a30 rfl .nil sb ⟨{ m := {} }, rfl, rfl, rfl, rfl⟩
    ·
     have he : e8 = 0 := by have := h3; simpa using this
     rw [finish_ok hfin he] at hp
     obtain rfl := hp
     refine GC_skip ?_
     refine GC_seq ?_
     refine GC_region ?_
     refine GL_v rfl (rv_ldA a30 vw rfl) ?_
     refine GL_stA (l' := MsgX.cells ({ m := { code := code, mei := a, data := v }, d := ⟨Ax7, nx7, kx7⟩ } : MsgX)) rfl rfl c30 (MsgX.cells_one _) (by rfl) ?_
     refine GL_v rfl (rv_as (v := .int .i64 _) vw) ?_
     refine GL_nil ?_
     refine GC_ret ?_
     exact finA (T' := [msgR ({ m := { code := code, mei := a, data := v }, d := ⟨Ax7, nx7, kx7⟩ } : MsgX)]) (.inr rfl) rfl rfl rfl inferInstance a30 rfl .nil sb ⟨({ m := { code := code, mei := a, data := v }, d := ⟨Ax7, nx7, kx7⟩ } : MsgX), rfl, rfl, rfl, rfl⟩
   ·
    have ha : ¬ a.toNat = 13 := by have := h2; simp at this; omega
    rw [if_neg (by simp only [hc2]; exact ha)] at hp
    refine GC_seq ?_
    refine GC_region ?_
    refine GL_v rfl (rv_mv (v := .pointer _) vw) ?_
    refine GL_call rfl cb74 (Byte_k B n2 k2 A2 r2 s2 e3 hn2) rfl pB sR ?_
    rintro _ _ _ ⟨kd, r10, s10, e10, A10, n10, k10, hc10, hn10, rfl, rfl, rfl⟩
    simp only [List.cons_append, List.nil_append]
    refine GL_v rfl (rv_fa fa30_17 vw) ?_
    refine GL_st (u := b8 kd) rfl rfl c5 rfl ?_
    refine GL_nil ?_
    refine GC_seq ?_
    refine GC_region ?_
    refine GL_v rfl (rv_mv (v := .pointer _) vw) ?_
    refine GL_v rfl (rv_fa fa30_17 vw) ?_
    refine GL_v rfl (rv_ld Tryz.underlying5 rfl vw) ?_
    refine GL_v rfl (rv_geq vw vw) ?_
    refine GL_v rfl (rv_mv (v := .bool _) vw) ?_
    refine GL_g rfl rfl gvt (rv_fa fa30_17 vw) ?_
    refine GL_g rfl rfl gvt (rv_ld Tryz.underlying5 rfl vwg) ?_
    refine GL_g rfl rfl gvt (rv_leq vwg vw) ?_
    refine GL_v rfl (rv_and vw vwg) ?_
    refine GL_call rfl cb133 (Need_k B n10 k10 A10 r10 s10 e10 (decide ((1 : Int) ≤ kd.toNat) && decide ((kd.toNat : Int) ≤ 4)) 6) rfl pB .nil ?_
    rintro _ _ _ ⟨e11, hc11, rfl, rfl, rfl⟩
    simp only [List.cons_append, List.nil_append]
    refine GL_nil ?_
    refine GC_seq ?_
    refine GC_region ?_
    refine GL_v rfl (rv_mv (v := .int .i64 _) vw) ?_
    refine GL_v rfl (rv_eql vw vw) ?_
    refine GL_nil ?_
    refine GC_cond rfl (fun h4 => ?_) (fun h4 => ?_)
    ·
     have hd1 : dir = 1 := by have := h4; simpa using this
     rw [if_pos hd1] at hp
     simp only [hc2, hc3, hc10, hc11] at hp
     refine GC_region ?_
     refine GL_v rfl (rv_mv (v := .pointer _) vw) ?_
     refine GL_call rfl cb171 (answer12_ct B b9 n10 k10 A10 r10 s10 e11 code a kd hn10) rfl (pB2 (B := B) (B2 := b9)) sR ?_
     rintro _ _ _ ⟨x, r, s, e, A9, n9, k9, hx, hn9, rfl, rfl, rfl⟩
     simp only [List.cons_append, List.nil_append]
     rw [hx] at hp
     refine GL_nil ?_
     refine GC_seq ?_
     refine GC_region ?_
     try simp only [hc2, hc3, hc10, hc11] at hp
     refine GL_v rfl (rv_mv (v := .pointer _) vw) ?_
     refine GL_call rfl cb159 (End_k B n9 k9 A9 r s e) rfl pB sR ?_
     rintro _ _ _ ⟨e12, hc12, rfl, rfl, rfl⟩
     simp only [List.cons_append, List.nil_append]
     have hfin := hc12
     refine GL_nil ?_
     refine GC_seq ?_
     refine GC_seq ?_
     refine GC_region ?_
     refine GL_v rfl (rv_mv (v := .pointer _) vw) ?_
     refine GL_callD rfl cb160 (Err_ct B n9 k9 A9 s e12) rfl pB .nil ?_
     refine GL_v rfl (rv_as (v := .int .i64 _) vw) ?_
     refine GL_nil ?_
     refine GC_seq ?_
     refine GC_region ?_
     refine GL_v rfl (rv_mv (v := .int .i64 _) vw) ?_
     refine GL_v rfl (rv_neq vw vw) ?_
     refine GL_nil ?_
     refine GC_cond rfl (fun h5 => ?_) (fun h5 => ?_)
     ·
      have he : ¬ e12 = 0 := by have := h5; simpa using this
      rw [finish_no hfin he] at hp
      obtain rfl := hp
      refine GC_seq ?_
      refine GC_region ?_
      refine GL_v rfl (rv_bld (z' := [.int .u8 0, .int .u8 0, .int .u16 0, .int .u16 0, .int .u16 0, .int .u16 0, .int .u16 0, .int .u16 0, .int .u16 0, .int .u16 0, .int .u16 0, .int .u16 0, .slice none 0 0, .slice none 0 0, .slice none 0 0, .slice none 0 0, .int .u8 0, .int .u8 0, .int .u8 0, .int .u8 0, .int .u8 0, .slice none 0 0]) z30 l30 (fun _ => rfl)) ?_
      refine GL_v rfl (rv_mv (v := .int .i64 _) vw) ?_
      refine GL_stA rfl rfl c30 (by simp [Value.oneCell']) (by rfl) ?_
      refine GL_v rfl (rv_as (v := .int .i64 _) vw) ?_
      refine GL_nil ?_
      refine GC_shift .nil (msg0 {}) ?_
      refine GC_ret ?_
      exact finA (T' := [msgR { m := {} }]) (.inr rfl) rfl rfl rfl inferInstance a30 rfl .nil sb ⟨{ m := {} }, rfl, rfl, rfl, rfl⟩
     ·
      have he : e12 = 0 := by have := h5; simpa using this
      rw [finish_ok hfin he] at hp
      obtain rfl := hp
      refine GC_skip ?_
      refine GC_seq ?_
      refine GC_region ?_
      refine GL_v rfl (rv_ldA a30 vw rfl) ?_
      refine GL_stA (l' := MsgX.cells x) rfl rfl c30 (MsgX.cells_one _) (by rfl) ?_
      refine GL_v rfl (rv_as (v := .int .i64 _) vw) ?_
      refine GL_nil ?_
      refine GC_ret ?_
      exact finA (T' := [msgR x]) (.inr rfl) rfl rfl rfl inferInstance a30 rfl .nil sb ⟨x, rfl, rfl, rfl, rfl⟩
    ·
     have hd1 : ¬ dir = 1 := by have := h4; simpa using this
     rw [if_neg hd1] at hp
     refine GC_region ?_
     refine GL_v rfl (rv_mv (v := .pointer _) vw) ?_
     refine GL_call rfl cb74 (Byte_k B n10 k10 A10 r10 s10 e11 hn10) rfl pB sR ?_
     rintro _ _ _ ⟨nx, r14, s14, e14, A14, n14, k14, hc14, hn14, rfl, rfl, rfl⟩
     simp only [List.cons_append, List.nil_append]
     refine GL_v rfl (rv_fa fa30_20 vw) ?_
     refine GL_st (u := b8 nx) rfl rfl c5 rfl ?_
     refine GL_shift .nil (msg0 { code := code, mei := a, kind := kd, next := nx }) ?_
     refine GL_nil ?_
     refine GC_seq ?_
     refine GC_region ?_
     try simp only [hc2, hc3, hc10, hc11, hc14] at hp
     refine GL_v rfl (rv_mv (v := .pointer _) vw) ?_
     refine GL_call rfl cb159 (End_k B n14 k14 A14 r14 s14 e14) rfl pB sR ?_
     rintro _ _ _ ⟨e15, hc15, rfl, rfl, rfl⟩
     simp only [List.cons_append, List.nil_append]
     have hfin := hc15
     refine GL_nil ?_
     refine GC_seq ?_
     refine GC_seq ?_
     refine GC_region ?_
     refine GL_v rfl (rv_mv (v := .pointer _) vw) ?_
     refine GL_callD rfl cb160 (Err_ct B n14 k14 A14 s14 e15) rfl pB .nil ?_
     refine GL_v rfl (rv_as (v := .int .i64 _) vw) ?_
     refine GL_nil ?_
     refine GC_seq ?_
     refine GC_region ?_
     refine GL_v rfl (rv_mv (v := .int .i64 _) vw) ?_
     refine GL_v rfl (rv_neq vw vw) ?_
     refine GL_nil ?_
     refine GC_cond rfl (fun h6 => ?_) (fun h6 => ?_)
     ·
      have he : ¬ e15 = 0 := by have := h6; simpa using this
      rw [finish_no hfin he] at hp
      obtain rfl := hp
      refine GC_seq ?_
      refine GC_region ?_
      refine GL_v rfl (rv_bld (z' := [.int .u8 0, .int .u8 0, .int .u16 0, .int .u16 0, .int .u16 0, .int .u16 0, .int .u16 0, .int .u16 0, .int .u16 0, .int .u16 0, .int .u16 0, .int .u16 0, .slice none 0 0, .slice none 0 0, .slice none 0 0, .slice none 0 0, .int .u8 0, .int .u8 0, .int .u8 0, .int .u8 0, .int .u8 0, .slice none 0 0]) z30 l30 (fun _ => rfl)) ?_
      refine GL_v rfl (rv_mv (v := .int .i64 _) vw) ?_
      refine GL_stA rfl rfl c30 (by simp [Value.oneCell']) (by rfl) ?_
      refine GL_v rfl (rv_as (v := .int .i64 _) vw) ?_
      refine GL_nil ?_
      refine GC_shift .nil (msg0 {}) ?_
      refine GC_ret ?_
      exact finA (T' := [msgR { m := {} }]) (.inr rfl) rfl rfl rfl inferInstance a30 rfl .nil sb ⟨{ m := {} }, rfl, rfl, rfl, rfl⟩
     ·
      have he : e15 = 0 := by have := h6; simpa using this
      rw [finish_ok hfin he] at hp
      obtain rfl := hp
      refine GC_skip ?_
      refine GC_seq ?_
      refine GC_region ?_
      refine GL_v rfl (rv_ldA a30 vw rfl) ?_
      refine GL_stA (l' := MsgX.cells ({ m := { code := code, mei := a, kind := kd, next := nx } } : MsgX)) rfl rfl c30 (MsgX.cells_one _) (by rfl) ?_
      refine GL_v rfl (rv_as (v := .int .i64 _) vw) ?_
      refine GL_nil ?_
      refine GC_ret ?_
      exact finA (T' := [msgR ({ m := { code := code, mei := a, kind := kd, next := nx } } : MsgX)]) (.inr rfl) rfl rfl rfl inferInstance a30 rfl .nil sb ⟨({ m := { code := code, mei := a, kind := kd, next := nx } } : MsgX), rfl, rfl, rfl, rfl⟩
theorem L12_ct (dir : Int) (x : MsgX) (hf : x.m.few) : Ct PG 172 [.int .i64 dir, .agg x.cells.toArray] [] [msgR x] (BytesO (L12 dir x.m)) := by
 refine Ct_of Tryz.func172 rfl 64 rfl (Nat.le_of_ble_eq_true rfl) fun w0 M N => ?_
 refine GC_msg x fun hx => ?_
 have hdata := hx.data
 have hobj := hx.objs
 have hsame := hx.1.2
 have hro := hx.2.2.2.2.2
 obtain ⟨f1, f2, f3, f4, f5, f6, f7⟩ := hf
 obtain ⟨l, hl⟩ : ∃ l, L12 dir x.m = l := ⟨_, rfl⟩
 rw [hl]
 simp only [L12] at hl
 refine GC_shift .nil (msg_data (x := x)) ?_
 refine GC_shift .nil (msg_objs (x := x)) ?_
 refine GC_seq ?_
 refine GC_region ?_
 refine GL_boxA (l := x.cells) rfl rfl (fun b3 => ?_)
 rw [x.cells_eq]
 refine GL_v rfl (rv_as (v := .slice _ _ _) vw) ?_
 refine GL_nil ?_
 refine GC_seq ?_
 refine GC_block ?_
 refine GC_seq ?_
 refine GC_region ?_
 refine GL_v rfl (rv_fa fa30_16 vw) ?_
 refine GL_v rfl (rv_ld Tryz.underlying5 rfl vw) ?_
 refine GL_v rfl (rv_eql vw vw) ?_
 refine GL_v rfl (rv_as (v := .bool _) vw) ?_
 refine GL_nil ?_
 refine GC_cond rfl (fun h0 => ?_) (fun h0 => ?_)
 ·
  have c0 : x.m.mei.toNat = 13 := by have := h0; simp at this; omega
  rw [if_pos c0] at hl
  subst hl
  refine GC_seq ?_
  refine GC_region ?_
  refine GL_v rfl (rv_fa fa30_16 vw) ?_
  refine GL_v rfl (rv_ld Tryz.underlying5 rfl vw) ?_
  refine GL_bs (l := bytesV [x.m.mei]) rfl el22 z5 rfl rfl rfl (fun b14 => ?_)
  refine GL_shift (.cons .here .nil) (blk_own (n := 1) (sz := 1) rfl (by decide)) ?_
  refine GL_v rfl (rv_fa fa30_14 vw) ?_
  refine GL_v rfl (rv_ld Tryz.underlying22 rfl vw) ?_
  refine GL_app (m := x.d.n) rfl el22 rfl rfl pW (by rw [bytesV_length, hdata, Nat.mul_one]) (bytesV_one _) (by omega) (by simp [maxLen]; omega) (fun A5 k5 => ?_)
  rw [← bytesV_append]
  refine GL_shift (.cons .here .nil) own_toRow ?_
  refine GL_v rfl (rv_as (v := .slice _ _ _) vw) ?_
  refine GL_nil ?_
  refine GC_ret ?_
  exact fin1 (T' := [row 1 A5 (1 + x.d.n) k5 (bytesV ([x.m.mei] ++ x.m.data))]) (.inr rfl) rfl rfl .nil sb ⟨A5, _, k5, rfl, rfl, rfl⟩
 ·
  have c0 : ¬ x.m.mei.toNat = 13 := by have := h0; simp at this; omega
  rw [if_neg c0] at hl
  refine GC_seq ?_
  refine GC_region ?_
  refine GL_v rfl (rv_mv (v := .int .i64 _) vw) ?_
  refine GL_v rfl (rv_eql vw vw) ?_
  refine GL_v rfl (rv_as (v := .bool _) vw) ?_
  refine GL_nil ?_
  refine GC_cond rfl (fun h1 => ?_) (fun h1 => ?_)
  ·
   have c1 : dir = 0 := by have := h1; simpa using this
   rw [if_pos c1] at hl
   subst hl
   refine GC_seq ?_
   refine GC_region ?_
   refine GL_v rfl (rv_fa fa30_16 vw) ?_
   refine GL_v rfl (rv_ld Tryz.underlying5 rfl vw) ?_
   refine GL_v rfl (rv_fa fa30_17 vw) ?_
   refine GL_v rfl (rv_ld Tryz.underlying5 rfl vw) ?_
   refine GL_v rfl (rv_fa fa30_20 vw) ?_
   refine GL_v rfl (rv_ld Tryz.underlying5 rfl vw) ?_
   refine GL_bs (l := bytesV [x.m.mei, x.m.kind, x.m.next]) rfl el22 z5 rfl rfl rfl (fun b27 => ?_)
   refine GL_shift (.cons .here .nil) (blk_own (n := 3) (sz := 1) rfl (by decide)) ?_
   refine GL_shift (.cons .here .nil) own_toRow ?_
   refine GL_v rfl (rv_as (v := .slice _ _ _) vw) ?_
   refine GL_nil ?_
   refine GC_ret ?_
   exact fin1 (.inr rfl) rfl rfl .nil sb ⟨_, 3, 3, rfl, rfl, rfl⟩
  ·
   have c1 : ¬ dir = 0 := by have := h1; simpa using this
   rw [if_neg c1] at hl
   refine GC_skip ?_
   refine GC_seq ?_
   refine GC_region ?_
   refine GL_v rfl (rv_fa fa30_16 vw) ?_
   refine GL_v rfl (rv_ld Tryz.underlying5 rfl vw) ?_
   refine GL_v rfl (rv_fa fa30_17 vw) ?_
   refine GL_v rfl (rv_ld Tryz.underlying5 rfl vw) ?_
   refine GL_v rfl (rv_fa fa30_18 vw) ?_
   refine GL_v rfl (rv_ld Tryz.underlying5 rfl vw) ?_
   refine GL_v rfl (rv_fa fa30_19 vw) ?_
   refine GL_v rfl (rv_ld Tryz.underlying5 rfl vw) ?_
   refine GL_v rfl (rv_fa fa30_20 vw) ?_
   refine GL_v rfl (rv_ld Tryz.underlying5 rfl vw) ?_
   refine GL_v rfl (rv_fa fa30_21 vw) ?_
   refine GL_v rfl (rv_ld Tryz.underlying28 rfl vw) ?_
   refine GL_v rfl (rv_len el28 vw) ?_
   refine GL_v rfl (rv_cnv (r := ((UInt8.ofNat x.o.n).toNat : Int)) Tryz.underlying3 Tryz.underlying5 vw (fun _ => wrap8 _)) ?_
   refine GL_bs (l := bytesV [x.m.mei, x.m.kind, x.m.level, x.m.more, x.m.next, UInt8.ofNat x.o.n]) rfl el22 z5 rfl rfl rfl (fun b42 => ?_)
   refine GL_shift (.cons .here .nil) (blk_own (n := 6) (sz := 1) rfl (by decide)) ?_
   refine GL_v rfl (rv_as (v := .slice _ _ _) vw) ?_
   refine GL_nil ?_
   refine GC_seq ?_
   refine GC_seq ?_
   refine GC_region ?_
   refine GL_v rfl (rv_fa fa30_21 vw) ?_
   refine GL_v rfl (rv_ld Tryz.underlying28 rfl vw) ?_
   refine GL_v rfl (rv_len el28 vw) ?_
   refine GL_v rfl (rv_mv (v := .int .i64 _) vw) ?_
   refine GL_nil ?_
   refine GC_drop (.cons .here .nil) ?_
   refine GC_dropT (T' := [row 2 x.o.A x.o.n x.o.k (objsV x.m.objects x.ow), msgR x]) sb ?_
   refine GC_block ?_
   refine GC_loop (fun (i : Nat) E S T => i ≤ x.o.n ∧ ∃ Ao no ko, no = 6 + (objsB (x.m.objects.take i)).length ∧ no ≤ 6 + 302 * i ∧ At E [(5, .slice Ao no ko), (44, .slice x.o.A x.o.n x.o.k), (45, .int .i64 x.o.n), (46, .int .i64 i)] ∧ S = [own 5 1 Ao no ko (bytesV ([x.m.mei, x.m.kind, x.m.level, x.m.more, x.m.next, UInt8.ofNat x.o.n] ++ objsB (x.m.objects.take i)))] ∧ T = [row 2 x.o.A x.o.n x.o.k (objsV x.m.objects x.ow), msgR x]) (fun i => x.o.n - i) 0 ?_ ?_
   · refine ⟨Nat.zero_le _, _, 6, 6, rfl, Nat.le_refl _, ⟨rfl, rfl, rfl, rfl, trivial⟩, ?_, rfl⟩
     rfl
   rintro i E S T ⟨hi, Ao, no, ko, hno, hbd, hE, rfl, rfl⟩
   obtain ⟨E0, rfl⟩ := hE.ex
   refine GC_seq ?_
   refine GC_region ?_
   refine GL_v rfl (rv_lss vw vw) ?_
   refine GL_nil ?_
   refine GC_seq ?_
   refine GC_cond rfl (fun h2 => ?_) (fun h2 => ?_)
   ·
    have hlt : i < x.m.objects.length := by have := h2; simp at this; omega
    have hio : i < x.ow.length := by omega
    have hA : x.o.A ≠ none := hro.2.2.2.2 (by omega) (by decide)
    have hv := f7 _ (List.getElem_mem hlt)
    refine GC_shift .nil (msg_obj (x := x) i hlt hio) ?_
    refine GC_row (x.ow[i]'hio).A fun hrv => ?_
    have hvl : (x.m.objects[i]'hlt).value.length = (x.ow[i]'hio).n := by have := hrv.1; simpa [bytesV] using this
    refine GC_skip ?_
    refine GC_seq ?_
    refine GC_block ?_
    refine GC_seq ?_
    refine GC_region ?_
    refine GL_v rfl (rv_ix (i := i) el28 vw vw (fun _ => rfl) (fun _ => by omega) (fun _ => hA)) ?_
    refine GL_v rfl (rv_ldEA (sz := 2) (m := x.o.n) (c := x.o.k) (cells := objsV x.m.objects x.ow) (hl := ⟨fun w q => q.sat.okT _ (by simp)⟩) (cs := objCells (x.m.objects[i]'hlt) (x.ow[i]'hio)) a78 vw (fun _ => objsV_at _ _ i hlt hio) (fun _ => rfl)) ?_
    refine GL_alloc rfl z78 (fun b7 => ?_)
    refine GL_stA (l' := objCells (x.m.objects[i]'hlt) (x.ow[i]'hio)) rfl rfl c78 (objCells_one _ _) (by rfl) ?_
    simp only [objCells]
    refine GL_nil ?_
    refine GC_draw 13 ([blk b7 [b8 (x.m.objects[i]'hlt).id, .slice (x.ow[i]'hio).A (x.ow[i]'hio).n (x.ow[i]'hio).k] 78]) mixed ?_
    refine GA_v (i := 0) rfl rfl rfl (by kernel_rfl) (rv_mv (v := .slice _ _ _) vw) ?_
    refine GA_v (i := 1) rfl rfl rfl (by kernel_rfl) (rv_fa fa78_0 vw) ?_
    refine GA_v (i := 2) rfl rfl rfl (by kernel_rfl) (rv_ld Tryz.underlying5 rfl vw) ?_
    refine GA_v (i := 3) rfl rfl rfl (by kernel_rfl) (rv_fa fa78_1 vw) ?_
    refine GA_v (i := 4) rfl rfl rfl (by kernel_rfl) (rv_ld Tryz.underlying22 rfl vw) ?_
    refine GA_v (i := 5) rfl rfl rfl (by kernel_rfl) (rv_len el22 vw) ?_
    refine GA_v (i := 6) rfl rfl rfl (by kernel_rfl) (rv_cnv (r := ((UInt8.ofNat (x.ow[i]'hio).n).toNat : Int)) Tryz.underlying3 Tryz.underlying5 vw (fun _ => wrap8 _)) ?_
    refine GA_v (i := 9) rfl rfl rfl (by kernel_rfl) (rv_fa fa78_1 vw) ?_
    refine GA_v (i := 10) rfl rfl rfl (by kernel_rfl) (rv_ld Tryz.underlying22 rfl vw) ?_
    refine GA_one 7 rfl rfl (by kernel_rfl) ?_
    refine GL_bs (l := bytesV [(x.m.objects[i]'hlt).id, UInt8.ofNat (x.ow[i]'hio).n]) rfl el22 z5 rfl rfl rfl (fun b57 => ?_)
    refine GL_nil ⟨inferInstance, ?_⟩
    refine GA_one 8 rfl rfl (by kernel_rfl) ?_
    refine GL_app (m := 2) rfl el22 rfl rfl pW rfl (bytesV_one _) (by omega) (by simp [maxLen]; omega) (fun A3 k3 => ?_)
    refine GL_nil ⟨inferInstance, ?_⟩
    refine GA_one 11 rfl rfl (by kernel_rfl) ?_
    refine GL_app (m := (x.ow[i]'hio).n) rfl el22 rfl rfl pW (by rw [bytesV_length, hvl, Nat.mul_one]) (bytesV_one _) (by omega) (by simp [maxLen]; omega) (fun A4 k4 => ?_)
    refine GL_nil ⟨inferInstance, ?_⟩
    refine GA_v (i := 12) rfl rfl rfl (by kernel_rfl) (rv_as (v := .slice _ _ _) vw) ?_
    refine GA_nil (by kernel_rfl) ?_
    refine GC_region ?_
    refine GL_v rfl (rv_add (r := ((i + 1 : Nat) : Int)) vw vw (fun _ => by rw [IntWalk.i64_in _ (by omega)]; omega)) ?_
    refine GL_v rfl (rv_mv (v := .int .i64 _) vw) ?_
    rw [← bytesV_append, ← bytesV_append, ← hvl, List.append_assoc, List.append_assoc, show objsB (x.m.objects.take i) ++ ([(x.m.objects[i]'hlt).id, UInt8.ofNat (x.m.objects[i]'hlt).value.length] ++ (x.m.objects[i]'hlt).value) = objsB (x.m.objects.take (i + 1)) by rw [take_snoc _ i hlt, objsB_snoc]]
    refine GL_drop (.cons .here .nil) (GL_dropT (T' := [row 2 x.o.A x.o.n x.o.k (objsV x.m.objects x.ow), msgR x]) sb ?_)
    refine GL_nil ?_
    refine ⟨i + 1, ⟨by omega, A4, _, k4, ?_, ?_, ⟨rfl, rfl, rfl, rfl, trivial⟩, rfl, rfl⟩, by omega⟩
    · rw [take_snoc _ i hlt, objsB_snoc]; simp; omega
    · omega
   ·
    obtain rfl : i = x.o.n := by have := h2; simp at this; omega
    rw [List.take_of_length_le (by omega)] at hno ⊢
    rw [hobj] at hl
    subst hl
    refine GC_shift (.cons .here .nil) own_toRow ?_
    refine GC_exit ?_
    refine GC_seq ?_
    refine GC_region ?_
    refine GL_v rfl (rv_mv (v := .slice _ _ _) vw) ?_
    refine GL_v rfl (rv_as (v := .slice _ _ _) vw) ?_
    refine GL_nil ?_
    refine GC_ret ?_
    exact fin1 (.inr rfl) rfl rfl .nil sb ⟨Ao, _, ko, rfl, rfl, rfl⟩
theorem W12_ct (dir : Int) (x : MsgX) (hf : x.m.few) : Ct PG 107 [.int .i64 dir, .agg x.cells.toArray] [] [msgR x] (BytesOut (W12 dir x.m)) := by
 refine Ct_of Tryz.func107 rfl 29 rfl (Nat.le_of_ble_eq_true rfl) fun w0 M N => ?_
 refine GC_seq ?_
 refine GC_region ?_
 refine GL_boxA (l := x.cells) rfl rfl (fun b3 => ?_)
 refine GL_v rfl (rv_as (v := .slice _ _ _) vw) ?_
 refine GL_v rfl (rv_as (v := .int .i64 _) vw) ?_
 refine GL_nil ?_
 refine GC_seq ?_
 refine GC_region ?_
 refine GL_v rfl (rv_mv (v := .int .i64 _) vw) ?_
 refine GL_v rfl (rv_ldA (l := x.cells) a30 vw rfl) ?_
 refine GL_call rfl cb172 (L12_ct dir x hf) rfl .nil sb ?_
 rintro _ _ _ ⟨A, n, k, rfl, rfl, rfl⟩
 simp only [List.cons_append, List.nil_append]
 refine GL_row A fun hr => ?_
 have hn : (L12 dir x.m).length = n := by have := hr.1; simpa [bytesV] using this
 have hlen := L12_len dir x.m hf
 refine GL_v rfl (rv_as (v := .slice _ _ _) vw) ?_
 refine GL_nil ?_
 refine GC_seq ?_
 refine GC_region ?_
 refine GL_v rfl (rv_mv (v := .int .i64 _) vw) ?_
 refine GL_v rfl (rv_fa fa30_0 vw) ?_
 rw [x.cells_eq]
 refine GL_v rfl (rv_ld (v := b8 x.m.code) Tryz.underlying5 rfl vw) ?_
 refine GL_v rfl (rv_mv (v := .slice _ _ _) vw) ?_
 refine GL_call rfl cb106 (P12_ct dir x.m.code A n k (L12 dir x.m) (by omega)) rfl .nil sb ?_
 rintro _ _ _ ⟨y, rfl, hy, rfl, rfl⟩
 simp only [List.cons_append, List.nil_append]
 obtain ⟨p, e, hp⟩ : ∃ p e, P12 dir x.m.code (L12 dir x.m) = (p, e) := ⟨_, _, rfl⟩
 rw [hp] at hy ⊢
 simp only at hy ⊢
 refine GL_v rfl (rv_mv (v := .tuple [.agg y.cells.toArray, .int .i64 e].toArray) vw) ?_
 refine GL_v rfl (rv_ext vw rfl) ?_
 refine GL_v rfl (rv_ext vw rfl) ?_
 refine GL_alloc rfl z30 (fun b7 => ?_)
 refine GL_stA (l' := y.cells) rfl rfl c30 (MsgX.cells_one _) (by rfl) ?_
 rw [← x.cells_eq]
 refine GL_v rfl (rv_as (v := .int .i64 _) vw) ?_
 refine GL_nil ?_
 refine GC_seq ?_
 refine GC_seq ?_
 refine GC_region ?_
 refine GL_v rfl (rv_mv (v := .int .i64 _) vw) ?_
 refine GL_v rfl (rv_neq vw vw) ?_
 refine GL_v rfl (rv_mv (v := .bool _) vw) ?_
 refine GL_g rfl rfl gvf (rv_ldA (l := y.cells) a30 vw rfl) ?_
 refine GL_g rfl rfl gvf (rv_ldA (l := x.cells) a30 vw rfl) ?_
 refine GL_callG rfl rfl gvf cb125 (fun _ => SameP_ct y x) (fun q => by show [gd _ _, gd _ _] = _; rw [vwg q, vwg q]) (fun _ => sb) ?_
 refine GL_g rfl rfl gvf (rv_not vwg) ?_
 refine GL_v rfl (rv_or vw vwg) ?_
 refine GL_nil ?_
 refine GC_cond rfl (fun h0 => ?_) (fun h0 => ?_)
 ·
  have hh : ¬ (e = 0 ∧ p = x.m) := by
   rintro ⟨rfl, rfl⟩
   rw [hy] at h0; simp at h0
  have he : W12 dir x.m = ([], 1) := by unfold W12 writeBy; rw [hp]; exact if_neg hh
  rw [he]
  refine GC_seq ?_
  refine GC_region ?_
  refine GL_v rfl (rv_as (v := .slice _ _ _) vw) ?_
  refine GL_v rfl (rv_as (v := .int .i64 _) vw) ?_
  refine GL_nil ?_
  refine GC_shift .nil (nil_row (sz := 1)) ?_
  refine GC_ret ?_
  exact fin2 (T' := [row 1 none 0 0 []]) (.inr rfl) rfl rfl rfl .nil sb ⟨none, 0, 0, rfl, rfl, rfl⟩
 ·
  have hh : e = 0 ∧ p = x.m := by
   rw [hy] at h0; simpa using h0
  have he : W12 dir x.m = (L12 dir x.m, 0) := by unfold W12 writeBy; rw [hp]; exact if_pos hh
  rw [he]
  refine GC_skip ?_
  refine GC_seq ?_
  refine GC_region ?_
  refine GL_v rfl (rv_mv (v := .slice _ _ _) vw) ?_
  refine GL_v rfl (rv_as (v := .slice _ _ _) vw) ?_
  refine GL_v rfl (rv_as (v := .int .i64 _) vw) ?_
  refine GL_nil ?_
  refine GC_ret ?_
  exact fin2 (.inr rfl) rfl rfl rfl .nil sb ⟨A, n, k, rfl, rfl, rfl⟩
end Go.Bus
