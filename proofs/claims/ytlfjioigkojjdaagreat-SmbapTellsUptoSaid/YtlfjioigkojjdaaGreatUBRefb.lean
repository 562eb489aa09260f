/- Part of the proof: Refb. No condition. -/
import Derived.Test.YtlfjioigkojjdaaGreatUBRefa
import Derived.Test.YtlfjioigkojjdaaGreatUBCurk
set_option linter.unusedVariables false
set_option linter.unusedSimpArgs false
set_option maxRecDepth 100000
set_option maxHeartbeats 4000000
namespace Go.Bus
open Go Go.Proofs
abbrev rcub (B : Nat) (A : Option Addr) (n k : Nat) (p : Nat) (s : Bool) (e : Int) : Res := blk B [.slice A n k, .int .i64 p, .bool s, .int .i64 e] 113
theorem rNeed_ct (B n k p : Nat) (A : Option Addr) (s : Bool) (e : Int) (ok : Bool) (j : Int) : CtD PG 112 [.pointer (some ⟨B, 0, none⟩), .bool ok, .int .i64 j] [rcub B A n k p s e] [] (.tuple #[]) [rcub B A n k p s (needE e ok j)] [] := by
 refine Ct_of Tryz.func112 rfl 18 rfl (Nat.le_of_ble_eq_true rfl) fun w0 M N => ?_
 refine GC_seq ?_
 refine GC_seq ?_
 refine GC_region ?_
 refine GL_v rfl (rv_mv (v := .bool _) vw) ?_
 refine GL_v rfl (rv_mv (v := .bool _) vw) ?_
 refine GL_g rfl rfl gvf (rv_mv (v := .pointer _) vw) ?_
 refine GL_g rfl rfl gvf (rv_nil vwg) ?_
 refine GL_g rfl rfl gvf (rv_fa fa113_3 vwg) ?_
 refine GL_g rfl rfl gvf (rv_ld Tryz.underlying31 rfl vwg) ?_
 refine GL_g rfl rfl gvf (rv_neq vwg vw) ?_
 refine GL_v rfl (rv_or vw vwg) ?_
 refine GL_nil ?_
 refine GC_cond rfl (fun h0 => ?_) (fun h0 => ?_)
 ·
  have hh : ¬ (e = 0 ∧ ok = false) := by rintro ⟨rfl, rfl⟩; simp at h0
  have he : needE e ok j = e := if_neg hh
  refine GC_ret ?_
  exact fin0 (.inr rfl) rfl (.cons .here .nil) .nil ⟨rfl, by rw [he], rfl⟩
 ·
  have hh : e = 0 ∧ ok = false := by cases ok <;> simp at h0 ⊢; exact h0
  have he : needE e ok j = j := if_pos hh
  refine GC_skip ?_
  refine GC_region ?_
  refine GL_v rfl (rv_mv (v := .pointer _) vw) ?_
  refine GL_v rfl (rv_mv (v := .int .i64 _) vw) ?_
  refine GL_v rfl (rv_nil vw) ?_
  refine GL_v rfl (rv_fa fa113_3 vw) ?_
  refine GL_st (u := .int .i64 _) rfl rfl c31 rfl ?_
  refine GL_nil ?_
  exact fin0 (.inl rfl) rfl (.cons .here .nil) .nil ⟨rfl, by rw [he], rfl⟩
theorem rLeft_ct (B n k p : Nat) (A : Option Addr) (s : Bool) (e : Int) (hp : p ≤ n ∧ n ≤ 35184372088832) : CtD PG 121 [.pointer (some ⟨B, 0, none⟩)] [rcub B A n k p s e] [] (.int .i64 ((n : Int) - p)) [rcub B A n k p s e] [] := by
 refine Ct_of Tryz.func121 rfl 13 rfl (Nat.le_of_ble_eq_true rfl) fun w0 M N => ?_
 refine GC_seq ?_
 refine GC_region ?_
 refine GL_v rfl (rv_as (v := .int .i64 _) vw) ?_
 refine GL_nil ?_
 refine GC_seq ?_
 refine GC_draw 10 ([rcub B A n k p s e]) mixed ?_
 refine GA_v (i := 0) rfl rfl rfl (by kernel_rfl) (rv_mv (v := .pointer _) vw) ?_
 refine GA_v (i := 1) rfl rfl rfl (by kernel_rfl) (rv_nil vw) ?_
 refine GA_v (i := 2) rfl rfl rfl (by kernel_rfl) (rv_fa fa113_0 vw) ?_
 refine GA_v (i := 3) rfl rfl rfl (by kernel_rfl) (rv_ld Tryz.underlying22 rfl vw) ?_
 refine GA_v (i := 4) rfl rfl rfl (by kernel_rfl) (rv_len el22 vw) ?_
 refine GA_v (i := 5) rfl rfl rfl (by kernel_rfl) (rv_mv (v := .pointer _) vw) ?_
 refine GA_v (i := 6) rfl rfl rfl (by kernel_rfl) (rv_nil vw) ?_
 refine GA_v (i := 7) rfl rfl rfl (by kernel_rfl) (rv_fa fa113_1 vw) ?_
 refine GA_v (i := 8) rfl rfl rfl (by kernel_rfl) (rv_ld Tryz.underlying3 rfl vw) ?_
 refine GA_v (i := 9) rfl rfl rfl (by kernel_rfl) (rv_sub (r := (n : Int) - p) vw vw (fun _ => IntWalk.i64_in _ (by omega))) ?_
 refine GA_free (by kernel_rfl) ?_
 refine GA_w (i := 10) rfl rfl rfl (by kernel_rfl) (rv_as (v := .int .i64 _) vw) ?_
 refine GA_nil (by kernel_rfl) ?_
 refine GC_ret ?_
 exact fin1 (.inr rfl) rfl rfl (.cons .here .nil) .nil ⟨rfl, rfl, rfl⟩
theorem rEnd_ct (B n k p : Nat) (A : Option Addr) (s : Bool) (e : Int) (hp : p ≤ n ∧ n ≤ 35184372088832) : CtD PG 117 [.pointer (some ⟨B, 0, none⟩)] [rcub B A n k p s e] [] (.tuple #[]) [rcub B A n k p s (needE e (decide ((n : Int) - p = 0)) 3)] [] := by
 refine Ct_of Tryz.func117 rfl 7 rfl (Nat.le_of_ble_eq_true rfl) fun w0 M N => ?_
 refine GC_region ?_
 refine GL_v rfl (rv_mv (v := .pointer _) vw) ?_
 refine GL_v rfl (rv_mv (v := .pointer _) vw) ?_
 refine GL_callD rfl cb121 (rLeft_ct B n k p A s e hp) rfl pB .nil ?_
 refine GL_v rfl (rv_eql vw vw) ?_
 refine GL_callD rfl cb112 (rNeed_ct B n k p A s e _ 3) rfl pB .nil ?_
 refine GL_nil ?_
 exact fin0 (.inl rfl) rfl (.cons .here .nil) .nil ⟨rfl, rfl, rfl⟩
theorem rBytes_ct (B n k p : Nat) (A : Option Addr) (l : List UInt8) (s : Bool) (e : Int) (j : Int) (hp : p ≤ n ∧ n ≤ 35184372088832) : Ct PG 113 [.pointer (some ⟨B, 0, none⟩), .int .i64 j] [rcub B A n k p s e] [row 1 A n k (bytesV l)]
 (fun v S' T' => ∃ a p1 s1 e1 A2 n2 k2, Cu.bytes ⟨l.drop p, s, e⟩ j = (a, ⟨l.drop p1, s1, e1⟩) ∧ p1 ≤ n ∧ n2 ≤ n ∧ v = .slice A2 n2 k2 ∧ S' = [rcub B A n k p1 s1 e1] ∧ T' = [row 1 A2 n2 k2 (bytesV a)]) := by
 refine Ct_of Tryz.func113 rfl 64 rfl (Nat.le_of_ble_eq_true rfl) fun w0 M N => ?_
 refine GC_row A fun hrow => ?_
 have hl : l.length = n := by have := hrow.1; simpa [bytesV] using this
 have hdl : ((l.drop p).length : Int) = (n : Int) - p := by simp; omega
 refine GC_seq ?_
 refine GC_region ?_
 refine GL_v rfl (rv_as (v := .slice _ _ _) vw) ?_
 refine GL_nil ?_
 refine GC_seq ?_
 refine GC_seq ?_
 refine GC_draw 22 ([rcub B A n k p s e]) mixed ?_
 refine GA_v (i := 0) rfl rfl rfl (by kernel_rfl) (rv_mv (v := .pointer _) vw) ?_
 refine GA_v (i := 1) rfl rfl rfl (by kernel_rfl) (rv_nil vw) ?_
 refine GA_v (i := 2) rfl rfl rfl (by kernel_rfl) (rv_fa fa113_2 vw) ?_
 refine GA_v (i := 3) rfl rfl rfl (by kernel_rfl) (rv_ld Tryz.underlying4 rfl vw) ?_
 refine GA_v (i := 4) rfl rfl rfl (by kernel_rfl) (rv_mv (v := .bool _) vw) ?_
 refine GA_g (i := 5) rfl rfl rfl (by kernel_rfl) rfl gvf (rv_mv (v := .int .i64 _) vw) ?_
 refine GA_g (i := 6) rfl rfl rfl (by kernel_rfl) rfl gvf (rv_lss vwg vw) ?_
 refine GA_v (i := 7) rfl rfl rfl (by kernel_rfl) (rv_or vw vwg) ?_
 refine GA_v (i := 8) rfl rfl rfl (by kernel_rfl) (rv_mv (v := .bool _) vw) ?_
 refine GA_g (i := 9) rfl rfl rfl (by kernel_rfl) rfl gvf (rv_mv (v := .int .i64 _) vw) ?_
 refine GA_g (i := 10) rfl rfl rfl (by kernel_rfl) rfl gvf (rv_mv (v := .pointer _) vw) ?_
 refine GA_g (i := 11) rfl rfl rfl (by kernel_rfl) rfl gvf (rv_nil vwg) ?_
 refine GA_g (i := 12) rfl rfl rfl (by kernel_rfl) rfl gvf (rv_fa fa113_0 vwg) ?_
 refine GA_g (i := 13) rfl rfl rfl (by kernel_rfl) rfl gvf (rv_ld Tryz.underlying22 rfl vwg) ?_
 refine GA_g (i := 14) rfl rfl rfl (by kernel_rfl) rfl gvf (rv_len el22 vwg) ?_
 refine GA_g (i := 15) rfl rfl rfl (by kernel_rfl) rfl gvf (rv_mv (v := .pointer _) vw) ?_
 refine GA_g (i := 16) rfl rfl rfl (by kernel_rfl) rfl gvf (rv_nil vwg) ?_
 refine GA_g (i := 17) rfl rfl rfl (by kernel_rfl) rfl gvf (rv_fa fa113_1 vwg) ?_
 refine GA_g (i := 18) rfl rfl rfl (by kernel_rfl) rfl gvf (rv_ld Tryz.underlying3 rfl vwg) ?_
 refine GA_g (i := 19) rfl rfl rfl (by kernel_rfl) rfl gvf (rv_sub (r := (n : Int) - p) vwg vwg (fun _ => IntWalk.i64_in _ (by omega))) ?_
 refine GA_g (i := 20) rfl rfl rfl (by kernel_rfl) rfl gvf (rv_gtr vwg vwg) ?_
 refine GA_v (i := 21) rfl rfl rfl (by kernel_rfl) (rv_or vw vwg) ?_
 refine GA_nil (by kernel_rfl) ?_
 refine GC_cond rfl (fun h0 => ?_) (fun h0 => ?_)
 ·
  have hb : (⟨l.drop p, s, e⟩ : Cu).bad j = true := by
   have := h0; simp only [Cu.bad, hdl]; simpa [Bool.or_assoc] using this
  have hby : (⟨l.drop p, s, e⟩ : Cu).bytes j = ([], Cu.need ⟨[], true, e⟩ false 2) := if_pos hb
  refine GC_seq ?_
  refine GC_region ?_
  refine GL_v rfl (rv_mv (v := .pointer _) vw) ?_
  refine GL_v rfl (rv_nil vw) ?_
  refine GL_v rfl (rv_fa fa113_2 vw) ?_
  refine GL_st (u := .bool _) rfl rfl c4 rfl ?_
  refine GL_nil ?_
  refine GC_seq ?_
  refine GC_region ?_
  refine GL_v rfl (rv_mv (v := .pointer _) vw) ?_
  refine GL_v rfl (rv_mv (v := .pointer _) vw) ?_
  refine GL_v rfl (rv_nil vw) ?_
  refine GL_v rfl (rv_fa fa113_0 vw) ?_
  refine GL_v rfl (rv_ld Tryz.underlying22 rfl vw) ?_
  refine GL_v rfl (rv_len el22 vw) ?_
  refine GL_v rfl (rv_nil vw) ?_
  refine GL_v rfl (rv_fa fa113_1 vw) ?_
  refine GL_st (u := .int .i64 _) rfl rfl c3 rfl ?_
  refine GL_nil ?_
  refine GC_seq ?_
  refine GC_region ?_
  refine GL_v rfl (rv_mv (v := .pointer _) vw) ?_
  refine GL_callD rfl cb112 (rNeed_ct B n k n A true e false 2) rfl pB .nil ?_
  refine GL_nil ?_
  refine GC_seq ?_
  refine GC_region ?_
  refine GL_v rfl (rv_as (v := .slice _ _ _) vw) ?_
  refine GL_nil ?_
  refine GC_shift .nil (nil_row (sz := 1)) ?_
  refine GC_ret ?_
  exact fin1 (T' := [row 1 none 0 0 []]) (.inr rfl) rfl rfl (.cons .here .nil) sb ⟨[], n, true, _, none, 0, 0, by rw [hby, List.drop_eq_nil_of_le (by omega)]; rfl, Nat.le_refl _, Nat.zero_le _, rfl, rfl, rfl⟩
 ·
  have hb : ¬ (⟨l.drop p, s, e⟩ : Cu).bad j = true := by
   have := h0; simp only [Cu.bad, hdl]; simpa [Bool.or_assoc] using this
  have hh : s = false ∧ 0 ≤ j ∧ j ≤ (n : Int) - p := by have := h0; simpa [and_assoc] using this
  obtain ⟨m, rfl⟩ : ∃ m : Nat, j = m := ⟨j.toNat, by omega⟩
  have hby : (⟨l.drop p, s, e⟩ : Cu).bytes m = ((l.drop p).take m, ⟨l.drop (p + m), s, e⟩) := by
   unfold Cu.bytes; rw [if_neg hb]; simp [List.drop_drop]
  have hm : p + m ≤ n := by omega
  have e1 : ((bytesV l).drop (p * 1)).take ((p + m - p) * 1) = bytesV ((l.drop p).take m) := by
   simp [bytesV, List.map_drop, List.map_take]
  refine GC_skip ?_
  refine GC_seq ?_
  refine GC_region ?_
  refine GL_v rfl (rv_mv (v := .pointer _) vw) ?_
  refine GL_v rfl (rv_mv (v := .pointer _) vw) ?_
  refine GL_v rfl (rv_nil vw) ?_
  refine GL_v rfl (rv_fa fa113_1 vw) ?_
  refine GL_v rfl (rv_ld Tryz.underlying3 rfl vw) ?_
  refine GL_v rfl (rv_mv (v := .int .i64 _) vw) ?_
  refine GL_v rfl (rv_add (r := ((p + m : Nat) : Int)) vw vw (fun _ => by rw [IntWalk.i64_in _ (by omega)]; omega)) ?_
  refine GL_v rfl (rv_nil vw) ?_
  refine GL_v rfl (rv_fa fa113_1 vw) ?_
  refine GL_st (u := .int .i64 ((p + m : Nat) : Int)) rfl rfl c3 rfl ?_
  refine GL_shift .nil (row_cut (l := p) (h := p + m) (List.mem_cons_self ..) (by omega) hm (by decide)) ?_
  rw [e1]
  refine GL_nil ?_
  refine GC_seq ?_
  refine GC_draw 15 ([rcub B A n k (p + m) s e]) mixed ?_
  refine GA_v (i := 0) rfl rfl rfl (by kernel_rfl) (rv_mv (v := .pointer _) vw) ?_
  refine GA_v (i := 1) rfl rfl rfl (by kernel_rfl) (rv_nil vw) ?_
  refine GA_v (i := 2) rfl rfl rfl (by kernel_rfl) (rv_fa fa113_0 vw) ?_
  refine GA_v (i := 3) rfl rfl rfl (by kernel_rfl) (rv_ld Tryz.underlying22 rfl vw) ?_
  refine GA_v (i := 4) rfl rfl rfl (by kernel_rfl) (rv_mv (v := .pointer _) vw) ?_
  refine GA_v (i := 5) rfl rfl rfl (by kernel_rfl) (rv_nil vw) ?_
  refine GA_v (i := 6) rfl rfl rfl (by kernel_rfl) (rv_fa fa113_1 vw) ?_
  refine GA_v (i := 7) rfl rfl rfl (by kernel_rfl) (rv_ld Tryz.underlying3 rfl vw) ?_
  refine GA_v (i := 8) rfl rfl rfl (by kernel_rfl) (rv_mv (v := .int .i64 _) vw) ?_
  refine GA_v (i := 9) rfl rfl rfl (by kernel_rfl) (rv_sub (r := (p : Int)) vw vw (fun _ => by rw [IntWalk.i64_in _ (by omega)]; omega)) ?_
  refine GA_v (i := 10) rfl rfl rfl (by kernel_rfl) (rv_mv (v := .pointer _) vw) ?_
  refine GA_v (i := 11) rfl rfl rfl (by kernel_rfl) (rv_nil vw) ?_
  refine GA_v (i := 12) rfl rfl rfl (by kernel_rfl) (rv_fa fa113_1 vw) ?_
  refine GA_v (i := 13) rfl rfl rfl (by kernel_rfl) (rv_ld Tryz.underlying3 rfl vw) ?_
  refine GA_v (i := 14) rfl rfl rfl (by kernel_rfl) (rv_slB (l := p) (h := p + m) el22 vw vw vw (fun _ => rfl) (fun _ => rfl) (fun _ => ⟨by omega, by have := hrow.2.1; omega⟩)) ?_
  refine GA_free (by kernel_rfl) ?_
  refine GA_w (i := 15) rfl rfl rfl (by kernel_rfl) (rv_as (v := .slice _ _ _) vw) ?_
  refine GA_nil (by kernel_rfl) ?_
  refine GC_ret ?_
  exact fin1 (.inr rfl) rfl rfl (.cons .here .nil) sb ⟨(l.drop p).take m, p + m, s, e, _, _, _, hby, hm, by omega, rfl, rfl, rfl⟩
theorem words_alt {c : Cu} {j : Int} (hj : 0 ≤ j) : c.words j = (wordTake (c.bytes (2 * j)).1, (c.bytes (2 * j)).2) := by
 unfold Cu.words
 split
 · rename_i h
   have h1 : (c.r.length : Int) < j := by omega
   have b1 : c.bad (-1) = true := by simp [Cu.bad]
   have b2 : c.bad (2 * j) = true := by simp [Cu.bad]; omega
   unfold Cu.bytes
   rw [if_pos b1, if_pos b2]; rfl
 · rfl
theorem rWords_ct (B n k p : Nat) (A : Option Addr) (l : List UInt8) (s : Bool) (e : Int) (j : Int) (hp : p ≤ n ∧ n ≤ 35184372088832) : Ct PG 118 [.pointer (some ⟨B, 0, none⟩), .int .i64 j] [rcub B A n k p s e] [row 1 A n k (bytesV l)]
 (fun v S' T' => ∃ a p1 s1 e1 A2 n2 k2, Cu.words ⟨l.drop p, s, e⟩ j = (a, ⟨l.drop p1, s1, e1⟩) ∧ p1 ≤ n ∧ v = .slice A2 n2 k2 ∧ S' = [rcub B A n k p1 s1 e1] ∧ T' = [row 1 A2 n2 k2 (wordsV a)]) := by
 refine Ct_of Tryz.func118 rfl 25 rfl (Nat.le_of_ble_eq_true rfl) fun w0 M N => ?_
 refine GC_row A fun hrow => ?_
 have hl : l.length = n := by have := hrow.1; simpa [bytesV] using this
 have hdl : (l.drop p).length = n - p := by simp; omega
 refine GC_seq ?_
 refine GC_region ?_
 refine GL_v rfl (rv_as (v := .slice _ _ _) vw) ?_
 refine GL_nil ?_
 refine GC_seq ?_
 refine GC_seq ?_
 refine GC_region ?_
 refine GL_v rfl (rv_mv (v := .int .i64 _) vw) ?_
 refine GL_v rfl (rv_lss vw vw) ?_
 refine GL_v rfl (rv_mv (v := .bool _) vw) ?_
 refine GL_g rfl rfl gvf (rv_mv (v := .int .i64 _) vw) ?_
 refine GL_g rfl rfl gvf (rv_mv (v := .pointer _) vw) ?_
 refine GL_g rfl rfl gvf (rv_nil vwg) ?_
 refine GL_g rfl rfl gvf (rv_fa fa113_0 vwg) ?_
 refine GL_g rfl rfl gvf (rv_ld Tryz.underlying22 rfl vwg) ?_
 refine GL_g rfl rfl gvf (rv_len el22 vwg) ?_
 refine GL_g rfl rfl gvf (rv_gtr vwg vwg) ?_
 refine GL_v rfl (rv_or vw vwg) ?_
 refine GL_nil ?_
 refine GC_cond rfl (fun h0 => ?_) (fun h0 => ?_)
 ·
  have hb : j < 0 ∨ ((l.drop p).length : Int) < j := by have := h0; simp at this; omega
  have hw : (⟨l.drop p, s, e⟩ : Cu).words j = ([], ((⟨l.drop p, s, e⟩ : Cu).bytes (-1)).2) := if_pos hb
  refine GC_seq ?_
  refine GC_region ?_
  refine GL_v rfl (rv_mv (v := .pointer _) vw) ?_
  refine GL_call rfl cb113 (rBytes_ct B n k p A l s e (-1) hp) rfl pB sR ?_
  rintro _ _ _ ⟨a, p1, s1, e1, A2, n2, k2, hby, hp1, hn2, rfl, rfl, rfl⟩
  simp only [List.cons_append, List.nil_append]
  have ha : a = [] := by
   have : (Cu.bytes ⟨l.drop p, s, e⟩ (-1)).1 = [] := by unfold Cu.bytes; rw [if_pos (by simp [Cu.bad])]
   rw [hby] at this; exact this
  refine GL_call rfl cb175 (rTake_ct A2 n2 k2 a (by omega)) rfl .nil sR ?_
  rintro _ _ _ ⟨A3, n3, k3, rfl, rfl, rfl⟩
  simp only [List.cons_append, List.nil_append]
  refine GL_shift (.cons .here .nil) own_toRow ?_
  refine GL_v rfl (rv_as (v := .slice _ _ _) vw) ?_
  refine GL_nil ?_
  refine GC_ret ?_
  exact fin1 (.inr rfl) rfl rfl (.cons .here .nil) sb ⟨wordTake a, p1, s1, e1, A3, n3, k3, by rw [hw, hby, ha]; rfl, hp1, rfl, rfl, rfl⟩
 ·
  have hb : 0 ≤ j ∧ j ≤ n := by have := h0; simp at this; omega
  refine GC_skip ?_
  refine GC_seq ?_
  refine GC_region ?_
  refine GL_v rfl (rv_mv (v := .pointer _) vw) ?_
  refine GL_v rfl (rv_mv (v := .int .i64 _) vw) ?_
  refine GL_v rfl (rv_mv (v := .int .i64 _) vw) ?_
  refine GL_v rfl (rv_add (r := 2 * j) vw vw (fun _ => by rw [IntWalk.i64_in _ (by omega)]; omega)) ?_
  refine GL_call rfl cb113 (rBytes_ct B n k p A l s e (2 * j) hp) rfl pB sR ?_
  rintro _ _ _ ⟨a, p1, s1, e1, A2, n2, k2, hby, hp1, hn2, rfl, rfl, rfl⟩
  simp only [List.cons_append, List.nil_append]
  refine GL_call rfl cb175 (rTake_ct A2 n2 k2 a (by omega)) rfl .nil sR ?_
  rintro _ _ _ ⟨A3, n3, k3, rfl, rfl, rfl⟩
  simp only [List.cons_append, List.nil_append]
  refine GL_shift (.cons .here .nil) own_toRow ?_
  refine GL_v rfl (rv_as (v := .slice _ _ _) vw) ?_
  refine GL_nil ?_
  refine GC_ret ?_
  exact fin1 (.inr rfl) rfl rfl (.cons .here .nil) sb ⟨wordTake a, p1, s1, e1, A3, n3, k3, by rw [words_alt hb.1, hby], hp1, rfl, rfl, rfl⟩
theorem rByte_ct (B n k p : Nat) (A : Option Addr) (l : List UInt8) (s : Bool) (e : Int) (hp : p ≤ n ∧ n ≤ 35184372088832) : Ct PG 111 [.pointer (some ⟨B, 0, none⟩)] [rcub B A n k p s e] [row 1 A n k (bytesV l)]
 (fun v S' T' => ∃ a p1 s1 e1, Cu.byte ⟨l.drop p, s, e⟩ = (a, ⟨l.drop p1, s1, e1⟩) ∧ p1 ≤ n ∧ v = b8 a ∧ S' = [rcub B A n k p1 s1 e1] ∧ T' = []) := by
 refine Ct_of Tryz.func111 rfl 12 rfl (Nat.le_of_ble_eq_true rfl) fun w0 M N => ?_
 refine GC_seq ?_
 refine GC_region ?_
 refine GL_v rfl (rv_as (v := .int .u8 _) vw) ?_
 refine GL_nil ?_
 refine GC_seq ?_
 refine GC_region ?_
 refine GL_v rfl (rv_mv (v := .pointer _) vw) ?_
 refine GL_call rfl cb113 (rBytes_ct B n k p A l s e 1 hp) rfl pB sR ?_
 rintro _ _ _ ⟨a, p1, s1, e1, A2, n2, k2, hby, hp1, hn2, rfl, rfl, rfl⟩
 simp only [List.cons_append, List.nil_append]
 refine GL_row A2 fun hr2 => ?_
 have hal : a.length = n2 := by have := hr2.1; simpa [bytesV] using this
 refine GL_v rfl (rv_as (v := .slice _ _ _) vw) ?_
 refine GL_nil ?_
 refine GC_seq ?_
 refine GC_seq ?_
 refine GC_region ?_
 refine GL_v rfl (rv_mv (v := .slice _ _ _) vw) ?_
 refine GL_v rfl (rv_len el22 vw) ?_
 refine GL_v rfl (rv_eql vw vw) ?_
 refine GL_nil ?_
 refine GC_cond rfl (fun h0 => ?_) (fun h0 => ?_)
 ·
  obtain rfl : a = [] := List.eq_nil_of_length_eq_zero (by have := h0; simp at this; omega)
  refine GC_seq ?_
  refine GC_region ?_
  refine GL_v rfl (rv_as (v := .int .u8 _) vw) ?_
  refine GL_nil ?_
  refine GC_ret ?_
  exact fin1 (.inr rfl) rfl rfl (.cons .here .nil) .nil ⟨0, p1, s1, e1, by unfold Cu.byte; rw [hby]; rfl, hp1, rfl, rfl, rfl⟩
 ·
  obtain ⟨x, a2, rfl⟩ : ∃ x a2, a = x :: a2 := by
   cases a with
   | nil => have := h0; simp at this hal; omega
   | cons x a2 => exact ⟨x, a2, rfl⟩
  have hA2 : A2 ≠ none := hr2.2.2.2.2 (by simp at hal; omega) (by decide)
  refine GC_skip ?_
  refine GC_seq ?_
  refine GC_region ?_
  refine GL_v rfl (rv_mv (v := .slice _ _ _) vw) ?_
  refine GL_v rfl (rv_ix (i := 0) el22 vw vw (fun _ => rfl) (fun _ => by simp at hal; omega) (fun _ => hA2)) ?_
  refine GL_v rfl (rv_ldE (v := b8 x) Tryz.underlying5 rfl vw (fun _ => rfl)) ?_
  refine GL_v rfl (rv_as (v := b8 x) vw) ?_
  refine GL_nil ?_
  refine GC_ret ?_
  exact fin1 (.inr rfl) rfl rfl (.cons .here .nil) .nil ⟨x, p1, s1, e1, by unfold Cu.byte; rw [hby]; rfl, hp1, rfl, rfl, rfl⟩
theorem rWord_ct (B n k p : Nat) (A : Option Addr) (l : List UInt8) (s : Bool) (e : Int) (hp : p ≤ n ∧ n ≤ 35184372088832) : Ct PG 114 [.pointer (some ⟨B, 0, none⟩)] [rcub B A n k p s e] [row 1 A n k (bytesV l)]
 (fun v S' T' => ∃ a p1 s1 e1, Cu.word ⟨l.drop p, s, e⟩ = (a, ⟨l.drop p1, s1, e1⟩) ∧ p1 ≤ n ∧ v = w16 a ∧ S' = [rcub B A n k p1 s1 e1] ∧ T' = []) := by
 refine Ct_of Tryz.func114 rfl 12 rfl (Nat.le_of_ble_eq_true rfl) fun w0 M N => ?_
 refine GC_seq ?_
 refine GC_region ?_
 refine GL_v rfl (rv_as (v := .int .u16 _) vw) ?_
 refine GL_nil ?_
 refine GC_seq ?_
 refine GC_region ?_
 refine GL_v rfl (rv_mv (v := .pointer _) vw) ?_
 refine GL_call rfl cb118 (rWords_ct B n k p A l s e 1 hp) rfl pB sR ?_
 rintro _ _ _ ⟨a, p1, s1, e1, A2, n2, k2, hby, hp1, rfl, rfl, rfl⟩
 simp only [List.cons_append, List.nil_append]
 refine GL_row A2 fun hr2 => ?_
 have hal : a.length = n2 := by have := hr2.1; simpa [wordsV] using this
 refine GL_v rfl (rv_as (v := .slice _ _ _) vw) ?_
 refine GL_nil ?_
 refine GC_seq ?_
 refine GC_seq ?_
 refine GC_region ?_
 refine GL_v rfl (rv_mv (v := .slice _ _ _) vw) ?_
 refine GL_v rfl (rv_len el25 vw) ?_
 refine GL_v rfl (rv_eql vw vw) ?_
 refine GL_nil ?_
 refine GC_cond rfl (fun h0 => ?_) (fun h0 => ?_)
 ·
  obtain rfl : a = [] := List.eq_nil_of_length_eq_zero (by have := h0; simp at this; omega)
  refine GC_seq ?_
  refine GC_region ?_
  refine GL_v rfl (rv_as (v := .int .u16 _) vw) ?_
  refine GL_nil ?_
  refine GC_ret ?_
  exact fin1 (.inr rfl) rfl rfl (.cons .here .nil) .nil ⟨0, p1, s1, e1, by unfold Cu.word; rw [hby]; rfl, hp1, rfl, rfl, rfl⟩
 ·
  obtain ⟨x, a2, rfl⟩ : ∃ x a2, a = x :: a2 := by
   cases a with
   | nil => have := h0; simp at this hal; omega
   | cons x a2 => exact ⟨x, a2, rfl⟩
  have hA2 : A2 ≠ none := hr2.2.2.2.2 (by simp at hal; omega) (by decide)
  refine GC_skip ?_
  refine GC_seq ?_
  refine GC_region ?_
  refine GL_v rfl (rv_mv (v := .slice _ _ _) vw) ?_
  refine GL_v rfl (rv_ix (i := 0) el25 vw vw (fun _ => rfl) (fun _ => by simp at hal; omega) (fun _ => hA2)) ?_
  refine GL_v rfl (rv_ldE (v := w16 x) Tryz.underlying24 rfl vw (fun _ => rfl)) ?_
  refine GL_v rfl (rv_as (v := w16 x) vw) ?_
  refine GL_nil ?_
  refine GC_ret ?_
  exact fin1 (.inr rfl) rfl rfl (.cons .here .nil) .nil ⟨x, p1, s1, e1, by unfold Cu.word; rw [hby]; rfl, hp1, rfl, rfl, rfl⟩
theorem rWord_k (B n k p : Nat) (A : Option Addr) (l : List UInt8) (s : Bool) (e : Int) (hp : p ≤ n ∧ n ≤ 35184372088832) : Ct PG 114 [.pointer (some ⟨B, 0, none⟩)] [rcub B A n k p s e] [row 1 A n k (bytesV l)]
 (fun v S' T' => ∃ a p1 s1 e1, Cu.word ⟨l.drop p, s, e⟩ = (a, ⟨l.drop p1, s1, e1⟩) ∧ (p1 ≤ n ∧ n ≤ 35184372088832) ∧ v = w16 a ∧ S' = [rcub B A n k p1 s1 e1] ∧ T' = []) := by
 refine (rWord_ct B n k p A l s e hp).monoW ?_
 rintro _ _ _ w w' h1 h2 ⟨a, p1, s1, e1, q1, q2, q3, q4, q5⟩
 exact ⟨a, p1, s1, e1, q1, ⟨q2, hp.2⟩, q3, q4, q5⟩
theorem rByte_k (B n k p : Nat) (A : Option Addr) (l : List UInt8) (s : Bool) (e : Int) (hp : p ≤ n ∧ n ≤ 35184372088832) : Ct PG 111 [.pointer (some ⟨B, 0, none⟩)] [rcub B A n k p s e] [row 1 A n k (bytesV l)]
 (fun v S' T' => ∃ a p1 s1 e1, Cu.byte ⟨l.drop p, s, e⟩ = (a, ⟨l.drop p1, s1, e1⟩) ∧ (p1 ≤ n ∧ n ≤ 35184372088832) ∧ v = b8 a ∧ S' = [rcub B A n k p1 s1 e1] ∧ T' = []) := by
 refine (rByte_ct B n k p A l s e hp).monoW ?_
 rintro _ _ _ w w' h1 h2 ⟨a, p1, s1, e1, q1, q2, q3, q4, q5⟩
 exact ⟨a, p1, s1, e1, q1, ⟨q2, hp.2⟩, q3, q4, q5⟩
theorem rBytes_k (B n k p : Nat) (A : Option Addr) (l : List UInt8) (s : Bool) (e : Int) (j : Int) (hp : p ≤ n ∧ n ≤ 35184372088832) : Ct PG 113 [.pointer (some ⟨B, 0, none⟩), .int .i64 j] [rcub B A n k p s e] [row 1 A n k (bytesV l)]
 (fun v S' T' => ∃ a p1 s1 e1 A2 n2 k2, Cu.bytes ⟨l.drop p, s, e⟩ j = (a, ⟨l.drop p1, s1, e1⟩) ∧ (p1 ≤ n ∧ n ≤ 35184372088832) ∧ n2 ≤ 35184372088832 ∧ v = .slice A2 n2 k2 ∧ S' = [rcub B A n k p1 s1 e1] ∧ T' = [row 1 A2 n2 k2 (bytesV a)]) := by
 refine (rBytes_ct B n k p A l s e j hp).monoW ?_
 rintro _ _ _ w w' h1 h2 ⟨a, p1, s1, e1, A2, n2, k2, q1, q2, q3, q4, q5, q6⟩
 exact ⟨a, p1, s1, e1, A2, n2, k2, q1, ⟨q2, hp.2⟩, by omega, q4, q5, q6⟩
theorem rWords_k (B n k p : Nat) (A : Option Addr) (l : List UInt8) (s : Bool) (e : Int) (j : Int) (hp : p ≤ n ∧ n ≤ 35184372088832) : Ct PG 118 [.pointer (some ⟨B, 0, none⟩), .int .i64 j] [rcub B A n k p s e] [row 1 A n k (bytesV l)]
 (fun v S' T' => ∃ a p1 s1 e1 A2 n2 k2, Cu.words ⟨l.drop p, s, e⟩ j = (a, ⟨l.drop p1, s1, e1⟩) ∧ (p1 ≤ n ∧ n ≤ 35184372088832) ∧ v = .slice A2 n2 k2 ∧ S' = [rcub B A n k p1 s1 e1] ∧ T' = [row 1 A2 n2 k2 (wordsV a)]) := by
 refine (rWords_ct B n k p A l s e j hp).monoW ?_
 rintro _ _ _ w w' h1 h2 ⟨a, p1, s1, e1, A2, n2, k2, q1, q2, q4, q5, q6⟩
 exact ⟨a, p1, s1, e1, A2, n2, k2, q1, ⟨q2, hp.2⟩, q4, q5, q6⟩
theorem rNeed_k (B n k p : Nat) (A : Option Addr) (l : List UInt8) (s : Bool) (e : Int) (ok : Bool) (j : Int) : Ct PG 112 [.pointer (some ⟨B, 0, none⟩), .bool ok, .int .i64 j] [rcub B A n k p s e] []
 (fun v S' T' => ∃ e1, Cu.need ⟨l.drop p, s, e⟩ ok j = ⟨l.drop p, s, e1⟩ ∧ v = .tuple #[] ∧ S' = [rcub B A n k p s e1] ∧ T' = []) := by
 refine (rNeed_ct B n k p A s e ok j).monoW ?_
 rintro _ _ _ w w' h1 h2 ⟨rfl, rfl, rfl⟩
 exact ⟨_, rfl, rfl, rfl, rfl⟩
theorem rLeft_k (B n k p : Nat) (A : Option Addr) (l : List UInt8) (s : Bool) (e : Int) (hp : p ≤ n ∧ n ≤ 35184372088832) : CtD PG 121 [.pointer (some ⟨B, 0, none⟩)] [rcub B A n k p s e] [row 1 A n k (bytesV l)] (.int .i64 (l.drop p).length) [rcub B A n k p s e] [] :=
 ⟨fun w hs => by
  have h5 : l.length = n := len_of hs (List.mem_cons_self ..)
  refine ((rLeft_ct B n k p A s e hp).out w (hs.subT (by simp))).mono ?_
  rintro en w' ⟨v, S', T', rfl, ⟨rfl, rfl, rfl⟩, ht⟩
  refine ⟨_, _, _, rfl, ⟨?_, rfl, rfl⟩, ⟨ht.go, ht.sat, ht.own, fun _ h => absurd h (by simp)⟩⟩
  rw [List.length_drop, h5]; congr 1; omega⟩
theorem rEnd_k (B n k p : Nat) (A : Option Addr) (l : List UInt8) (s : Bool) (e : Int) (hp : p ≤ n ∧ n ≤ 35184372088832) : Ct PG 117 [.pointer (some ⟨B, 0, none⟩)] [rcub B A n k p s e] [row 1 A n k (bytesV l)]
 (fun v S' T' => ∃ e1, Cu.fin ⟨l.drop p, s, e⟩ = ⟨l.drop p, s, e1⟩ ∧ v = .tuple #[] ∧ S' = [rcub B A n k p s e1] ∧ T' = []) :=
 ⟨fun w hs => by
  have h5 : l.length = n := len_of hs (List.mem_cons_self ..)
  refine ((rEnd_ct B n k p A s e hp).out w (hs.subT (by simp))).mono ?_
  rintro en w' ⟨v, S', T', rfl, ⟨rfl, rfl, rfl⟩, ht⟩
  refine ⟨_, _, _, rfl, ⟨_, rfl, rfl, ?_, rfl⟩, ⟨ht.go, ht.sat, ht.own, fun _ h => absurd h (by simp)⟩⟩
  have : decide ((n : Int) - p = 0) = decide ((l.drop p).length = 0) := by congr 1; apply propext; rw [List.length_drop, h5]; omega
  rw [this]⟩
end Go.Bus
