/- Part of the proof: Bits. No condition. -/
import Derived.Test.YtlfjioigkojjdaaGreatUBPureb
import Derived.Test.YtlfjioigkojjdaaGreatUBCur
set_option linter.unusedVariables false
set_option linter.unusedSimpArgs false
set_option maxRecDepth 100000
set_option maxHeartbeats 4000000
namespace Go.Bus
open Go Go.Proofs
theorem Put_ct (A : Option Addr) (n k : Nat) (l : List UInt16) (hn : n ≤ 35184372088832) : Ct PG 77 [.slice A n k] [] [row 1 A n k (wordsV l)]
 (fun v S' T' => ∃ A' k', v = .slice A' (2 * n) k' ∧ S' = [own 5 1 A' (2 * n) k' (bytesV (putW l))] ∧ T' = []) := by
 refine Ct_of Tryz.func77 rfl 22 rfl (Nat.le_of_ble_eq_true rfl) fun w0 M N => ?_
 refine GC_row A fun hrow => ?_
 have hl : l.length = n := by have := hrow.1; simpa [wordsV] using this
 refine GC_shift .nil (nil_own (t := 5) (sz := 1)) ?_
 refine GC_seq ?_
 refine GC_region ?_
 refine GL_v rfl (rv_as (v := .slice _ _ _) vw) ?_
 refine GL_nil ?_
 refine GC_seq ?_
 refine GC_region ?_
 refine GL_v rfl (rv_as (v := .slice _ _ _) vw) ?_
 refine GL_nil ?_
 refine GC_seq ?_
 refine GC_seq ?_
 refine GC_region ?_
 refine GL_v rfl (rv_mv (v := .slice _ _ _) vw) ?_
 refine GL_v rfl (rv_len el25 vw) ?_
 refine GL_v rfl (rv_mv (v := .int .i64 _) vw) ?_
 refine GL_nil ?_
 refine GC_block ?_
 refine GC_loop (fun (m : Nat) E S T => m ≤ n ∧ ∃ A' k', At E [(3, .slice A' (2 * m) k'), (8, .int .i64 m), (6, .slice A n k), (7, .int .i64 n)] ∧ S = [own 5 1 A' (2 * m) k' (bytesV (putW (l.take m)))] ∧ T = [row 1 A n k (wordsV l)]) (fun m => n - m) 0 ⟨Nat.zero_le _, none, 0, ⟨rfl, rfl, rfl, rfl, trivial⟩, rfl, rfl⟩ ?_
 rintro m E S T ⟨hm, A', k', hE, rfl, rfl⟩
 obtain ⟨E0, rfl⟩ := hE.ex
 refine GC_seq ?_
 refine GC_region ?_
 refine GL_v rfl (rv_lss vw vw) ?_
 refine GL_nil ?_
 refine GC_seq ?_
 refine GC_cond rfl (fun h0 => ?_) (fun h0 => ?_)
 ·
  have hlt : m < l.length := by simp at h0; omega
  have hA : A ≠ none := hrow.2.2.2.2 (by omega) (by decide)
  have hx := (l[m]'hlt).toNat_lt
  refine GC_skip ?_
  refine GC_seq ?_
  refine GC_block ?_
  refine GC_seq ?_
  refine GC_region ?_
  refine GL_v rfl (rv_ix (i := m) el25 vw vw (fun _ => rfl) (fun _ => by omega) (fun _ => hA)) ?_
  refine GL_v rfl (rv_ldE (v := w16 (l[m]'hlt)) Tryz.underlying24 rfl vw (fun _ => by rw [Nat.mul_one]; exact wordsV_at _)) ?_
  refine GL_v rfl (rv_as (v := w16 (l[m]'hlt)) vw) ?_
  refine GL_nil ?_
  refine GC_region ?_
  refine GL_v rfl (rv_mv (v := .slice _ _ _) vw) ?_
  refine GL_v rfl (rv_mv (v := w16 (l[m]'hlt)) vw) ?_
  refine GL_v rfl (rv_shr (r := ((l[m]'hlt).toNat : Int) / 256) vw vw (fun _ => by decide) (fun _ => by simp [IntKind.bits, Int.fdiv_eq_ediv_of_nonneg])) ?_
  refine GL_v rfl (rv_cnv (r := ((l[m]'hlt).toNat : Int) / 256) Tryz.underlying24 Tryz.underlying5 vw (fun _ => IntWalk.u8_in _ (by omega))) ?_
  refine GL_v rfl (rv_mv (v := w16 (l[m]'hlt)) vw) ?_
  refine GL_v rfl (rv_cnv (r := ((l[m]'hlt).toNat : Int) % 256) Tryz.underlying24 Tryz.underlying5 vw (fun _ => rfl)) ?_
  refine GL_bs (l := [.int .u8 (((l[m]'hlt).toNat : Int) / 256), .int .u8 (((l[m]'hlt).toNat : Int) % 256)]) rfl el22 z5 rfl rfl rfl (fun b18 => ?_)
  refine GL_app (m := 2) rfl el22 rfl rfl pW rfl (by simp [Value.oneCell']) (by omega) (by simp [maxLen]; omega) (fun A2 k2 => ?_)
  refine GL_drop (.cons .here .nil) ?_
  refine GL_v rfl (rv_as (v := .slice _ _ _) vw) ?_
  refine GL_nil ?_
  refine GC_region ?_
  refine GL_v rfl (rv_add (r := ((m + 1 : Nat) : Int)) vw vw (fun _ => by rw [IntWalk.i64_in _ (by omega)]; omega)) ?_
  refine GL_v rfl (rv_mv (v := .int .i64 _) vw) ?_
  refine GL_nil ?_
  refine ⟨m + 1, ⟨by omega, A2, k2, ⟨rfl, rfl, rfl, rfl, trivial⟩, ?_, rfl⟩, by omega⟩
  rw [take_snoc l m hlt, putW_append, bytesV_append]
  simp only [putW, bytesV, List.map_cons, List.map_nil, hi8_val, lo8_val]; rfl
 ·
  obtain rfl : m = n := by simp at h0; omega
  rw [List.take_of_length_le (by omega)]
  refine GC_exit ?_
  refine GC_seq ?_
  refine GC_region ?_
  refine GL_v rfl (rv_mv (v := .slice _ _ _) vw) ?_
  refine GL_v rfl (rv_as (v := .slice _ _ _) vw) ?_
  refine GL_nil ?_
  refine GC_ret ?_
  exact fin1 (.inr rfl) rfl rfl pW sb ⟨A', k', rfl, rfl, rfl⟩
theorem Within_ct (a : UInt16) (j : Int) : CtD PG 220 [.int .u16 a.toNat, .int .i64 j] [] [] (.bool (within a j)) [] [] := by
 refine Ct_of Tryz.func220 rfl 14 rfl (Nat.le_of_ble_eq_true rfl) fun w0 M N => ?_
 have ha := a.toNat_lt
 refine GC_seq ?_
 refine GC_region ?_
 refine GL_v rfl (rv_as (v := .bool _) vw) ?_
 refine GL_nil ?_
 refine GC_seq ?_
 refine GC_region ?_
 refine GL_v rfl (rv_mv (v := .int .i64 _) vw) ?_
 refine GL_v rfl (rv_gtr vw vw) ?_
 refine GL_v rfl (rv_mv (v := .bool _) vw) ?_
 refine GL_g rfl rfl gvt (rv_mv (v := .int .i64 _) vw) ?_
 refine GL_g rfl rfl gvt (rv_mv (v := .int .u16 _) vw) ?_
 refine GL_g rfl rfl gvt (rv_cnv (r := (a.toNat : Int)) Tryz.underlying24 Tryz.underlying3 vwg (fun _ => IntWalk.i64_in _ (by omega))) ?_
 refine GL_g rfl rfl gvt (rv_sub (r := 65536 - (a.toNat : Int)) vw vwg (fun _ => IntWalk.i64_in _ (by omega))) ?_
 refine GL_g rfl rfl gvt (rv_leq vwg vwg) ?_
 refine GL_v rfl (rv_and vw vwg) ?_
 refine GL_v rfl (rv_as (v := .bool _) vw) ?_
 refine GL_nil ?_
 refine GC_ret ?_
 exact fin1 (.inr rfl) rfl rfl .nil .nil ⟨rfl, rfl, rfl⟩
theorem Many_ct (j : Int) (hj : j < 9223372036854775808 ∧ -9223372036854775808 ≤ j) : CtD PG 191 [.int .i64 j] [] [] (.int .i64 (manyI j)) [] [] := by
 refine Ct_of Tryz.func191 rfl 9 rfl (Nat.le_of_ble_eq_true rfl) fun w0 M N => ?_
 refine GC_seq ?_
 refine GC_region ?_
 refine GL_v rfl (rv_as (v := .int .i64 _) vw) ?_
 refine GL_nil ?_
 refine GC_seq ?_
 refine GC_seq ?_
 refine GC_region ?_
 refine GL_v rfl (rv_mv (v := .int .i64 _) vw) ?_
 refine GL_v rfl (rv_lss vw vw) ?_
 refine GL_nil ?_
 refine GC_cond rfl (fun h0 => ?_) (fun h0 => ?_)
 ·
  have he : manyI j = 0 := by simp at h0; exact if_pos h0
  refine GC_seq ?_
  refine GC_region ?_
  refine GL_v rfl (rv_as (v := .int .i64 _) vw) ?_
  refine GL_nil ?_
  refine GC_ret ?_
  exact fin1 (.inr rfl) rfl rfl .nil .nil ⟨by rw [he]; rfl, rfl, rfl⟩
 ·
  have hj1 : 1 ≤ j := by simp at h0; omega
  have he : manyI j = (j - 1) / 8 + 1 := by unfold manyI; rw [if_neg (by omega)]
  refine GC_skip ?_
  refine GC_seq ?_
  refine GC_region ?_
  refine GL_v rfl (rv_mv (v := .int .i64 _) vw) ?_
  refine GL_v rfl (rv_sub (r := j - 1) vw vw (fun _ => IntWalk.i64_in _ (by omega))) ?_
  refine GL_v rfl (rv_quo (r := (j - 1) / 8) vw vw (fun _ => by decide) (fun _ => by rw [Int.tdiv_eq_ediv_of_nonneg (by omega)]; exact IntWalk.i64_in _ (by omega))) ?_
  refine GL_v rfl (rv_add (r := (j - 1) / 8 + 1) vw vw (fun _ => IntWalk.i64_in _ (by omega))) ?_
  refine GL_v rfl (rv_as (v := .int .i64 _) vw) ?_
  refine GL_nil ?_
  refine GC_ret ?_
  exact fin1 (.inr rfl) rfl rfl .nil .nil ⟨by rw [he]; rfl, rfl, rfl⟩
theorem set8_ct (A : Option Addr) (n k : Nat) (l : List Int) (hl : l.Nodup) : Ct PG 153 [.slice A n k] [] [row 1 A n k (l.map (Value.int .u8))]
 (fun v S' T' => ∃ B, v = .map (some B) ∧ S' = [mapr B .u8 (setI l)] ∧ T' = []) := by
 refine Ct_of Tryz.func153 rfl 17 rfl (Nat.le_of_ble_eq_true rfl) fun w0 M N => ?_
 refine GC_row A fun hrow => ?_
 have hn : l.length = n := by have := hrow.1; simpa using this
 have hmx : n ≤ maxLen := by have := hrow.2.1; have := hrow.2.2.1; omega
 simp [maxLen] at hmx
 refine GC_seq ?_
 refine GC_region ?_
 refine GL_v rfl (rv_as (v := .map _) vw) ?_
 refine GL_nil ?_
 refine GC_seq ?_
 refine GC_region ?_
 refine GL_mkMap .u8 rfl (fun B => ?_)
 refine GL_v rfl (rv_as (v := .map _) vw) ?_
 refine GL_nil ?_
 refine GC_seq ?_
 refine GC_seq ?_
 refine GC_region ?_
 refine GL_v rfl (rv_mv (v := .slice _ _ _) vw) ?_
 refine GL_v rfl (rv_len el22 vw) ?_
 refine GL_v rfl (rv_mv (v := .int .i64 _) vw) ?_
 refine GL_nil ?_
 refine GC_block ?_
 refine GC_loop (fun (m : Nat) E S T => m ≤ n ∧ At E [(3, .map (some B)), (9, .int .i64 m), (7, .slice A n k), (8, .int .i64 n)] ∧ S = [mapr B .u8 (setI (l.take m))] ∧ T = [row 1 A n k (l.map (Value.int .u8))]) (fun m => n - m) 0 ⟨Nat.zero_le _, ⟨rfl, rfl, rfl, rfl, trivial⟩, rfl, rfl⟩ ?_
 rintro m E S T ⟨hm, hE, rfl, rfl⟩
 obtain ⟨E0, rfl⟩ := hE.ex
 refine GC_seq ?_
 refine GC_region ?_
 refine GL_v rfl (rv_lss vw vw) ?_
 refine GL_nil ?_
 refine GC_seq ?_
 refine GC_cond rfl (fun h0 => ?_) (fun h0 => ?_)
 ·
  have hlt : m < l.length := by simp at h0; omega
  have hA : A ≠ none := hrow.2.2.2.2 (by omega) (by decide)
  refine GC_skip ?_
  refine GC_seq ?_
  refine GC_block ?_
  refine GC_seq ?_
  refine GC_region ?_
  refine GL_v rfl (rv_ix (i := m) el22 vw vw (fun _ => rfl) (fun _ => by omega) (fun _ => hA)) ?_
  refine GL_v rfl (rv_ldE (v := .int .u8 (l[m]'hlt)) Tryz.underlying5 rfl vw (fun _ => by simp [hlt])) ?_
  refine GL_v rfl (rv_as (v := .int .u8 _) vw) ?_
  refine GL_nil ?_
  refine GC_region ?_
  refine GL_v rfl (rv_mv (v := .map _) vw) ?_
  refine GL_v rfl (rv_mv (v := .int .u8 _) vw) ?_
  refine GL_upd (dk := .u8) Tryz.underlying146 Tryz.underlying5 rfl rfl rfl (look_none_of_nodup hl hlt) ?_
  refine GL_nil ?_
  refine GC_region ?_
  refine GL_v rfl (rv_add (r := ((m + 1 : Nat) : Int)) vw vw (fun _ => by rw [IntWalk.i64_in _ (by omega)]; omega)) ?_
  refine GL_v rfl (rv_mv (v := .int .i64 _) vw) ?_
  refine GL_nil ?_
  refine ⟨m + 1, ⟨by omega, ⟨rfl, rfl, rfl, rfl, trivial⟩, ?_, rfl⟩, by omega⟩
  rw [take_snoc l m hlt, setI_snoc]; rfl
 ·
  obtain rfl : m = n := by simp at h0; omega
  rw [List.take_of_length_le (by omega)]
  refine GC_exit ?_
  refine GC_seq ?_
  refine GC_region ?_
  refine GL_v rfl (rv_mv (v := .map _) vw) ?_
  refine GL_v rfl (rv_as (v := .map _) vw) ?_
  refine GL_nil ?_
  refine GC_ret ?_
  exact fin1 (.inr rfl) rfl rfl (.cons .here .nil) sb ⟨B, rfl, rfl, rfl⟩
theorem set16_ct (A : Option Addr) (n k : Nat) (l : List Int) (hl : l.Nodup) : Ct PG 221 [.slice A n k] [] [row 1 A n k (l.map (Value.int .u16))]
 (fun v S' T' => ∃ B, v = .map (some B) ∧ S' = [mapr B .u16 (setI l)] ∧ T' = []) := by
 refine Ct_of Tryz.func221 rfl 17 rfl (Nat.le_of_ble_eq_true rfl) fun w0 M N => ?_
 refine GC_row A fun hrow => ?_
 have hn : l.length = n := by have := hrow.1; simpa using this
 have hmx : n ≤ maxLen := by have := hrow.2.1; have := hrow.2.2.1; omega
 simp [maxLen] at hmx
 refine GC_seq ?_
 refine GC_region ?_
 refine GL_v rfl (rv_as (v := .map _) vw) ?_
 refine GL_nil ?_
 refine GC_seq ?_
 refine GC_region ?_
 refine GL_mkMap .u16 rfl (fun B => ?_)
 refine GL_v rfl (rv_as (v := .map _) vw) ?_
 refine GL_nil ?_
 refine GC_seq ?_
 refine GC_seq ?_
 refine GC_region ?_
 refine GL_v rfl (rv_mv (v := .slice _ _ _) vw) ?_
 refine GL_v rfl (rv_len el25 vw) ?_
 refine GL_v rfl (rv_mv (v := .int .i64 _) vw) ?_
 refine GL_nil ?_
 refine GC_block ?_
 refine GC_loop (fun (m : Nat) E S T => m ≤ n ∧ At E [(3, .map (some B)), (9, .int .i64 m), (7, .slice A n k), (8, .int .i64 n)] ∧ S = [mapr B .u16 (setI (l.take m))] ∧ T = [row 1 A n k (l.map (Value.int .u16))]) (fun m => n - m) 0 ⟨Nat.zero_le _, ⟨rfl, rfl, rfl, rfl, trivial⟩, rfl, rfl⟩ ?_
 rintro m E S T ⟨hm, hE, rfl, rfl⟩
 obtain ⟨E0, rfl⟩ := hE.ex
 refine GC_seq ?_
 refine GC_region ?_
 refine GL_v rfl (rv_lss vw vw) ?_
 refine GL_nil ?_
 refine GC_seq ?_
 refine GC_cond rfl (fun h0 => ?_) (fun h0 => ?_)
 ·
  have hlt : m < l.length := by simp at h0; omega
  have hA : A ≠ none := hrow.2.2.2.2 (by omega) (by decide)
  refine GC_skip ?_
  refine GC_seq ?_
  refine GC_block ?_
  refine GC_seq ?_
  refine GC_region ?_
  refine GL_v rfl (rv_ix (i := m) el25 vw vw (fun _ => rfl) (fun _ => by omega) (fun _ => hA)) ?_
  refine GL_v rfl (rv_ldE (v := .int .u16 (l[m]'hlt)) Tryz.underlying24 rfl vw (fun _ => by simp [hlt])) ?_
  refine GL_v rfl (rv_as (v := .int .u16 _) vw) ?_
  refine GL_nil ?_
  refine GC_region ?_
  refine GL_v rfl (rv_mv (v := .map _) vw) ?_
  refine GL_v rfl (rv_mv (v := .int .u16 _) vw) ?_
  refine GL_upd (dk := .u16) Tryz.underlying191 Tryz.underlying24 rfl rfl rfl (look_none_of_nodup hl hlt) ?_
  refine GL_nil ?_
  refine GC_region ?_
  refine GL_v rfl (rv_add (r := ((m + 1 : Nat) : Int)) vw vw (fun _ => by rw [IntWalk.i64_in _ (by omega)]; omega)) ?_
  refine GL_v rfl (rv_mv (v := .int .i64 _) vw) ?_
  refine GL_nil ?_
  refine ⟨m + 1, ⟨by omega, ⟨rfl, rfl, rfl, rfl, trivial⟩, ?_, rfl⟩, by omega⟩
  rw [take_snoc l m hlt, setI_snoc]; rfl
 ·
  obtain rfl : m = n := by simp at h0; omega
  rw [List.take_of_length_le (by omega)]
  refine GC_exit ?_
  refine GC_seq ?_
  refine GC_region ?_
  refine GL_v rfl (rv_mv (v := .map _) vw) ?_
  refine GL_v rfl (rv_as (v := .map _) vw) ?_
  refine GL_nil ?_
  refine GC_ret ?_
  exact fin1 (.inr rfl) rfl rfl (.cons .here .nil) sb ⟨B, rfl, rfl, rfl⟩
theorem Public_ct (c : UInt8) : CtD PG 95 [b8 c] [] [] (.bool (publicS c)) [] [] := by
 refine Ct_of Tryz.func95 rfl 7 rfl (Nat.le_of_ble_eq_true rfl) fun w0 M N => ?_
 refine GC_seq ?_
 refine GC_region ?_
 refine GL_v rfl (rv_as (v := .bool _) vw) ?_
 refine GL_nil ?_
 refine GC_seq ?_
 refine GC_region ?_
 refine GL_bs (l := [1, 2, 3, 4, 5, 6, 7, 8, 11, 12, 15, 16, 17, 20, 21, 22, 23, 24, 43].map (Value.int .u8)) rfl el22 z5 rfl rfl (by kernel_rfl) (fun b3 => ?_)
 refine GL_shift (.cons .here .nil) (blk_own (n := 19) (sz := 1) rfl (by decide)) ?_
 refine GL_shift (.cons .here .nil) own_toRow ?_
 refine GL_call rfl cb153 (set8_ct _ 19 19 [1, 2, 3, 4, 5, 6, 7, 8, 11, 12, 15, 16, 17, 20, 21, 22, 23, 24, 43] (by simp)) rfl .nil sb ?_
 rintro _ _ _ ⟨B, rfl, rfl, rfl⟩
 simp only [List.cons_append, List.nil_append]
 refine GL_v rfl (rv_mv (v := b8 c) vw) ?_
 refine GL_v rfl (rv_look (dk := .u8) (z := .bool false) Tryz.underlying146 Tryz.underlying5 (fun _ => by kernel_rfl) vw vw (lookD_setI _ _)) ?_
 refine GL_v rfl (rv_as (v := .bool _) vw) ?_
 refine GL_nil ?_
 refine GC_ret ?_
 exact fin1 (.inr rfl) rfl rfl .nil .nil ⟨rfl, rfl, rfl⟩
theorem Failure_ct (c : UInt8) : CtD PG 96 [b8 c] [] [] (.bool (failureS c)) [] [] := by
 refine Ct_of Tryz.func96 rfl 7 rfl (Nat.le_of_ble_eq_true rfl) fun w0 M N => ?_
 refine GC_seq ?_
 refine GC_region ?_
 refine GL_v rfl (rv_as (v := .bool _) vw) ?_
 refine GL_nil ?_
 refine GC_seq ?_
 refine GC_region ?_
 refine GL_bs (l := [1, 2, 3, 4, 5, 6, 8, 10, 11].map (Value.int .u8)) rfl el22 z5 rfl rfl (by kernel_rfl) (fun b3 => ?_)
 refine GL_shift (.cons .here .nil) (blk_own (n := 9) (sz := 1) rfl (by decide)) ?_
 refine GL_shift (.cons .here .nil) own_toRow ?_
 refine GL_call rfl cb153 (set8_ct _ 9 9 [1, 2, 3, 4, 5, 6, 8, 10, 11] (by simp)) rfl .nil sb ?_
 rintro _ _ _ ⟨B, rfl, rfl, rfl⟩
 simp only [List.cons_append, List.nil_append]
 refine GL_v rfl (rv_mv (v := b8 c) vw) ?_
 refine GL_v rfl (rv_look (dk := .u8) (z := .bool false) Tryz.underlying146 Tryz.underlying5 (fun _ => by kernel_rfl) vw vw (lookD_setI _ _)) ?_
 refine GL_v rfl (rv_as (v := .bool _) vw) ?_
 refine GL_nil ?_
 refine GC_ret ?_
 exact fin1 (.inr rfl) rfl rfl .nil .nil ⟨rfl, rfl, rfl⟩
theorem Bits_ct (c : UInt16) : CtD PG 205 [w16 c] [] [] (.bool (subS c)) [] [] := by
 refine Ct_of Tryz.func205 rfl 7 rfl (Nat.le_of_ble_eq_true rfl) fun w0 M N => ?_
 refine GC_seq ?_
 refine GC_region ?_
 refine GL_v rfl (rv_as (v := .bool _) vw) ?_
 refine GL_nil ?_
 refine GC_seq ?_
 refine GC_region ?_
 refine GL_bs (l := [0, 1, 2, 3, 4, 10, 11, 12, 13, 14, 15, 16, 17, 18, 20].map (Value.int .u16)) rfl el25 z24 rfl rfl (by kernel_rfl) (fun b3 => ?_)
 refine GL_shift (.cons .here .nil) (blk_own (n := 15) (sz := 1) rfl (by decide)) ?_
 refine GL_shift (.cons .here .nil) own_toRow ?_
 refine GL_call rfl cb221 (set16_ct _ 15 15 [0, 1, 2, 3, 4, 10, 11, 12, 13, 14, 15, 16, 17, 18, 20] (by simp)) rfl .nil sb ?_
 rintro _ _ _ ⟨B, rfl, rfl, rfl⟩
 simp only [List.cons_append, List.nil_append]
 refine GL_v rfl (rv_mv (v := w16 c) vw) ?_
 refine GL_v rfl (rv_look (dk := .u16) (z := .bool false) Tryz.underlying191 Tryz.underlying24 (fun _ => by kernel_rfl) vw vw (lookD_setI _ _)) ?_
 refine GL_v rfl (rv_as (v := .bool _) vw) ?_
 refine GL_nil ?_
 refine GC_ret ?_
 exact fin1 (.inr rfl) rfl rfl .nil .nil ⟨rfl, rfl, rfl⟩
theorem Pack_ct (A : Option Addr) (n k : Nat) (l : List Bool) (hn : n ≤ 70368744177664) : Ct PG 193 [.slice A n k] [] [row 1 A n k (boolsV l)]
 (fun v S' T' => ∃ B, v = .slice (some ⟨B, 0, none⟩) (many n) (many n) ∧ S' = [own 5 1 (some ⟨B, 0, none⟩) (many n) (many n) (bytesV (packS l))] ∧ T' = []) := by
 refine Ct_of Tryz.func193 rfl 30 rfl (Nat.le_of_ble_eq_true rfl) fun w0 M N => ?_
 refine GC_row A fun hrow => ?_
 have hl : l.length = n := by have := hrow.1; simpa [boolsV] using this
 have hmn : many n ≤ n + 7 := by unfold many; omega
 refine GC_seq ?_
 refine GC_region ?_
 refine GL_v rfl (rv_as (v := .slice _ _ _) vw) ?_
 refine GL_nil ?_
 refine GC_seq ?_
 refine GC_region ?_
 refine GL_v rfl (rv_mv (v := .slice _ _ _) vw) ?_
 refine GL_v rfl (rv_len el26 vw) ?_
 refine GL_callD rfl cb191 (Many_ct n (by omega)) rfl .nil .nil ?_
 refine GL_mk (z := .int .u8 0) (n := many n) rfl el22 (fun _ => by kernel_rfl) rfl rfl (manyI_nat n) (by omega) (by simp [maxLen]; omega) (fun B => ?_)
 refine GL_v rfl (rv_as (v := .slice _ _ _) vw) ?_
 refine GL_nil ?_
 refine GC_seq ?_
 refine GC_seq ?_
 refine GC_region ?_
 refine GL_v rfl (rv_mv (v := .slice _ _ _) vw) ?_
 refine GL_v rfl (rv_len el26 vw) ?_
 refine GL_v rfl (rv_mv (v := .int .i64 _) vw) ?_
 refine GL_nil ?_
 have e0 : List.replicate (many n) (Value.int .u8 0) = bytesV (packP l 0) := by
  rw [packP_zero, hl]; simp [bytesV]; exact .inr rfl
 rw [e0]
 refine GC_block ?_
 refine GC_loop (fun (m : Nat) E S T => m ≤ n ∧ At E [(3, .slice (some ⟨B, 0, none⟩) (many n) (many n)), (12, .int .i64 m), (10, .slice A n k), (11, .int .i64 n)] ∧ S = [own 5 1 (some ⟨B, 0, none⟩) (many n) (many n) (bytesV (packP l m))] ∧ T = [row 1 A n k (boolsV l)]) (fun m => n - m) 0 ⟨Nat.zero_le _, ⟨rfl, rfl, rfl, rfl, trivial⟩, rfl, rfl⟩ ?_
 rintro m E S T ⟨hm, hE, rfl, rfl⟩
 obtain ⟨E0, rfl⟩ := hE.ex
 refine GC_seq ?_
 refine GC_region ?_
 refine GL_v rfl (rv_lss vw vw) ?_
 refine GL_nil ?_
 refine GC_seq ?_
 refine GC_cond rfl (fun h0 => ?_) (fun h0 => ?_)
 ·
  have hlt : m < l.length := by simp at h0; omega
  have hA : A ≠ none := hrow.2.2.2.2 (by omega) (by decide)
  have hm8 : m / 8 < many n := by unfold many; omega
  refine GC_skip ?_
  refine GC_seq ?_
  refine GC_block ?_
  refine GC_seq ?_
  refine GC_region ?_
  refine GL_v rfl (rv_mv (v := .int .i64 _) vw) ?_
  refine GL_v rfl (rv_ix (i := m) el26 vw vw (fun _ => rfl) (fun _ => by omega) (fun _ => hA)) ?_
  refine GL_v rfl (rv_ldE (v := .bool (l[m]'hlt)) Tryz.underlying4 rfl vw (fun _ => by rw [Nat.mul_one]; simp [boolsV, hlt])) ?_
  refine GL_v rfl (rv_as (v := .int .i64 _) vw) ?_
  refine GL_v rfl (rv_as (v := .bool _) vw) ?_
  refine GL_nil ?_
  refine GC_seq ?_
  refine GC_region ?_
  refine GL_v rfl (rv_mv (v := .bool _) vw) ?_
  refine GL_nil ?_
  refine GC_cond rfl (fun h1 => ?_) (fun h1 => ?_)
  ·
   refine GC_draw 10 ([own 5 1 (some ⟨B, 0, none⟩) (many n) (many n) (bytesV (packP l m))]) mixed ?_
   refine GA_v (i := 0) rfl rfl rfl (by kernel_rfl) (rv_mv (v := .slice _ _ _) vw) ?_
   refine GA_v (i := 1) rfl rfl rfl (by kernel_rfl) (rv_mv (v := .int .i64 _) vw) ?_
   refine GA_v (i := 2) rfl rfl rfl (by kernel_rfl) (rv_quo (r := ((m / 8 : Nat) : Int)) vw vw (fun _ => by decide) (fun _ => by rw [Int.tdiv_eq_ediv_of_nonneg (by omega)]; rw [IntWalk.i64_in _ (by omega)]; omega)) ?_
   refine GA_v (i := 3) rfl rfl rfl (by kernel_rfl) (rv_ix (i := m / 8) el22 vw vw (fun _ => rfl) (fun _ => hm8) (fun _ => by simp)) ?_
   refine GA_v (i := 4) rfl rfl rfl (by kernel_rfl) (rv_ldE (v := .int .u8 (octet (l.take m) (m / 8) : Nat)) Tryz.underlying5 rfl vw (fun _ => by rw [Nat.mul_one, ← b8_of _ (octet_lt _ _)]; simp [bytesV, packP_at l m (m / 8) (by rw [hl]; exact hm8)])) ?_
   refine GA_v (i := 5) rfl rfl rfl (by kernel_rfl) (rv_mv (v := .int .i64 _) vw) ?_
   refine GA_v (i := 6) rfl rfl rfl (by kernel_rfl) (rv_rem (r := ((m % 8 : Nat) : Int)) vw vw (fun _ => by decide) (fun _ => by rw [Int.tmod_eq_emod_of_nonneg (by omega)]; omega)) ?_
   refine GA_v (i := 7) rfl rfl rfl (by kernel_rfl) (rv_shl (r := ((2 ^ (m % 8) : Nat) : Int)) vw vw (fun _ => by omega) (fun _ => by
    have h8 : m % 8 < 8 := Nat.mod_lt _ (by decide)
    have e1 : min (m % 8) 8 = m % 8 := by omega
    have e2 : 2 ^ (m % 8) < 2 ^ 8 := Nat.pow_lt_pow_right (by decide) h8
    simp only [IntKind.bits, Int.toNat_natCast, e1, Int.one_mul]
    rw [show (2 : Int) ^ (m % 8) = ((2 ^ (m % 8) : Nat) : Int) by simp]
    have e3 : 2 ^ (m % 8) < 256 := e2
    generalize 2 ^ (m % 8) = z at *
    exact IntWalk.u8_in _ (by omega))) ?_
   refine GA_v (i := 8) rfl rfl rfl (by kernel_rfl) (rv_bit (r := .int .u8 ((octet (l.take m) (m / 8) ||| 2 ^ (m % 8) : Nat) : Int)) (.inr (.inl rfl)) vw vw (fun _ w => run_or8 w _ _ (octet_lt _ _) (Nat.pow_lt_pow_right (by decide) (Nat.mod_lt m (by decide : 0 < 8))))) ?_
   refine GA_v (i := 9) rfl rfl rfl (by kernel_rfl) (rv_ix (i := m / 8) el22 vw vw (fun _ => rfl) (fun _ => hm8) (fun _ => by simp)) ?_
   refine GA_free (by kernel_rfl) ?_
   refine GA_last 10 rfl (by kernel_rfl) ?_
   refine GL_stE (u := .int .u8 ((octet (l.take m) (m / 8) ||| 2 ^ (m % 8) : Nat) : Int)) (xs' := bytesV (packP l (m + 1))) rfl rfl c5 rfl (by omega) (by rw [packP_yes l m hlt h1, Nat.mul_one, ← b8_of _ (Nat.or_lt_two_pow (octet_lt _ _) (Nat.pow_lt_pow_right (by decide) (Nat.mod_lt m (by decide : 0 < 8))))]; simp [bytesV, List.map_set]) ?_
   refine GL_nil ?_
   refine GA_nil (by kernel_rfl) ?_
   refine GC_region ?_
   refine GL_v rfl (rv_add (r := ((m + 1 : Nat) : Int)) vw vw (fun _ => by rw [IntWalk.i64_in _ (by omega)]; omega)) ?_
   refine GL_v rfl (rv_mv (v := .int .i64 _) vw) ?_
   refine GL_nil ?_
   exact ⟨m + 1, ⟨by omega, ⟨rfl, rfl, rfl, rfl, trivial⟩, rfl, rfl⟩, by omega⟩
  ·
   rw [← packP_no l m hlt h1]
   refine GC_skip ?_
   refine GC_region ?_
   refine GL_v rfl (rv_add (r := ((m + 1 : Nat) : Int)) vw vw (fun _ => by rw [IntWalk.i64_in _ (by omega)]; omega)) ?_
   refine GL_v rfl (rv_mv (v := .int .i64 _) vw) ?_
   refine GL_nil ?_
   exact ⟨m + 1, ⟨by omega, ⟨rfl, rfl, rfl, rfl, trivial⟩, rfl, rfl⟩, by omega⟩
 ·
  obtain rfl : m = l.length := by simp at h0; omega
  rw [packP_all]
  refine GC_exit ?_
  refine GC_seq ?_
  refine GC_region ?_
  refine GL_v rfl (rv_mv (v := .slice _ _ _) vw) ?_
  refine GL_v rfl (rv_as (v := .slice _ _ _) vw) ?_
  refine GL_nil ?_
  refine GC_ret ?_
  exact fin1 (.inr rfl) rfl rfl (.cons .here .nil) sb ⟨B, rfl, rfl, rfl⟩
theorem Unpack_ct (A : Option Addr) (n k : Nat) (b : List UInt8) (j : Int) (hj : j ≤ 1152921504606846976 ∧ -1152921504606846976 ≤ j) (hn : n ≤ 35184372088832) : Ct PG 192 [.slice A n k, .int .i64 j] [] [row 1 A n k (bytesV b)]
 (fun v S' T' => ∃ A' n' k', v = .tuple #[.slice A' n' k', .bool (unpackS b j).2] ∧ S' = [] ∧ T' = [row 1 A' n' k' (boolsV (unpackS b j).1)]) := by
 refine Ct_of Tryz.func192 rfl 46 rfl (Nat.le_of_ble_eq_true rfl) fun w0 M N => ?_
 refine GC_row A fun hrow => ?_
 have hl : b.length = n := by have := hrow.1; simpa [bytesV] using this
 obtain ⟨p, hp⟩ : ∃ p, unpackS b j = p := ⟨_, rfl⟩
 rw [hp]
 refine GC_seq ?_
 refine GC_region ?_
 refine GL_v rfl (rv_as (v := .slice _ _ _) vw) ?_
 refine GL_v rfl (rv_as (v := .bool _) vw) ?_
 refine GL_nil ?_
 refine GC_seq ?_
 refine GC_seq ?_
 refine GC_region ?_
 refine GL_v rfl (rv_mv (v := .int .i64 _) vw) ?_
 refine GL_v rfl (rv_lss vw vw) ?_
 refine GL_v rfl (rv_mv (v := .bool _) vw) ?_
 refine GL_g rfl rfl gvf (rv_mv (v := .slice _ _ _) vw) ?_
 refine GL_g rfl rfl gvf (rv_len el22 vwg) ?_
 refine GL_g rfl rfl gvf (rv_mv (v := .int .i64 _) vw) ?_
 refine GL_callG rfl rfl gvf cb191 (fun _ => Many_ct j (by omega)) (fun q => congrArg (· :: []) (vwg q)) (fun _ => .nil) ?_
 refine GL_g rfl rfl gvf (rv_neq vwg vwg) ?_
 refine GL_v rfl (rv_or vw vwg) ?_
 refine GL_nil ?_
 refine GC_cond rfl (fun h0 => ?_) (fun h0 => ?_)
 ·
  have hh : j < 0 ∨ (b.length : Int) ≠ manyI j := by
   simp only [Bool.or_eq_true, decide_eq_true_eq, Bool.not_eq_true', decide_eq_false_iff_not] at h0; omega
  have : unpackS b j = ([], false) := if_pos hh
  obtain rfl := hp.symm.trans this
  refine GC_seq ?_
  refine GC_region ?_
  refine GL_v rfl (rv_as (v := .slice _ _ _) vw) ?_
  refine GL_v rfl (rv_as (v := .bool _) vw) ?_
  refine GL_nil ?_
  refine GC_shift .nil (nil_row (sz := 1)) ?_
  refine GC_ret ?_
  exact fin2 (T' := [row 1 none 0 0 []]) (.inr rfl) rfl rfl rfl .nil sb ⟨none, 0, 0, rfl, rfl, rfl⟩
 ·
  have hh : ¬ (j < 0 ∨ (b.length : Int) ≠ manyI j) := by
   simp only [Bool.or_eq_false_iff, decide_eq_false_iff_not, Bool.not_eq_false', decide_eq_true_eq] at h0; omega
  obtain ⟨q, rfl⟩ : ∃ q : Nat, j = q := ⟨j.toNat, by omega⟩
  have hq : many q = n := by rw [manyI_nat] at hh; omega
  have hu : unpackS b q = if restZ b q (8 * b.length) then (bitsP b q (8 * b.length), true) else ([], false) := if_neg hh
  have hq8 : q ≤ 8 * n := by unfold many at hq; omega
  refine GC_skip ?_
  refine GC_seq ?_
  refine GC_region ?_
  refine GL_v rfl (rv_mv (v := .int .i64 _) vw) ?_
  refine GL_mk (z := .bool false) (n := q) rfl el26 (fun _ => by kernel_rfl) rfl rfl rfl (by omega) (by simp [maxLen]; omega) (fun B => ?_)
  refine GL_v rfl (rv_as (v := .slice _ _ _) vw) ?_
  refine GL_nil ?_
  refine GC_seq ?_
  refine GC_seq ?_
  refine GC_region ?_
  refine GL_v rfl (rv_mv (v := .slice _ _ _) vw) ?_
  refine GL_v rfl (rv_len el22 vw) ?_
  refine GL_v rfl (rv_mul (r := 8 * (n : Int)) vw vw (fun _ => IntWalk.i64_in _ (by omega))) ?_
  refine GL_v rfl (rv_mv (v := .int .i64 _) vw) ?_
  refine GL_nil ?_
  have e0 : List.replicate q (Value.bool false) = boolsV (bitsP b q 0) := by
   rw [bitsP_zero]; simp [boolsV]
  rw [e0]
  refine GC_block ?_
  refine GC_loop (fun (m : Nat) E S T => m ≤ 8 * n ∧ restZ b q m = true ∧ At E [(6, .slice (some ⟨B, 0, none⟩) q q), (23, .int .i64 m), (0, .slice A n k), (1, .int .i64 q), (22, .int .i64 (8 * (n : Int)))] ∧ S = [own 4 1 (some ⟨B, 0, none⟩) q q (boolsV (bitsP b q m))] ∧ T = [row 1 A n k (bytesV b)]) (fun m => 8 * n - m) 0 ⟨Nat.zero_le _, rfl, ⟨rfl, rfl, rfl, rfl, rfl, trivial⟩, rfl, rfl⟩ ?_
  rintro m E S T ⟨hm, hz, hE, rfl, rfl⟩
  obtain ⟨E0, rfl⟩ := hE.ex
  refine GC_seq ?_
  refine GC_region ?_
  refine GL_v rfl (rv_lss vw vw) ?_
  refine GL_nil ?_
  refine GC_seq ?_
  refine GC_cond rfl (fun h1 => ?_) (fun h1 => ?_)
  ·
   have hlt : m < 8 * n := by simp at h1; omega
   have hm8 : m / 8 < b.length := by omega
   have hA : A ≠ none := hrow.2.2.2.2 (by omega) (by decide)
   have hx := (b[m / 8]'hm8).toNat_lt
   have hle : (b[m / 8]'hm8).toNat / 2 ^ (m % 8) ≤ (b[m / 8]'hm8).toNat := Nat.div_le_self _ _
   have hbit : bitAt b m = decide ((((b[m / 8]'hm8).toNat / 2 ^ (m % 8) &&& 1 : Nat) : Int) = 1) := by
    unfold bitAt
    rw [List.getD_eq_getElem?_getD, List.getElem?_eq_getElem hm8, Nat.and_one_is_mod]
    congr 1; apply propext; simp only [Option.getD_some]; omega
   refine GC_skip ?_
   refine GC_seq ?_
   refine GC_block ?_
   refine GC_seq ?_
   refine GC_region ?_
   refine GL_v rfl (rv_mv (v := .int .i64 _) vw) ?_
   refine GL_v rfl (rv_as (v := .int .i64 _) vw) ?_
   refine GL_nil ?_
   refine GC_seq ?_
   refine GC_region ?_
   refine GL_v rfl (rv_mv (v := .slice _ _ _) vw) ?_
   refine GL_v rfl (rv_mv (v := .int .i64 _) vw) ?_
   refine GL_v rfl (rv_quo (r := ((m / 8 : Nat) : Int)) vw vw (fun _ => by decide) (fun _ => by rw [Int.tdiv_eq_ediv_of_nonneg (by omega)]; rw [IntWalk.i64_in _ (by omega)]; omega)) ?_
   refine GL_v rfl (rv_ix (i := m / 8) el22 vw vw (fun _ => rfl) (fun _ => by omega) (fun _ => hA)) ?_
   refine GL_v rfl (rv_ldE (v := b8 (b[m / 8]'hm8)) Tryz.underlying5 rfl vw (fun _ => by rw [Nat.mul_one]; exact bytesV_at _)) ?_
   refine GL_v rfl (rv_mv (v := .int .i64 _) vw) ?_
   refine GL_v rfl (rv_rem (r := ((m % 8 : Nat) : Int)) vw vw (fun _ => by decide) (fun _ => by rw [Int.tmod_eq_emod_of_nonneg (by omega)]; omega)) ?_
   refine GL_v rfl (rv_shr (r := (((b[m / 8]'hm8).toNat / 2 ^ (m % 8) : Nat) : Int)) vw vw (fun _ => by omega) (fun _ => by
    have h8 : m % 8 < 8 := Nat.mod_lt _ (by decide)
    have e1 : min (m % 8) 8 = m % 8 := by omega
    simp only [IntKind.bits, Int.toNat_natCast, e1]
    rw [Int.fdiv_eq_ediv_of_nonneg _ (by exact_mod_cast Nat.zero_le _)]; simp)) ?_
   refine GL_v rfl (rv_bit (r := .int .u8 (((b[m / 8]'hm8).toNat / 2 ^ (m % 8) &&& 1 : Nat) : Int)) (.inl rfl) vw vw (fun _ w => run_and8 w _ 1 (by omega) (by decide))) ?_
   refine GL_v rfl (rv_eql vw vw) ?_
   refine GL_v rfl (rv_as (v := .bool (bitAt b m)) (fun _ => by rw [hbit]; rfl)) ?_
   refine GL_nil ?_
   refine GC_seq ?_
   refine GC_region ?_
   refine GL_v rfl (rv_mv (v := .int .i64 _) vw) ?_
   refine GL_v rfl (rv_mv (v := .int .i64 _) vw) ?_
   refine GL_v rfl (rv_lss vw vw) ?_
   refine GL_nil ?_
   refine GC_cond rfl (fun h2 => ?_) (fun h2 => ?_)
   ·
    have hmq : m < q := by simp at h2; omega
    refine GC_region ?_
    refine GL_v rfl (rv_mv (v := .slice _ _ _) vw) ?_
    refine GL_v rfl (rv_mv (v := .int .i64 _) vw) ?_
    refine GL_v rfl (rv_mv (v := .bool _) vw) ?_
    refine GL_v rfl (rv_ix (i := m) el26 vw vw (fun _ => rfl) (fun _ => hmq) (fun _ => by simp)) ?_
    refine GL_stE (u := .bool (bitAt b m)) (xs' := boolsV (bitsP b q (m + 1))) rfl rfl c4 rfl (by omega) (by rw [bitsP_in b q m hmq, Nat.mul_one]; simp [boolsV, List.map_set]) ?_
    refine GL_nil ?_
    have hz2 : restZ b q (m + 1) = true := by rw [restZ_step, hz]; simp [hmq]
    refine GC_region ?_
    refine GL_v rfl (rv_add (r := ((m + 1 : Nat) : Int)) vw vw (fun _ => by rw [IntWalk.i64_in _ (by omega)]; omega)) ?_
    refine GL_v rfl (rv_mv (v := .int .i64 _) vw) ?_
    refine GL_nil ?_
    exact ⟨m + 1, ⟨by omega, hz2, ⟨rfl, rfl, rfl, rfl, rfl, trivial⟩, rfl, rfl⟩, by omega⟩
   ·
    have hmq : q ≤ m := by simp at h2; omega
    refine GC_seq ?_
    refine GC_region ?_
    refine GL_v rfl (rv_mv (v := .bool _) vw) ?_
    refine GL_nil ?_
    refine GC_cond rfl (fun h3 => ?_) (fun h3 => ?_)
    ·
     have hz2 : restZ b q (8 * b.length) = false := by
      rw [Bool.eq_false_iff]; intro hall
      have := List.all_eq_true.1 hall m (List.mem_range.2 (by omega))
      have h4 : ¬ m < q := by omega
      rw [h3] at this; simp [h4] at this
     rw [hz2, if_neg (by simp)] at hu
     obtain rfl := hp.symm.trans hu
     refine GC_seq ?_
     refine GC_region ?_
     refine GL_v rfl (rv_as (v := .slice _ _ _) vw) ?_
     refine GL_v rfl (rv_as (v := .bool _) vw) ?_
     refine GL_nil ?_
     refine GC_shift .nil (nil_row (sz := 1)) ?_
     refine GC_ret ?_
     exact fin2 (T' := [row 1 none 0 0 []]) (.inr rfl) rfl rfl rfl .nil sb ⟨none, 0, 0, rfl, rfl, rfl⟩
    ·
     have hz2 : restZ b q (m + 1) = true := by rw [restZ_step, hz, h3]; simp
     rw [← bitsP_out b q m hmq]
     refine GC_skip ?_
     refine GC_region ?_
     refine GL_v rfl (rv_add (r := ((m + 1 : Nat) : Int)) vw vw (fun _ => by rw [IntWalk.i64_in _ (by omega)]; omega)) ?_
     refine GL_v rfl (rv_mv (v := .int .i64 _) vw) ?_
     refine GL_nil ?_
     exact ⟨m + 1, ⟨by omega, hz2, ⟨rfl, rfl, rfl, rfl, rfl, trivial⟩, rfl, rfl⟩, by omega⟩
  ·
   obtain rfl : m = 8 * n := by simp at h1; omega
   rw [← hl] at hz
   rw [if_pos hz] at hu
   obtain rfl := hp.symm.trans hu
   rw [← hl]
   refine GC_exit ?_
   refine GC_seq ?_
   refine GC_region ?_
   refine GL_v rfl (rv_mv (v := .slice _ _ _) vw) ?_
   refine GL_v rfl (rv_as (v := .slice _ _ _) vw) ?_
   refine GL_v rfl (rv_as (v := .bool _) vw) ?_
   refine GL_nil ?_
   refine GC_shift (.cons .here .nil) own_toRow ?_
   refine GC_ret ?_
   exact fin2 (.inr rfl) rfl rfl rfl .nil sb ⟨some ⟨B, 0, none⟩, q, q, rfl, rfl, rfl⟩
end Go.Bus
