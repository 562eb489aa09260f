/- Part of the proof: Refa. No condition. -/
import Derived.Test.YtlfjioigkojjdaaGreatUBBits
import Derived.Test.YtlfjioigkojjdaaGreatUBSpec
set_option linter.unusedVariables false
set_option linter.unusedSimpArgs false
set_option maxRecDepth 100000
set_option maxHeartbeats 4000000
namespace Go.Bus
open Go Go.Proofs
theorem rWithin_ct (a : UInt16) (j : Int) (hj : -9000000000000000000 ≤ j ∧ j ≤ 9000000000000000000) : CtD PG 173 [w16 a, .int .i64 j] [] [] (.bool (within a j)) [] [] := by
 refine Ct_of Tryz.func173 rfl 16 rfl (Nat.le_of_ble_eq_true rfl) fun w0 M N => ?_
 have ha := a.toNat_lt
 refine GC_seq ?_
 refine GC_region ?_
 refine GL_v rfl (rv_as (v := .bool _) vw) ?_
 refine GL_nil ?_
 refine GC_seq ?_
 refine GC_seq ?_
 refine GC_region ?_
 refine GL_v rfl (rv_mv (v := .int .i64 _) vw) ?_
 refine GL_v rfl (rv_lss vw vw) ?_
 refine GL_v rfl (rv_mv (v := .bool _) vw) ?_
 refine GL_g rfl rfl gvf (rv_mv (v := .int .i64 _) vw) ?_
 refine GL_g rfl rfl gvf (rv_gtr vwg vw) ?_
 refine GL_v rfl (rv_or vw vwg) ?_
 refine GL_nil ?_
 refine GC_cond rfl (fun h0 => ?_) (fun h0 => ?_)
 ·
  have he : within a j = false := by
   have := h0; simp at this; unfold within; simp; omega
  rw [he]
  refine GC_seq ?_
  refine GC_region ?_
  refine GL_v rfl (rv_as (v := .bool _) vw) ?_
  refine GL_nil ?_
  refine GC_ret ?_
  exact fin1 (.inr rfl) rfl rfl .nil .nil ⟨rfl, rfl, rfl⟩
 ·
  have he : within a j = decide ((a.toNat : Int) + j ≤ 65536) := by
   have := h0; simp at this; unfold within
   rw [Bool.eq_iff_iff]; simp; omega
  rw [he]
  have hj2 : 1 ≤ j ∧ j ≤ 65536 := by have := h0; simp at this; omega
  refine GC_skip ?_
  refine GC_seq ?_
  refine GC_region ?_
  refine GL_v rfl (rv_mv (v := .int .u16 _) vw) ?_
  refine GL_v rfl (rv_cnv (r := (a.toNat : Int)) Tryz.underlying24 Tryz.underlying3 vw (fun _ => IntWalk.i64_in _ (by omega))) ?_
  refine GL_v rfl (rv_mv (v := .int .i64 _) vw) ?_
  refine GL_v rfl (rv_add (r := (a.toNat : Int) + j) vw vw (fun _ => IntWalk.i64_in _ (by omega))) ?_
  refine GL_v rfl (rv_leq vw vw) ?_
  refine GL_v rfl (rv_as (v := .bool _) vw) ?_
  refine GL_nil ?_
  refine GC_ret ?_
  exact fin1 (.inr rfl) rfl rfl .nil .nil ⟨rfl, rfl, rfl⟩
theorem rMany_ct (j : Int) (hj : j < 9223372036854775808 ∧ -9223372036854775808 ≤ j) : CtD PG 115 [.int .i64 j] [] [] (.int .i64 (manyI j)) [] [] := by
 refine Ct_of Tryz.func115 rfl 14 rfl (Nat.le_of_ble_eq_true rfl) fun w0 M N => ?_
 refine GC_seq ?_
 refine GC_region ?_
 refine GL_v rfl (rv_as (v := .int .i64 _) vw) ?_
 refine GL_nil ?_
 refine GC_seq ?_
 refine GC_seq ?_
 refine GC_region ?_
 refine GL_v rfl (rv_mv (v := .int .i64 _) vw) ?_
 refine GL_v rfl (rv_lss vw vw) ?_
 refine GL_nil ?_
 refine GC_cond rfl (fun h0 => ?_) (fun h0 => ?_)
 ·
  have he : manyI j = 0 := by have := h0; simp at this; exact if_pos (by omega)
  refine GC_seq ?_
  refine GC_region ?_
  refine GL_v rfl (rv_as (v := .int .i64 _) vw) ?_
  refine GL_nil ?_
  refine GC_ret ?_
  exact fin1 (.inr rfl) rfl rfl .nil .nil ⟨by rw [he]; rfl, rfl, rfl⟩
 ·
  have hj1 : 1 ≤ j := by have := h0; simp at this; omega
  have he : manyI j = (j - 1) / 8 + 1 := by unfold manyI; rw [if_neg (by omega)]
  refine GC_skip ?_
  refine GC_seq ?_
  refine GC_region ?_
  refine GL_v rfl (rv_mv (v := .int .i64 _) vw) ?_
  refine GL_v rfl (rv_quo (r := j / 8) vw vw (fun _ => by decide) (fun _ => by rw [Int.tdiv_eq_ediv_of_nonneg (by omega)]; exact IntWalk.i64_in _ (by omega))) ?_
  refine GL_v rfl (rv_as (v := .int .i64 _) vw) ?_
  refine GL_nil ?_
  refine GC_seq ?_
  refine GC_seq ?_
  refine GC_region ?_
  refine GL_v rfl (rv_mv (v := .int .i64 _) vw) ?_
  refine GL_v rfl (rv_rem (r := j % 8) vw vw (fun _ => by decide) (fun _ => Int.tmod_eq_emod_of_nonneg (by omega))) ?_
  refine GL_v rfl (rv_gtr vw vw) ?_
  refine GL_nil ?_
  refine GC_cond rfl (fun h1 => ?_) (fun h1 => ?_)
  ·
   have he2 : manyI j = j / 8 + 1 := by have := h1; simp at this; omega
   refine GC_region ?_
   refine GL_v rfl (rv_mv (v := .int .i64 _) vw) ?_
   refine GL_v rfl (rv_add (r := j / 8 + 1) vw vw (fun _ => IntWalk.i64_in _ (by omega))) ?_
   refine GL_v rfl (rv_as (v := .int .i64 _) vw) ?_
   refine GL_nil ?_
   refine GC_seq ?_
   refine GC_region ?_
   refine GL_v rfl (rv_mv (v := .int .i64 _) vw) ?_
   refine GL_v rfl (rv_as (v := .int .i64 _) vw) ?_
   refine GL_nil ?_
   refine GC_ret ?_
   exact fin1 (.inr rfl) rfl rfl .nil .nil ⟨by rw [he2]; rfl, rfl, rfl⟩
  ·
   have he2 : manyI j = j / 8 := by have := h1; simp at this; omega
   refine GC_skip ?_
   refine GC_seq ?_
   refine GC_region ?_
   refine GL_v rfl (rv_mv (v := .int .i64 _) vw) ?_
   refine GL_v rfl (rv_as (v := .int .i64 _) vw) ?_
   refine GL_nil ?_
   refine GC_ret ?_
   exact fin1 (.inr rfl) rfl rfl .nil .nil ⟨by rw [he2]; rfl, rfl, rfl⟩
theorem rTake_ct (A : Option Addr) (n k : Nat) (r : List UInt8) (hn : n ≤ 140737488355328) : Ct PG 175 [.slice A n k] [] [row 1 A n k (bytesV r)]
 (fun v S' T' => ∃ A' n' k', v = .slice A' n' k' ∧ S' = [own 24 1 A' n' k' (wordsV (wordTake r))] ∧ T' = []) := by
 refine Ct_of Tryz.func175 rfl 33 rfl (Nat.le_of_ble_eq_true rfl) fun w0 M N => ?_
 refine GC_row A fun hrow => ?_
 have hl : r.length = n := by have := hrow.1; simpa [bytesV] using this
 refine GC_seq ?_
 refine GC_region ?_
 refine GL_v rfl (rv_as (v := .slice _ _ _) vw) ?_
 refine GL_nil ?_
 refine GC_seq ?_
 refine GC_region ?_
 refine GL_v rfl (rv_as (v := .slice _ _ _) vw) ?_
 refine GL_nil ?_
 refine GC_shift .nil (nil_own (t := 24) (sz := 1)) ?_
 refine GC_seq ?_
 refine GC_seq ?_
 refine GC_region ?_
 refine GL_v rfl (rv_mv (v := .slice _ _ _) vw) ?_
 refine GL_v rfl (rv_len el22 vw) ?_
 refine GL_v rfl (rv_rem (r := (n : Int) % 2) vw vw (fun _ => by decide) (fun _ => Int.tmod_eq_emod_of_nonneg (by omega))) ?_
 refine GL_v rfl (rv_eql vw vw) ?_
 refine GL_nil ?_
 refine GC_cond rfl (fun h0 => ?_) (fun h0 => ?_)
 ·
  have hw : wordTake r = [] := by
   have := h0; simp at this
   unfold wordTake; rw [if_neg (by omega)]
  rw [hw]
  refine GC_seq ?_
  refine GC_region ?_
  refine GL_v rfl (rv_as (v := .slice _ _ _) vw) ?_
  refine GL_nil ?_
  refine GC_ret ?_
  exact fin1 (.inr rfl) rfl rfl (.cons .here .nil) .nil ⟨none, 0, 0, rfl, rfl, rfl⟩
 ·
  have hev : n % 2 = 0 := by have := h0; simp at this; omega
  have hw : wordTake r = takeW (r.take (2 * (n / 2))) := by
   unfold wordTake; rw [if_pos (by omega), List.take_of_length_le (by omega)]
  rw [hw]
  refine GC_skip ?_
  refine GC_seq ?_
  refine GC_seq ?_
  refine GC_region ?_
  refine GL_v rfl (rv_as (v := .int .i64 _) vw) ?_
  refine GL_nil ?_
  refine GC_block ?_
  refine GC_loop (fun (m : Nat) E S T => 2 * m ≤ n ∧ ∃ A' k', At E [(0, .slice A n k), (3, .slice A' m k'), (4, .int .i64 (2 * m : Nat))] ∧ S = [own 24 1 A' m k' (wordsV (takeW (r.take (2 * m))))] ∧ T = [row 1 A n k (bytesV r)]) (fun m => n - 2 * m) 0 ⟨Nat.zero_le _, none, 0, ⟨rfl, rfl, rfl, trivial⟩, rfl, rfl⟩ ?_
  rintro m E S T ⟨hm, A', k', hE, rfl, rfl⟩
  obtain ⟨E0, rfl⟩ := hE.ex
  refine GC_seq ?_
  refine GC_seq ?_
  refine GC_region ?_
  refine GL_v rfl (rv_mv (v := .int .i64 _) vw) ?_
  refine GL_v rfl (rv_add (r := ((2 * m + 1 : Nat) : Int)) vw vw (fun _ => by rw [IntWalk.i64_in _ (by omega)]; omega)) ?_
  refine GL_v rfl (rv_mv (v := .slice _ _ _) vw) ?_
  refine GL_v rfl (rv_len el22 vw) ?_
  refine GL_v rfl (rv_lss vw vw) ?_
  refine GL_nil ?_
  refine GC_cond rfl (fun h1 => ?_) (fun h1 => ?_)
  ·
   have hlt : 2 * m + 1 < r.length := by have := h1; simp at this; omega
   have hA : A ≠ none := hrow.2.2.2.2 (by omega) (by decide)
   have hb1 := (r[2 * m]'(by omega)).toNat_lt
   have hb2 := (r[2 * m + 1]'hlt).toNat_lt
   refine GC_skip ?_
   refine GC_seq ?_
   refine GC_block ?_
   refine GC_draw 16 ([row 1 A n k (bytesV r)]) mixed ?_
   refine GA_v (i := 0) rfl rfl rfl (by kernel_rfl) (rv_mv (v := .slice _ _ _) vw) ?_
   refine GA_v (i := 1) rfl rfl rfl (by kernel_rfl) (rv_mv (v := .slice _ _ _) vw) ?_
   refine GA_v (i := 2) rfl rfl rfl (by kernel_rfl) (rv_mv (v := .int .i64 _) vw) ?_
   refine GA_v (i := 3) rfl rfl rfl (by kernel_rfl) (rv_ix (i := 2 * m) el22 vw vw (fun _ => rfl) (fun _ => by omega) (fun _ => hA)) ?_
   refine GA_v (i := 4) rfl rfl rfl (by kernel_rfl) (rv_ldE (v := b8 (r[2 * m]'(by omega))) Tryz.underlying5 rfl vw (fun _ => by rw [Nat.mul_one]; exact bytesV_at _)) ?_
   refine GA_v (i := 5) rfl rfl rfl (by kernel_rfl) (rv_cnv (r := ((r[2 * m]'(by omega)).toNat : Int)) Tryz.underlying5 Tryz.underlying24 vw (fun _ => IntWalk.u16_in _ (by omega))) ?_
   refine GA_v (i := 6) rfl rfl rfl (by kernel_rfl) (rv_mul (r := 256 * ((r[2 * m]'(by omega)).toNat : Int)) vw vw (fun _ => IntWalk.u16_in _ (by omega))) ?_
   refine GA_v (i := 7) rfl rfl rfl (by kernel_rfl) (rv_mv (v := .slice _ _ _) vw) ?_
   refine GA_v (i := 8) rfl rfl rfl (by kernel_rfl) (rv_mv (v := .int .i64 _) vw) ?_
   refine GA_v (i := 9) rfl rfl rfl (by kernel_rfl) (rv_add (r := ((2 * m + 1 : Nat) : Int)) vw vw (fun _ => by rw [IntWalk.i64_in _ (by omega)]; omega)) ?_
   refine GA_v (i := 10) rfl rfl rfl (by kernel_rfl) (rv_ix (i := 2 * m + 1) el22 vw vw (fun _ => rfl) (fun _ => by omega) (fun _ => hA)) ?_
   refine GA_v (i := 11) rfl rfl rfl (by kernel_rfl) (rv_ldE (v := b8 (r[2 * m + 1]'hlt)) Tryz.underlying5 rfl vw (fun _ => by rw [Nat.mul_one]; exact bytesV_at _)) ?_
   refine GA_v (i := 12) rfl rfl rfl (by kernel_rfl) (rv_cnv (r := ((r[2 * m + 1]'hlt).toNat : Int)) Tryz.underlying5 Tryz.underlying24 vw (fun _ => IntWalk.u16_in _ (by omega))) ?_
   refine GA_v (i := 13) rfl rfl rfl (by kernel_rfl) (rv_add (r := ((UInt16.ofNat (256 * (r[2 * m]'(by omega)).toNat + (r[2 * m + 1]'hlt).toNat)).toNat : Int)) vw vw (fun _ => by rw [IntWalk.u16_in _ (by omega), UInt16.toNat_ofNat_of_lt' (by simp [UInt16.size]; omega)]; omega)) ?_
   refine GA_one 14 rfl rfl (by kernel_rfl) ?_
   refine GL_bs (l := [w16 (UInt16.ofNat (256 * (r[2 * m]'(by omega)).toNat + (r[2 * m + 1]'hlt).toNat))]) rfl el25 z24 rfl rfl rfl (fun b30 => ?_)
   refine GL_nil ⟨inferInstance, ?_⟩
   refine GA_one 15 rfl rfl (by kernel_rfl) ?_
   refine GL_app (m := 1) rfl el25 rfl rfl pW rfl (by simp [w16, Value.oneCell']) (by omega) (by simp [maxLen]; omega) (fun A2 k2 => ?_)
   refine GL_drop (.cons .here .nil) ?_
   refine GL_nil ⟨inferInstance, ?_⟩
   refine GA_free (by kernel_rfl) ?_
   refine GA_w (i := 16) rfl rfl rfl (by kernel_rfl) (rv_as (v := .slice _ _ _) vw) ?_
   refine GA_nil (by kernel_rfl) ?_
   refine GC_region ?_
   refine GL_v rfl (rv_mv (v := .int .i64 _) vw) ?_
   refine GL_v rfl (rv_add (r := ((2 * (m + 1) : Nat) : Int)) vw vw (fun _ => by rw [IntWalk.i64_in _ (by omega)]; omega)) ?_
   refine GL_v rfl (rv_as (v := .int .i64 _) vw) ?_
   refine GL_nil ?_
   refine ⟨m + 1, ⟨by omega, A2, k2, ⟨rfl, rfl, rfl, trivial⟩, ?_, rfl⟩, by omega⟩
   rw [takeW_two r m hlt, wordsV_append]; rfl
  ·
   obtain rfl : m = n / 2 := by have := h1; simp at this; omega
   refine GC_exit ?_
   refine GC_seq ?_
   refine GC_region ?_
   refine GL_v rfl (rv_mv (v := .slice _ _ _) vw) ?_
   refine GL_v rfl (rv_as (v := .slice _ _ _) vw) ?_
   refine GL_nil ?_
   refine GC_ret ?_
   exact fin1 (.inr rfl) rfl rfl pW sb ⟨A', _, k', rfl, rfl, rfl⟩
end Go.Bus
