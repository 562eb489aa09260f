/- Part of the proof: Crc. No condition. -/
import Derived.Test.YtlfjioigkojjdaaGreatUACrcP
import Derived.Test.YtlfjioigkojjdaaGreatUAEngd
set_option linter.unusedVariables false
set_option linter.unusedSimpArgs false
set_option maxRecDepth 100000
set_option maxHeartbeats 8000000
namespace Go.Bus
open Go Go.Proofs
theorem z179 : ZeroOf PG 179 (tabC 0) := by rw [tabC_zero]; exact ⟨.agg (List.replicate 256 (.int .u16 0)).toArray, fun _ => by kernel_rfl, rfl⟩
theorem c179 : Cells PG 179 256 := fun _ => by kernel_rfl
theorem a179 : Agg PG 179 256 := fun _ => ⟨by kernel_rfl, by kernel_rfl⟩
theorem table_ct : CtD PG 186 [] [] [] (.agg (tabC 256).toArray) [] [] := by
 refine Ct_of Tryz.func186 rfl 23 rfl (Nat.le_of_ble_eq_true rfl) fun w0 M N => ?_
 refine GC_seq ?_
 refine GC_region ?_
 refine GL_alloc rfl z179 (fun b0 => ?_)
 refine GL_nil ?_
 refine GC_seq ?_
 refine GC_region ?_
 refine GL_alloc rfl z179 (fun b1 => ?_)
 refine GL_nil ?_
 refine GC_seq ?_
 refine GC_seq ?_
 refine GC_region ?_
 refine GL_v rfl (rv_mv (v := .int .i64 _) vw) ?_
 refine GL_nil ?_
 refine GC_block ?_
 refine GC_loop (fun (i : Nat) E S T => i ≤ 256 ∧ At E [(0, .pointer (some ⟨b0, 0, none⟩)), (1, .pointer (some ⟨b1, 0, none⟩)), (4, .int .i64 i)] ∧ S = [blk b1 (tabC i) 179, blk b0 (tabC 0) 179] ∧ T = []) (fun i => 256 - i) 0 ⟨Nat.zero_le _, ⟨rfl, rfl, rfl, trivial⟩, rfl, rfl⟩ ?_
 rintro i E S T ⟨hi, hE, rfl, rfl⟩
 obtain ⟨E0, rfl⟩ := hE.ex
 refine GC_seq ?_
 refine GC_region ?_
 refine GL_v rfl (rv_lss vw vw) ?_
 refine GL_nil ?_
 refine GC_seq ?_
 refine GC_cond rfl (fun h0 => ?_) (fun h0 => ?_)
 ·
  have hlt : i < 256 := by have := h0; simp at this; omega
  refine GC_skip ?_
  refine GC_seq ?_
  refine GC_block ?_
  refine GC_seq ?_
  refine GC_region ?_
  refine GL_v rfl (rv_mv (v := .int .i64 _) vw) ?_
  refine GL_v rfl (rv_as (v := .int .i64 _) vw) ?_
  refine GL_nil ?_
  refine GC_seq ?_
  refine GC_region ?_
  refine GL_v rfl (rv_mv (v := .int .i64 _) vw) ?_
  refine GL_v rfl (rv_cnv (r := ((cbits 0 i : Nat) : Int)) Tryz.underlying3 Tryz.underlying24 vw (fun _ => IntWalk.u16_in _ (by simp [cbits]; omega))) ?_
  refine GL_v rfl (rv_as (v := .int .u16 _) vw) ?_
  refine GL_nil ?_
  refine GC_seq ?_
  refine GC_seq ?_
  refine GC_region ?_
  refine GL_v rfl (rv_mv (v := .int .i64 _) vw) ?_
  refine GL_nil ?_
  refine GC_block ?_
  refine GC_loop (fun (q : Nat) E S T => q ≤ 8 ∧ At E [(0, .pointer (some ⟨b0, 0, none⟩)), (1, .pointer (some ⟨b1, 0, none⟩)), (2, .int .i64 i), (3, .int .u16 (cbits q i : Nat)), (4, .int .i64 i), (9, .int .i64 q)] ∧ S = [blk b1 (tabC i) 179, blk b0 (tabC 0) 179] ∧ T = []) (fun q => 8 - q) 0 ⟨Nat.zero_le _, ⟨rfl, rfl, rfl, rfl, rfl, rfl, trivial⟩, rfl, rfl⟩ ?_
  rintro q E S T ⟨hq, hE, rfl, rfl⟩
  obtain ⟨E1, rfl⟩ := hE.ex
  have hx := cbits_lt q (s := i) (by omega)
  have hy := cbits_lt (q + 1) (s := i) (by omega)
  have hs := cbits_snoc q i
  generalize hz : cbits q i = z at *
  refine GC_seq ?_
  refine GC_region ?_
  refine GL_v rfl (rv_lss vw vw) ?_
  refine GL_nil ?_
  refine GC_seq ?_
  refine GC_cond rfl (fun h1 => ?_) (fun h1 => ?_)
  ·
   have hq8 : q < 8 := by have := h1; simp at this; omega
   refine GC_skip ?_
   refine GC_seq ?_
   refine GC_block ?_
   refine GC_region ?_
   refine GL_v rfl (rv_mv (v := .int .u16 _) vw) ?_
   refine GL_v rfl (rv_shr (r := ((z / 2 : Nat) : Int)) vw vw (fun _ => by decide) (fun _ => shr1 z)) ?_
   refine GL_v rfl (rv_mv (v := .int .u16 _) vw) ?_
   refine GL_v rfl (rv_bit (r := .int .u16 ((z &&& 1 : Nat) : Int)) (.inl rfl) vw vw (fun _ w => run_and16 w z 1 hx (by decide))) ?_
   refine GL_v rfl (rv_mul (r := ((z % 2 * 40961 : Nat) : Int)) vw vw (fun _ => by rw [and_one, IntWalk.u16_in _ (by omega)]; omega)) ?_
   refine GL_v rfl (rv_bit (r := .int .u16 ((z / 2 ^^^ z % 2 * 40961 : Nat) : Int)) (.inr (.inr (.inl rfl))) vw vw (fun _ w => run_xor16 w (z / 2) (z % 2 * 40961) (by omega) (by omega))) ?_
   refine GL_v rfl (rv_as (v := .int .u16 _) vw) ?_
   refine GL_nil ?_
   rw [cstep_alt, ← hs]
   refine GC_region ?_
   refine GL_v rfl (rv_add (r := ((q + 1 : Nat) : Int)) vw vw (fun _ => by rw [IntWalk.i64_in _ (by omega)]; omega)) ?_
   refine GL_v rfl (rv_mv (v := .int .i64 _) vw) ?_
   refine GL_nil ?_
   exact ⟨q + 1, ⟨by omega, ⟨rfl, rfl, rfl, rfl, rfl, rfl, trivial⟩, rfl, rfl⟩, by omega⟩
  ·
   obtain rfl : q = 8 := by have := h1; simp at this; omega
   refine GC_exit ?_
   refine GC_region ?_
   refine GL_v rfl (rv_mv (v := .int .i64 _) vw) ?_
   refine GL_v rfl (rv_mv (v := .int .u16 _) vw) ?_
   refine GL_v rfl (rv_ixA (i := i) Tryz.underlying179 c24 vw vw (fun _ => rfl) (fun _ => hlt)) ?_
   rw [← hz]
   haveI := tabC_put hlt
   refine GL_st (u := .int .u16 (cbits 8 i : Nat)) rfl rfl c24 rfl ?_
   refine GL_nil ?_
   refine GC_region ?_
   refine GL_v rfl (rv_add (r := ((i + 1 : Nat) : Int)) vw vw (fun _ => by rw [IntWalk.i64_in _ (by omega)]; omega)) ?_
   refine GL_v rfl (rv_mv (v := .int .i64 _) vw) ?_
   refine GL_nil ?_
   exact ⟨i + 1, ⟨by omega, ⟨rfl, rfl, rfl, trivial⟩, rfl, rfl⟩, by omega⟩
 ·
  obtain rfl : i = 256 := by have := h0; simp at this; omega
  refine GC_exit ?_
  refine GC_seq ?_
  refine GC_region ?_
  refine GL_v rfl (rv_ldA (l := tabC 256) a179 vw (tabC_len (Nat.le_refl _))) ?_
  refine GL_stA (l' := tabC 256) rfl rfl (by rw [tabC_len (Nat.le_refl _)]; exact c179) (tabC_one _) (by rw [tabC_len (Nat.le_refl _), tabC_len (Nat.zero_le _)]) ?_
  refine GL_nil ?_
  refine GC_ret ?_
  exact finS (.inr rfl) rfl rfl inferInstance a179 (tabC_len (Nat.le_refl _)) .nil .nil ⟨rfl, rfl, rfl⟩
theorem Then_ct (s : Nat) (hs : s < 65536) (A : Option Addr) (n k : Nat) (l : List UInt8) (hn : n ≤ 35184372088832) : CtD PG 140 [.int .u16 s, .slice A n k] [] [row 1 A n k (bytesV l)] (.int .u16 (crcN s l : Nat)) [] [] := by
 refine Ct_of Tryz.func140 rfl 26 rfl (Nat.le_of_ble_eq_true rfl) fun w0 M N => ?_
 refine GC_row A fun hrow => ?_
 have hl : l.length = n := by have := hrow.1; simpa [bytesV] using this
 refine GC_seq ?_
 refine GC_region ?_
 refine GL_v rfl (rv_as (v := .int .u16 _) vw) ?_
 refine GL_nil ?_
 refine GC_seq ?_
 refine GC_region ?_
 refine GL_callD rfl cb186 table_ct rfl .nil .nil ?_
 refine GL_alloc rfl z179 (fun b5 => ?_)
 refine GL_stA (l' := tabC 256) rfl rfl (by rw [tabC_len (Nat.le_refl _)]; exact c179) (tabC_one _) (by rw [tabC_len (Nat.le_refl _), tabC_len (Nat.zero_le _)]) ?_
 refine GL_nil ?_
 refine GC_seq ?_
 refine GC_seq ?_
 refine GC_region ?_
 refine GL_v rfl (rv_mv (v := .slice _ _ _) vw) ?_
 refine GL_v rfl (rv_len el22 vw) ?_
 refine GL_v rfl (rv_mv (v := .int .i64 _) vw) ?_
 refine GL_nil ?_
 refine GC_block ?_
 refine GC_loop (fun (m : Nat) E S T => m ≤ n ∧ At E [(0, .int .u16 (crcN s (l.take m) : Nat)), (5, .pointer (some ⟨b5, 0, none⟩)), (9, .slice A n k), (10, .int .i64 n), (11, .int .i64 m)] ∧ S = [blk b5 (tabC 256) 179] ∧ T = [row 1 A n k (bytesV l)]) (fun m => n - m) 0 ⟨Nat.zero_le _, ⟨rfl, rfl, rfl, rfl, rfl, trivial⟩, rfl, rfl⟩ ?_
 rintro m E S T ⟨hm, hE, rfl, rfl⟩
 obtain ⟨E0, rfl⟩ := hE.ex
 have hx := crcN_lt (l.take m) hs
 refine GC_seq ?_
 refine GC_region ?_
 refine GL_v rfl (rv_lss vw vw) ?_
 refine GL_nil ?_
 refine GC_seq ?_
 refine GC_cond rfl (fun h0 => ?_) (fun h0 => ?_)
 ·
  have hlt : m < l.length := by have := h0; simp at this; omega
  have hA : A ≠ none := hrow.2.2.2.2 (by omega) (by decide)
  have hb := (l[m]'hlt).toNat_lt
  have hnx := crc_next s l m hlt
  rw [cbyte_table] at hnx
  generalize hz : crcN s (l.take m) = z at *
  have hx8 : (z % 256 ^^^ (l[m]'hlt).toNat) < 256 := Nat.xor_lt_two_pow (n := 8) (by omega) (by omega)
  have ht := tabC_at hx8
  refine GC_skip ?_
  refine GC_seq ?_
  refine GC_block ?_
  refine GC_seq ?_
  refine GC_region ?_
  refine GL_v rfl (rv_ix (i := m) el22 vw vw (fun _ => rfl) (fun _ => by omega) (fun _ => hA)) ?_
  refine GL_v rfl (rv_ldE (v := b8 (l[m]'hlt)) Tryz.underlying5 rfl vw (fun _ => by rw [Nat.mul_one]; exact bytesV_at _)) ?_
  refine GL_v rfl (rv_as (v := b8 (l[m]'hlt)) vw) ?_
  refine GL_nil ?_
  refine GC_region ?_
  refine GL_v rfl (rv_mv (v := .int .u16 _) vw) ?_
  refine GL_v rfl (rv_shr (r := ((z / 256 : Nat) : Int)) vw vw (fun _ => by decide) (fun _ => shr8 z)) ?_
  refine GL_v rfl (rv_mv (v := .int .u16 _) vw) ?_
  refine GL_v rfl (rv_cnv (r := ((z % 256 : Nat) : Int)) Tryz.underlying24 Tryz.underlying5 vw (fun _ => rfl)) ?_
  refine GL_v rfl (rv_mv (v := b8 (l[m]'hlt)) vw) ?_
  refine GL_v rfl (rv_bit (r := .int .u8 ((z % 256 ^^^ (l[m]'hlt).toNat : Nat) : Int)) (.inr (.inr (.inl rfl))) vw vw (fun _ w => run_xor8 w (z % 256) _ (by omega) hb)) ?_
  refine GL_v rfl (rv_ixA (i := z % 256 ^^^ (l[m]'hlt).toNat) Tryz.underlying179 c24 vw vw (fun _ => rfl) (fun _ => hx8)) ?_
  refine GL_v rfl (rv_ld (v := .int .u16 (cbits 8 (z % 256 ^^^ (l[m]'hlt).toNat) : Nat)) Tryz.underlying24 rfl vw) ?_
  refine GL_v rfl (rv_bit (r := .int .u16 ((z / 256 ^^^ cbits 8 (z % 256 ^^^ (l[m]'hlt).toNat) : Nat) : Int)) (.inr (.inr (.inl rfl))) vw vw (fun _ w => run_xor16 w (z / 256) _ (by omega) (cbits_lt 8 (by omega)))) ?_
  refine GL_v rfl (rv_as (v := .int .u16 _) vw) ?_
  refine GL_nil ?_
  rw [← hnx]
  refine GC_region ?_
  refine GL_v rfl (rv_add (r := ((m + 1 : Nat) : Int)) vw vw (fun _ => by rw [IntWalk.i64_in _ (by omega)]; omega)) ?_
  refine GL_v rfl (rv_mv (v := .int .i64 _) vw) ?_
  refine GL_nil ?_
  exact ⟨m + 1, ⟨by omega, ⟨rfl, rfl, rfl, rfl, rfl, trivial⟩, rfl, rfl⟩, by omega⟩
 ·
  obtain rfl : m = n := by have := h0; simp at this; omega
  rw [List.take_of_length_le (by omega)]
  refine GC_exit ?_
  refine GC_seq ?_
  refine GC_region ?_
  refine GL_v rfl (rv_mv (v := .int .u16 _) vw) ?_
  refine GL_v rfl (rv_as (v := .int .u16 _) vw) ?_
  refine GL_nil ?_
  refine GC_ret ?_
  exact fin1 (.inr rfl) rfl rfl .nil .nil ⟨rfl, rfl, rfl⟩
theorem CrcOf_ct (A : Option Addr) (n k : Nat) (l : List UInt8) (hn : n ≤ 35184372088832) : CtD PG 84 [.slice A n k] [] [row 1 A n k (bytesV l)] (.int .u16 (crcN 65535 l : Nat)) [] [] := by
 refine Ct_of Tryz.func84 rfl 5 rfl (Nat.le_of_ble_eq_true rfl) fun w0 M N => ?_
 refine GC_seq ?_
 refine GC_region ?_
 refine GL_v rfl (rv_as (v := .int .u16 _) vw) ?_
 refine GL_nil ?_
 refine GC_seq ?_
 refine GC_region ?_
 refine GL_v rfl (rv_mv (v := .slice _ _ _) vw) ?_
 refine GL_callD rfl cb140 (Then_ct 65535 (by decide) A n k l hn) rfl .nil sb ?_
 refine GL_v rfl (rv_as (v := .int .u16 _) vw) ?_
 refine GL_nil ?_
 refine GC_ret ?_
 exact fin1 (.inr rfl) rfl rfl .nil .nil ⟨rfl, rfl, rfl⟩
theorem Two_ct (s : Nat) (hs : s < 65536) : Ct PG 83 [.int .u16 s] [] [] (Slc [UInt8.ofNat s, UInt8.ofNat (s / 256)]) := by
 refine Ct_of Tryz.func83 rfl 9 rfl (Nat.le_of_ble_eq_true rfl) fun w0 M N => ?_
 refine GC_seq ?_
 refine GC_region ?_
 refine GL_v rfl (rv_as (v := .slice _ _ _) vw) ?_
 refine GL_nil ?_
 refine GC_seq ?_
 refine GC_region ?_
 refine GL_v rfl (rv_mv (v := .int .u16 _) vw) ?_
 refine GL_v rfl (rv_cnv (r := ((UInt8.ofNat s).toNat : Int)) Tryz.underlying24 Tryz.underlying5 vw (fun _ => by rw [UInt8.toNat_ofNat']; rfl)) ?_
 refine GL_v rfl (rv_mv (v := .int .u16 _) vw) ?_
 refine GL_v rfl (rv_shr (r := ((s / 256 : Nat) : Int)) vw vw (fun _ => by decide) (fun _ => shr8 s)) ?_
 refine GL_v rfl (rv_cnv (r := ((UInt8.ofNat (s / 256)).toNat : Int)) Tryz.underlying24 Tryz.underlying5 vw (fun _ => by rw [UInt8.toNat_ofNat']; rfl)) ?_
 refine GL_bs (l := bytesV [UInt8.ofNat s, UInt8.ofNat (s / 256)]) rfl el22 z5 rfl rfl rfl (fun bb8 => ?_)
 refine GL_shift (.cons .here .nil) (blk_own (n := 2) (sz := 1) rfl (by decide)) ?_
 refine GL_shift (.cons .here .nil) own_toRow ?_
 refine GL_v rfl (rv_as (v := .slice _ _ _) vw) ?_
 refine GL_nil ?_
 refine GC_ret ?_
 exact fin1 (.inr rfl) rfl rfl .nil sb ⟨_, 2, 2, rfl, rfl, rfl⟩
theorem rThen_ct (s : Nat) (hs : s < 65536) (A : Option Addr) (n k : Nat) (l : List UInt8) (hn : n ≤ 35184372088832) : CtD PG 139 [.int .u16 s, .slice A n k] [] [row 1 A n k (bytesV l)] (.int .u16 (crcN s l : Nat)) [] [] := by
 refine Ct_of Tryz.func139 rfl 34 rfl (Nat.le_of_ble_eq_true rfl) fun w0 M N => ?_
 refine GC_row A fun hrow => ?_
 have hl : l.length = n := by have := hrow.1; simpa [bytesV] using this
 refine GC_seq ?_
 refine GC_region ?_
 refine GL_v rfl (rv_as (v := .int .u16 _) vw) ?_
 refine GL_nil ?_
 refine GC_seq ?_
 refine GC_seq ?_
 refine GC_region ?_
 refine GL_v rfl (rv_as (v := .int .i64 _) vw) ?_
 refine GL_nil ?_
 refine GC_block ?_
 refine GC_loop (fun (m : Nat) E S T => m ≤ n ∧ At E [(0, .int .u16 (crcN s (l.take m) : Nat)), (1, .slice A n k), (5, .int .i64 m)] ∧ S = [] ∧ T = [row 1 A n k (bytesV l)]) (fun m => n - m) 0 ⟨Nat.zero_le _, ⟨rfl, rfl, rfl, trivial⟩, rfl, rfl⟩ ?_
 rintro m E S T ⟨hm, hE, rfl, rfl⟩
 obtain ⟨E0, rfl⟩ := hE.ex
 have hx := crcN_lt (l.take m) hs
 refine GC_seq ?_
 refine GC_seq ?_
 refine GC_region ?_
 refine GL_v rfl (rv_mv (v := .int .i64 _) vw) ?_
 refine GL_v rfl (rv_mv (v := .slice _ _ _) vw) ?_
 refine GL_v rfl (rv_len el22 vw) ?_
 refine GL_v rfl (rv_lss vw vw) ?_
 refine GL_nil ?_
 refine GC_cond rfl (fun h0 => ?_) (fun h0 => ?_)
 ·
  have hlt : m < l.length := by have := h0; simp at this; omega
  have hA : A ≠ none := hrow.2.2.2.2 (by omega) (by decide)
  have hb := (l[m]'hlt).toNat_lt
  have hnx := crc_next s l m hlt
  rw [cbyte] at hnx
  generalize hz : crcN s (l.take m) = z at *
  have hx8 : (z ^^^ (l[m]'hlt).toNat) < 65536 := xor_lt16 hx (by omega)
  refine GC_skip ?_
  refine GC_seq ?_
  refine GC_block ?_
  refine GC_seq ?_
  refine GC_region ?_
  refine GL_v rfl (rv_mv (v := .int .u16 _) vw) ?_
  refine GL_v rfl (rv_mv (v := .slice _ _ _) vw) ?_
  refine GL_v rfl (rv_mv (v := .int .i64 _) vw) ?_
  refine GL_v rfl (rv_ix (i := m) el22 vw vw (fun _ => rfl) (fun _ => by omega) (fun _ => hA)) ?_
  refine GL_v rfl (rv_ldE (v := b8 (l[m]'hlt)) Tryz.underlying5 rfl vw (fun _ => by rw [Nat.mul_one]; exact bytesV_at _)) ?_
  refine GL_v rfl (rv_cnv (r := ((l[m]'hlt).toNat : Int)) Tryz.underlying5 Tryz.underlying24 vw (fun _ => IntWalk.u16_in _ (by omega))) ?_
  refine GL_v rfl (rv_bit (r := .int .u16 ((z ^^^ (l[m]'hlt).toNat : Nat) : Int)) (.inr (.inr (.inl rfl))) vw vw (fun _ w => run_xor16 w z _ hx (by omega))) ?_
  refine GL_v rfl (rv_as (v := .int .u16 _) vw) ?_
  refine GL_nil ?_
  refine GC_seq ?_
  refine GC_region ?_
  refine GL_v rfl (rv_as (v := .int .i64 _) vw) ?_
  refine GL_nil ?_
  refine GC_block ?_
  refine GC_loop (fun (q : Nat) E S T => q ≤ 8 ∧ At E [(0, .int .u16 (cbits q (z ^^^ (l[m]'hlt).toNat) : Nat)), (1, .slice A n k), (5, .int .i64 m), (6, .int .i64 q)] ∧ S = [] ∧ T = [row 1 A n k (bytesV l)]) (fun q => 8 - q) 0 ⟨Nat.zero_le _, ⟨rfl, rfl, rfl, rfl, trivial⟩, rfl, rfl⟩ ?_
  rintro q E S T ⟨hq, hE, rfl, rfl⟩
  obtain ⟨E1, rfl⟩ := hE.ex
  have hy := cbits_lt q hx8
  have hsn := cbits_snoc q (z ^^^ (l[m]'hlt).toNat)
  generalize hu : cbits q (z ^^^ (l[m]'hlt).toNat) = u at *
  refine GC_seq ?_
  refine GC_seq ?_
  refine GC_region ?_
  refine GL_v rfl (rv_mv (v := .int .i64 _) vw) ?_
  refine GL_v rfl (rv_lss vw vw) ?_
  refine GL_nil ?_
  refine GC_cond rfl (fun h1 => ?_) (fun h1 => ?_)
  ·
   have hq8 : q < 8 := by have := h1; simp at this; omega
   refine GC_skip ?_
   refine GC_seq ?_
   refine GC_block ?_
   refine GC_seq ?_
   refine GC_region ?_
   refine GL_v rfl (rv_mv (v := .int .u16 _) vw) ?_
   refine GL_v rfl (rv_rem (r := ((u % 2 : Nat) : Int)) vw vw (fun _ => by decide) (fun _ => by rw [Int.tmod_eq_emod_of_nonneg (by omega)]; omega)) ?_
   refine GL_v rfl (rv_eql vw vw) ?_
   refine GL_v rfl (rv_as (v := .bool _) vw) ?_
   refine GL_nil ?_
   refine GC_seq ?_
   refine GC_region ?_
   refine GL_v rfl (rv_mv (v := .int .u16 _) vw) ?_
   refine GL_v rfl (rv_quo (r := ((u / 2 : Nat) : Int)) vw vw (fun _ => by decide) (fun _ => by rw [Int.tdiv_eq_ediv_of_nonneg (by omega), IntWalk.u16_in _ (by omega)]; omega)) ?_
   refine GL_v rfl (rv_as (v := .int .u16 _) vw) ?_
   refine GL_nil ?_
   refine GC_seq ?_
   refine GC_region ?_
   refine GL_v rfl (rv_mv (v := .bool _) vw) ?_
   refine GL_nil ?_
   refine GC_cond rfl (fun h2 => ?_) (fun h2 => ?_)
   ·
    have ho : u % 2 = 1 := by have := h2; simp at this; omega
    rw [cstep, if_pos ho] at hsn
    refine GC_region ?_
    refine GL_v rfl (rv_mv (v := .int .u16 _) vw) ?_
    refine GL_v rfl (rv_bit (r := .int .u16 ((u / 2 ^^^ 40961 : Nat) : Int)) (.inr (.inr (.inl rfl))) vw vw (fun _ w => run_xor16 w (u / 2) 40961 (by omega) (by decide))) ?_
    refine GL_v rfl (rv_as (v := .int .u16 _) vw) ?_
    refine GL_nil ?_
    rw [← hsn]
    refine GC_region ?_
    refine GL_v rfl (rv_mv (v := .int .i64 _) vw) ?_
    refine GL_v rfl (rv_add (r := ((q + 1 : Nat) : Int)) vw vw (fun _ => by rw [IntWalk.i64_in _ (by omega)]; omega)) ?_
    refine GL_v rfl (rv_as (v := .int .i64 _) vw) ?_
    refine GL_nil ?_
    exact ⟨q + 1, ⟨by omega, ⟨rfl, rfl, rfl, rfl, trivial⟩, rfl, rfl⟩, by omega⟩
   ·
    have ho : ¬ u % 2 = 1 := by have := h2; simp at this; omega
    rw [cstep, if_neg ho] at hsn
    rw [← hsn]
    refine GC_skip ?_
    refine GC_region ?_
    refine GL_v rfl (rv_mv (v := .int .i64 _) vw) ?_
    refine GL_v rfl (rv_add (r := ((q + 1 : Nat) : Int)) vw vw (fun _ => by rw [IntWalk.i64_in _ (by omega)]; omega)) ?_
    refine GL_v rfl (rv_as (v := .int .i64 _) vw) ?_
    refine GL_nil ?_
    exact ⟨q + 1, ⟨by omega, ⟨rfl, rfl, rfl, rfl, trivial⟩, rfl, rfl⟩, by omega⟩
  ·
   obtain rfl : q = 8 := by have := h1; simp at this; omega
   rw [← hu, ← hnx]
   refine GC_exit ?_
   refine GC_region ?_
   refine GL_v rfl (rv_mv (v := .int .i64 _) vw) ?_
   refine GL_v rfl (rv_add (r := ((m + 1 : Nat) : Int)) vw vw (fun _ => by rw [IntWalk.i64_in _ (by omega)]; omega)) ?_
   refine GL_v rfl (rv_as (v := .int .i64 _) vw) ?_
   refine GL_nil ?_
   exact ⟨m + 1, ⟨by omega, ⟨rfl, rfl, rfl, trivial⟩, rfl, rfl⟩, by omega⟩
 ·
  obtain rfl : m = n := by have := h0; simp at this; omega
  rw [List.take_of_length_le (by omega)]
  refine GC_exit ?_
  refine GC_seq ?_
  refine GC_region ?_
  refine GL_v rfl (rv_mv (v := .int .u16 _) vw) ?_
  refine GL_v rfl (rv_as (v := .int .u16 _) vw) ?_
  refine GL_nil ?_
  refine GC_ret ?_
  exact fin1 (.inr rfl) rfl rfl .nil .nil ⟨rfl, rfl, rfl⟩
end Go.Bus
