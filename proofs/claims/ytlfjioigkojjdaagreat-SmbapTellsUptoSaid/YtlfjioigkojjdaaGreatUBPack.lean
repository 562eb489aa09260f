/- Part of the proof: Pack. No condition. -/
import Derived.Test.YtlfjioigkojjdaaGreatUBPlainb
import Derived.Test.YtlfjioigkojjdaaGreatUBRefa
set_option linter.unusedVariables false
set_option linter.unusedSimpArgs false
set_option maxRecDepth 100000
set_option maxHeartbeats 4000000
namespace Go.Bus
open Go Go.Proofs
theorem octP_bound (l : List Bool) (j k : Nat) (h : k ≤ 8) : octP l j k < 256 ∧ 2 ^ k ≤ 256 := by
 have h1 := octP_lt l j k
 have h2 : 2 ^ k ≤ 2 ^ 8 := Nat.pow_le_pow_right (by decide) h
 exact ⟨by omega, by omega⟩
theorem rPack_ct (A : Option Addr) (n k : Nat) (l : List Bool) (hn : n ≤ 70368744177664) : Ct PG 174 [.slice A n k] [] [row 1 A n k (boolsV l)]
 (fun v S' T' => ∃ A' k', v = .slice A' (many n) k' ∧ S' = [own 5 1 A' (many n) k' (bytesV (packS l))] ∧ T' = []) := by
 refine Ct_of Tryz.func174 rfl 42 rfl (Nat.le_of_ble_eq_true rfl) fun w0 M N => ?_
 refine GC_row A fun hrow => ?_
 have hl : l.length = n := by have := hrow.1; simpa [boolsV] using this
 have hpl : (packS l).length = many n := by rw [packS_length, hl]
 have hmn : many n = (n + 7) / 8 := rfl
 refine GC_shift .nil (nil_own (t := 5) (sz := 1)) ?_
 refine GC_seq ?_
 refine GC_region ?_
 refine GL_v rfl (rv_as (v := .slice _ _ _) vw) ?_
 refine GL_nil ?_
 refine GC_seq ?_
 refine GC_region ?_
 refine GL_v rfl (rv_as (v := .slice _ _ _) vw) ?_
 refine GL_nil ?_
 refine GC_seq ?_
 refine GC_seq ?_
 refine GC_region ?_
 refine GL_v rfl (rv_as (v := .int .i64 _) vw) ?_
 refine GL_nil ?_
 refine GC_block ?_
 refine GC_loop (fun (j : Nat) E S T => j ≤ many n ∧ ∃ A' k', At E [(0, .slice A n k), (3, .slice A' j k'), (4, .int .i64 (8 * j : Nat))] ∧ S = [own 5 1 A' j k' (bytesV ((packS l).take j))] ∧ T = [row 1 A n k (boolsV l)]) (fun j => many n - j) 0 ⟨Nat.zero_le _, none, 0, ⟨rfl, rfl, rfl, trivial⟩, rfl, rfl⟩ ?_
 rintro j E S T ⟨hj, A', k', hE, rfl, rfl⟩
 obtain ⟨E0, rfl⟩ := hE.ex
 refine GC_seq ?_
 refine GC_seq ?_
 refine GC_region ?_
 refine GL_v rfl (rv_mv (v := .int .i64 _) vw) ?_
 refine GL_v rfl (rv_mv (v := .slice _ _ _) vw) ?_
 refine GL_v rfl (rv_len el26 vw) ?_
 refine GL_v rfl (rv_lss vw vw) ?_
 refine GL_nil ?_
 refine GC_cond rfl (fun h0 => ?_) (fun h0 => ?_)
 ·
  have hlt : 8 * j < n := by have := h0; simp at this; omega
  have hA : A ≠ none := hrow.2.2.2.2 (by omega) (by decide)
  refine GC_skip ?_
  refine GC_seq ?_
  refine GC_block ?_
  refine GC_seq ?_
  refine GC_region ?_
  refine GL_v rfl (rv_as (v := .int .i64 _) vw) ?_
  refine GL_nil ?_
  refine GC_seq ?_
  refine GC_region ?_
  refine GL_v rfl (rv_as (v := .int .i64 _) vw) ?_
  refine GL_nil ?_
  refine GC_seq ?_
  refine GC_seq ?_
  refine GC_region ?_
  refine GL_v rfl (rv_mv (v := .int .i64 _) vw) ?_
  refine GL_v rfl (rv_as (v := .int .i64 _) vw) ?_
  refine GL_nil ?_
  refine GC_block ?_
  refine GC_loop (fun (q : Nat) E S T => q ≤ 8 ∧ 8 * j + q ≤ n ∧ At E [(0, .slice A n k), (3, .slice A' j k'), (4, .int .i64 (8 * j : Nat)), (5, .int .i64 (octP l j q : Nat)), (6, .int .i64 (2 ^ q : Nat)), (7, .int .i64 (8 * j + q : Nat))] ∧ S = [own 5 1 A' j k' (bytesV ((packS l).take j))] ∧ T = [row 1 A n k (boolsV l)]) (fun q => 8 - q) 0 ⟨by omega, by omega, ⟨rfl, rfl, rfl, rfl, rfl, rfl, trivial⟩, rfl, rfl⟩ ?_
  rintro q E S T ⟨hq, hqn, hE, rfl, rfl⟩
  obtain ⟨E1, rfl⟩ := hE.ex
  have hb := octP_bound l j q hq
  refine GC_seq ?_
  refine GC_seq ?_
  refine GC_region ?_
  refine GL_v rfl (rv_mv (v := .int .i64 _) vw) ?_
  refine GL_v rfl (rv_mv (v := .slice _ _ _) vw) ?_
  refine GL_v rfl (rv_len el26 vw) ?_
  refine GL_v rfl (rv_lss vw vw) ?_
  refine GL_v rfl (rv_mv (v := .bool _) vw) ?_
  refine GL_g rfl rfl gvt (rv_mv (v := .int .i64 _) vw) ?_
  refine GL_g rfl rfl gvt (rv_mv (v := .int .i64 _) vw) ?_
  refine GL_g rfl rfl gvt (rv_add (r := ((8 * j + 8 : Nat) : Int)) vwg vw (fun _ => by rw [IntWalk.i64_in _ (by omega)]; omega)) ?_
  refine GL_g rfl rfl gvt (rv_lss vwg vwg) ?_
  refine GL_v rfl (rv_and vw vwg) ?_
  refine GL_nil ?_
  refine GC_cond rfl (fun h1 => ?_) (fun h1 => ?_)
  ·
   have hin : 8 * j + q < n ∧ q < 8 := by have := h1; simp at this; omega
   have hlt2 : 8 * j + q < l.length := by omega
   have hg : l.getD (8 * j + q) false = l[8 * j + q]'hlt2 := by rw [List.getD_eq_getElem?_getD, List.getElem?_eq_getElem hlt2]; rfl
   have hb2 := octP_bound l j (q + 1) (by omega)
   have hp2 : 2 ^ (q + 1) = 2 * 2 ^ q := by rw [Nat.pow_succ]; omega
   refine GC_skip ?_
   refine GC_seq ?_
   refine GC_block ?_
   refine GC_seq ?_
   refine GC_seq ?_
   refine GC_region ?_
   refine GL_v rfl (rv_mv (v := .slice _ _ _) vw) ?_
   refine GL_v rfl (rv_mv (v := .int .i64 _) vw) ?_
   refine GL_v rfl (rv_ix (i := 8 * j + q) el26 vw vw (fun _ => rfl) (fun _ => by omega) (fun _ => hA)) ?_
   refine GL_v rfl (rv_ldE (v := .bool (l[8 * j + q]'hlt2)) Tryz.underlying4 rfl vw (fun _ => by rw [Nat.mul_one]; simp [boolsV, hlt2])) ?_
   refine GL_nil ?_
   refine GC_cond rfl (fun h2 => ?_) (fun h2 => ?_)
   ·
    have he : octP l j (q + 1) = octP l j q + 2 ^ q := by
     have := h2
     show octP l j q + 2 ^ q * bitN (l.getD (8 * j + q) false) = _
     rw [hg, this]; simp [bitN]
    refine GC_region ?_
    refine GL_v rfl (rv_mv (v := .int .i64 _) vw) ?_
    refine GL_v rfl (rv_mv (v := .int .i64 _) vw) ?_
    refine GL_v rfl (rv_add (r := ((octP l j (q + 1) : Nat) : Int)) vw vw (fun _ => by rw [IntWalk.i64_in _ (by omega)]; omega)) ?_
    refine GL_v rfl (rv_as (v := .int .i64 _) vw) ?_
    refine GL_nil ?_
    refine GC_region ?_
    refine GL_v rfl (rv_mv (v := .int .i64 _) vw) ?_
    refine GL_v rfl (rv_mul (r := ((2 ^ (q + 1) : Nat) : Int)) vw vw (fun _ => by rw [IntWalk.i64_in _ (by omega)]; omega)) ?_
    refine GL_v rfl (rv_as (v := .int .i64 _) vw) ?_
    refine GL_nil ?_
    refine GC_region ?_
    refine GL_v rfl (rv_mv (v := .int .i64 _) vw) ?_
    refine GL_v rfl (rv_add (r := ((8 * j + (q + 1) : Nat) : Int)) vw vw (fun _ => by rw [IntWalk.i64_in _ (by omega)]; omega)) ?_
    refine GL_v rfl (rv_as (v := .int .i64 _) vw) ?_
    refine GL_nil ?_
    exact ⟨q + 1, ⟨by omega, by omega, ⟨rfl, rfl, rfl, rfl, rfl, rfl, trivial⟩, rfl, rfl⟩, by omega⟩
   ·
    have he : octP l j q = octP l j (q + 1) := by
     have := h2
     show _ = octP l j q + 2 ^ q * bitN (l.getD (8 * j + q) false)
     rw [hg, this]; simp [bitN]
    rw [he]
    refine GC_skip ?_
    refine GC_region ?_
    refine GL_v rfl (rv_mv (v := .int .i64 _) vw) ?_
    refine GL_v rfl (rv_mul (r := ((2 ^ (q + 1) : Nat) : Int)) vw vw (fun _ => by rw [IntWalk.i64_in _ (by omega)]; omega)) ?_
    refine GL_v rfl (rv_as (v := .int .i64 _) vw) ?_
    refine GL_nil ?_
    refine GC_region ?_
    refine GL_v rfl (rv_mv (v := .int .i64 _) vw) ?_
    refine GL_v rfl (rv_add (r := ((8 * j + (q + 1) : Nat) : Int)) vw vw (fun _ => by rw [IntWalk.i64_in _ (by omega)]; omega)) ?_
    refine GL_v rfl (rv_as (v := .int .i64 _) vw) ?_
    refine GL_nil ?_
    exact ⟨q + 1, ⟨by omega, by omega, ⟨rfl, rfl, rfl, rfl, rfl, rfl, trivial⟩, rfl, rfl⟩, by omega⟩
  ·
   have hout : n ≤ 8 * j + q ∨ q = 8 := by have := h1; simp at this; omega
   have ho : octP l j q = octet l j := octP_all l j q hq (by omega)
   have hj2 : j < many n := by omega
   rw [ho]
   have hol := octet_lt l j
   refine GC_exit ?_
   refine GC_region ?_
   refine GL_v rfl (rv_mv (v := .slice _ _ _) vw) ?_
   refine GL_v rfl (rv_mv (v := .int .i64 _) vw) ?_
   refine GL_v rfl (rv_cnv (r := ((UInt8.ofNat (octet l j)).toNat : Int)) Tryz.underlying3 Tryz.underlying5 vw (fun _ => wrap8 _)) ?_
   refine GL_bs (l := bytesV [UInt8.ofNat (octet l j)]) rfl el22 z5 rfl rfl rfl (fun b39 => ?_)
   refine GL_app (m := 1) rfl el22 rfl rfl pW rfl (bytesV_one _) (by omega) (by simp [maxLen]; omega) (fun A2 k2 => ?_)
   refine GL_drop (.cons .here .nil) ?_
   refine GL_v rfl (rv_as (v := .slice _ _ _) vw) ?_
   refine GL_nil ?_
   refine GC_region ?_
   refine GL_v rfl (rv_mv (v := .int .i64 _) vw) ?_
   refine GL_v rfl (rv_add (r := ((8 * (j + 1) : Nat) : Int)) vw vw (fun _ => by rw [IntWalk.i64_in _ (by omega)]; omega)) ?_
   refine GL_v rfl (rv_as (v := .int .i64 _) vw) ?_
   refine GL_nil ?_
   refine ⟨j + 1, ⟨by omega, A2, k2, ⟨rfl, rfl, rfl, trivial⟩, ?_, rfl⟩, by omega⟩
   rw [take_snoc _ j (by omega), bytesV_append]
   simp [packS]
 ·
  obtain rfl : j = many n := by have := h0; simp at this; omega
  rw [List.take_of_length_le (by omega)]
  refine GC_exit ?_
  refine GC_seq ?_
  refine GC_region ?_
  refine GL_v rfl (rv_mv (v := .slice _ _ _) vw) ?_
  refine GL_v rfl (rv_as (v := .slice _ _ _) vw) ?_
  refine GL_nil ?_
  refine GC_ret ?_
  exact fin1 (.inr rfl) rfl rfl pW sb ⟨A', k', rfl, rfl, rfl⟩
theorem bitsOf_succ (b : List UInt8) (i : Nat) : bitsOf b (i + 1) = bitsOf b i ++ [bitAt b i] := by simp [bitsOf, List.range_succ]
theorem rUnpack_ct (A : Option Addr) (n k : Nat) (b : List UInt8) (j : Int) (hj : j ≤ 1048576 ∧ -1048576 ≤ j) (hn : n ≤ 35184372088832) : Ct PG 116 [.slice A n k, .int .i64 j] [] [row 1 A n k (bytesV b)]
 (fun v S' T' => ∃ A' n' k', v = .tuple #[.slice A' n' k', .bool (unpackS b j).2] ∧ S' = [] ∧ T' = [row 1 A' n' k' (boolsV (unpackS b j).1)]) := by
 refine Ct_of Tryz.func116 rfl 51 rfl (Nat.le_of_ble_eq_true rfl) fun w0 M N => ?_
 refine GC_row A fun hrow => ?_
 have hl : b.length = n := by have := hrow.1; simpa [bytesV] using this
 refine GC_seq ?_
 refine GC_region ?_
 refine GL_v rfl (rv_as (v := .slice _ _ _) vw) ?_
 refine GL_v rfl (rv_as (v := .bool _) vw) ?_
 refine GL_nil ?_
 refine GC_seq ?_
 refine GC_seq ?_
 refine GC_region ?_
 refine GL_v rfl (rv_mv (v := .int .i64 _) vw) ?_
 refine GL_v rfl (rv_lss vw vw) ?_
 refine GL_v rfl (rv_mv (v := .bool _) vw) ?_
 refine GL_g rfl rfl gvf (rv_mv (v := .int .i64 _) vw) ?_
 refine GL_g rfl rfl gvf (rv_mv (v := .slice _ _ _) vw) ?_
 refine GL_g rfl rfl gvf (rv_len el22 vwg) ?_
 refine GL_g rfl rfl gvf (rv_mul (r := ((8 * n : Nat) : Int)) vw vwg (fun _ => by rw [IntWalk.i64_in _ (by omega)]; omega)) ?_
 refine GL_g rfl rfl gvf (rv_gtr vwg vwg) ?_
 refine GL_v rfl (rv_or vw vwg) ?_
 refine GL_nil ?_
 refine GC_cond rfl (fun h0 => ?_) (fun h0 => ?_)
 ·
  have hno : unpackS b j = ([], false) := by
   have := h0; simp at this
   unfold unpackS manyI
   rw [if_pos (by split <;> omega)]
  rw [hno]
  refine GC_seq ?_
  refine GC_region ?_
  refine GL_v rfl (rv_as (v := .slice _ _ _) vw) ?_
  refine GL_v rfl (rv_as (v := .bool _) vw) ?_
  refine GL_nil ?_
  refine GC_shift .nil (nil_row (sz := 1)) ?_
  refine GC_ret ?_
  exact fin2 (T' := [row 1 none 0 0 []]) (.inr rfl) rfl rfl rfl .nil sb ⟨none, 0, 0, rfl, rfl, rfl⟩
 ·
  have hj8 : 0 ≤ j ∧ j ≤ 8 * n := by have := h0; simp at this; omega
  obtain ⟨m, rfl⟩ : ∃ m : Nat, j = m := ⟨j.toNat, by omega⟩
  refine GC_shift .nil (nil_own (t := 4) (sz := 1)) ?_
  refine GC_skip ?_
  refine GC_seq ?_
  refine GC_region ?_
  refine GL_v rfl (rv_as (v := .slice _ _ _) vw) ?_
  refine GL_nil ?_
  refine GC_seq ?_
  refine GC_seq ?_
  refine GC_region ?_
  refine GL_v rfl (rv_as (v := .int .i64 _) vw) ?_
  refine GL_nil ?_
  refine GC_block ?_
  refine GC_loop (fun (i : Nat) E S T => i ≤ m ∧ ∃ A' k', At E [(0, .slice A n k), (1, .int .i64 m), (6, .slice A' i k'), (7, .int .i64 i)] ∧ S = [own 4 1 A' i k' (boolsV (bitsOf b i))] ∧ T = [row 1 A n k (bytesV b)]) (fun i => m - i) 0 ⟨Nat.zero_le _, none, 0, ⟨rfl, rfl, rfl, rfl, trivial⟩, rfl, rfl⟩ ?_
  rintro i E S T ⟨hi, A', k', hE, rfl, rfl⟩
  obtain ⟨E0, rfl⟩ := hE.ex
  refine GC_seq ?_
  refine GC_seq ?_
  refine GC_region ?_
  refine GL_v rfl (rv_mv (v := .int .i64 _) vw) ?_
  refine GL_v rfl (rv_mv (v := .int .i64 _) vw) ?_
  refine GL_v rfl (rv_lss vw vw) ?_
  refine GL_nil ?_
  refine GC_cond rfl (fun h1 => ?_) (fun h1 => ?_)
  ·
   have hlt : i < m := by have := h1; simp at this; omega
   have hi8 : i / 8 < b.length := by omega
   have hA : A ≠ none := hrow.2.2.2.2 (by omega) (by decide)
   have hx := (b[i / 8]'hi8).toNat_lt
   have hg : b.getD (i / 8) 0 = b[i / 8]'hi8 := by rw [List.getD_eq_getElem?_getD, List.getElem?_eq_getElem hi8]; rfl
   refine GC_skip ?_
   refine GC_seq ?_
   refine GC_block ?_
   refine GC_seq ?_
   refine GC_region ?_
   refine GL_v rfl (rv_mv (v := .slice _ _ _) vw) ?_
   refine GL_v rfl (rv_mv (v := .int .i64 _) vw) ?_
   refine GL_v rfl (rv_quo (r := ((i / 8 : Nat) : Int)) vw vw (fun _ => by decide) (fun _ => by rw [Int.tdiv_eq_ediv_of_nonneg (by omega), IntWalk.i64_in _ (by omega)]; omega)) ?_
   refine GL_v rfl (rv_ix (i := i / 8) el22 vw vw (fun _ => rfl) (fun _ => by omega) (fun _ => hA)) ?_
   refine GL_v rfl (rv_ldE (v := b8 (b[i / 8]'hi8)) Tryz.underlying5 rfl vw (fun _ => by rw [Nat.mul_one]; exact bytesV_at _)) ?_
   refine GL_v rfl (rv_cnv (r := (((b[i / 8]'hi8).toNat / 2 ^ 0 : Nat) : Int)) Tryz.underlying5 Tryz.underlying3 vw (fun _ => by rw [IntWalk.i64_in _ (by omega)]; simp)) ?_
   refine GL_v rfl (rv_as (v := .int .i64 _) vw) ?_
   refine GL_nil ?_
   refine GC_seq ?_
   refine GC_seq ?_
   refine GC_region ?_
   refine GL_v rfl (rv_as (v := .int .i64 _) vw) ?_
   refine GL_nil ?_
   refine GC_block ?_
   refine GC_loop (fun (q : Nat) E S T => q ≤ i % 8 ∧ At E [(0, .slice A n k), (1, .int .i64 m), (6, .slice A' i k'), (7, .int .i64 i), (8, .int .i64 ((b[i / 8]'hi8).toNat / 2 ^ q : Nat)), (9, .int .i64 q)] ∧ S = [own 4 1 A' i k' (boolsV (bitsOf b i))] ∧ T = [row 1 A n k (bytesV b)]) (fun q => 8 - q) 0 ⟨by omega, ⟨rfl, rfl, rfl, rfl, rfl, rfl, trivial⟩, rfl, rfl⟩ ?_
   rintro q E S T ⟨hq, hE, rfl, rfl⟩
   obtain ⟨E1, rfl⟩ := hE.ex
   have hle : (b[i / 8]'hi8).toNat / 2 ^ q ≤ (b[i / 8]'hi8).toNat := Nat.div_le_self _ _
   have hdd : (b[i / 8]'hi8).toNat / 2 ^ (q + 1) = (b[i / 8]'hi8).toNat / 2 ^ q / 2 := by rw [Nat.pow_succ, Nat.div_div_eq_div_mul]
   generalize hz : (b[i / 8]'hi8).toNat / 2 ^ q = z at *
   refine GC_seq ?_
   refine GC_seq ?_
   refine GC_region ?_
   refine GL_v rfl (rv_mv (v := .int .i64 _) vw) ?_
   refine GL_v rfl (rv_mv (v := .int .i64 _) vw) ?_
   refine GL_v rfl (rv_rem (r := ((i % 8 : Nat) : Int)) vw vw (fun _ => by decide) (fun _ => by rw [Int.tmod_eq_emod_of_nonneg (by omega)]; omega)) ?_
   refine GL_v rfl (rv_lss vw vw) ?_
   refine GL_nil ?_
   refine GC_cond rfl (fun h2 => ?_) (fun h2 => ?_)
   ·
    have hq8 : q < i % 8 := by have := h2; simp at this; omega
    refine GC_skip ?_
    refine GC_seq ?_
    refine GC_block ?_
    refine GC_region ?_
    refine GL_v rfl (rv_mv (v := .int .i64 _) vw) ?_
    refine GL_v rfl (rv_quo (r := (((b[i / 8]'hi8).toNat / 2 ^ (q + 1) : Nat) : Int)) vw vw (fun _ => by decide) (fun _ => by rw [Int.tdiv_eq_ediv_of_nonneg (by omega), IntWalk.i64_in _ (by omega), hdd]; omega)) ?_
    refine GL_v rfl (rv_as (v := .int .i64 _) vw) ?_
    refine GL_nil ?_
    refine GC_region ?_
    refine GL_v rfl (rv_mv (v := .int .i64 _) vw) ?_
    refine GL_v rfl (rv_add (r := ((q + 1 : Nat) : Int)) vw vw (fun _ => by rw [IntWalk.i64_in _ (by omega)]; omega)) ?_
    refine GL_v rfl (rv_as (v := .int .i64 _) vw) ?_
    refine GL_nil ?_
    exact ⟨q + 1, ⟨by omega, ⟨rfl, rfl, rfl, rfl, rfl, rfl, trivial⟩, rfl, rfl⟩, by omega⟩
   ·
    obtain rfl : q = i % 8 := by have := h2; simp at this; omega
    have hbit : decide (((z % 2 : Nat) : Int) = 1) = bitAt b i := by
     unfold bitAt; rw [hg, hz]; congr 1; apply propext; omega
    refine GC_exit ?_
    refine GC_region ?_
    refine GL_v rfl (rv_mv (v := .slice _ _ _) vw) ?_
    refine GL_v rfl (rv_mv (v := .int .i64 _) vw) ?_
    refine GL_v rfl (rv_rem (r := ((z % 2 : Nat) : Int)) vw vw (fun _ => by decide) (fun _ => by rw [Int.tmod_eq_emod_of_nonneg (by omega)]; omega)) ?_
    refine GL_v rfl (rv_eql vw vw) ?_
    rw [hbit]
    refine GL_bs (l := boolsV [bitAt b i]) rfl el26 z4 rfl rfl rfl (fun b42 => ?_)
    refine GL_app (m := 1) rfl el26 rfl rfl pW rfl (boolsV_one _) (by omega) (by simp [maxLen]; omega) (fun A2 k2 => ?_)
    refine GL_drop (.cons .here .nil) ?_
    refine GL_v rfl (rv_as (v := .slice _ _ _) vw) ?_
    refine GL_nil ?_
    refine GC_region ?_
    refine GL_v rfl (rv_mv (v := .int .i64 _) vw) ?_
    refine GL_v rfl (rv_add (r := ((i + 1 : Nat) : Int)) vw vw (fun _ => by rw [IntWalk.i64_in _ (by omega)]; omega)) ?_
    refine GL_v rfl (rv_as (v := .int .i64 _) vw) ?_
    refine GL_nil ?_
    refine ⟨i + 1, ⟨by omega, A2, k2, ⟨rfl, rfl, rfl, rfl, trivial⟩, ?_, rfl⟩, by omega⟩
    rw [bitsOf_succ]; simp [boolsV]
  ·
   obtain rfl : i = m := by have := h1; simp at this; omega
   have hu := unpack_ref b i (by omega)
   refine GC_shift (.cons .here .nil) own_toRow ?_
   refine GC_exit ?_
   refine GC_seq ?_
   refine GC_seq ?_
   refine GC_draw 6 ([row 1 A n k (bytesV b)]) mixed ?_
   refine GA_v (i := 0) rfl rfl rfl (by kernel_rfl) (rv_mv (v := .slice _ _ _) vw) ?_
   refine GA_v (i := 3) rfl rfl rfl (by kernel_rfl) (rv_mv (v := .slice _ _ _) vw) ?_
   refine GA_v (i := 4) rfl rfl rfl (by kernel_rfl) (rv_b2s (l := b) el22 Tryz.underlying5 Tryz.underlying9 vw) ?_
   refine GA_one 1 rfl rfl (by kernel_rfl) ?_
   refine GL_call rfl cb174 (rPack_ct A' i k' (bitsOf b i) (by omega)) rfl .nil sb ?_
   rintro _ _ _ ⟨Ap, kp, rfl, rfl, rfl⟩
   simp only [List.cons_append, List.nil_append]
   refine GL_nil ⟨inferInstance, ?_⟩
   refine GA_one 2 rfl rfl (by kernel_rfl) ?_
   refine GL_v rfl (rv_b2s (l := packS (bitsOf b i)) el22 Tryz.underlying5 Tryz.underlying9 vw) ?_
   refine GL_nil ⟨inferInstance, ?_⟩
   refine GA_v (i := 5) rfl rfl rfl (by kernel_rfl) (rv_neB vw vw) ?_
   refine GA_nil (by kernel_rfl) ?_
   refine GC_cond rfl (fun h3 => ?_) (fun h3 => ?_)
   ·
    have hne : ¬ packS (bitsOf b i) = b := by have := h3; simpa using this
    rw [if_neg hne] at hu
    rw [hu]
    refine GC_seq ?_
    refine GC_region ?_
    refine GL_v rfl (rv_as (v := .slice _ _ _) vw) ?_
    refine GL_v rfl (rv_as (v := .bool _) vw) ?_
    refine GL_nil ?_
    refine GC_shift .nil (nil_row (sz := 1)) ?_
    refine GC_ret ?_
    exact fin2 (T' := [row 1 none 0 0 []]) (.inr rfl) rfl rfl rfl .nil sb ⟨none, 0, 0, rfl, rfl, rfl⟩
   ·
    have heq : packS (bitsOf b i) = b := by have := h3; simpa using this
    rw [if_pos heq] at hu
    rw [hu]
    refine GC_skip ?_
    refine GC_seq ?_
    refine GC_region ?_
    refine GL_v rfl (rv_mv (v := .slice _ _ _) vw) ?_
    refine GL_v rfl (rv_as (v := .slice _ _ _) vw) ?_
    refine GL_v rfl (rv_as (v := .bool _) vw) ?_
    refine GL_nil ?_
    refine GC_ret ?_
    exact fin2 (T' := [row 1 A' i k' (boolsV (bitsOf b i))]) (.inr rfl) rfl rfl rfl .nil sb ⟨A', i, k', rfl, rfl, rfl⟩
end Go.Bus
