/- Part of the proof: Rtu. No condition. -/
import Derived.Test.YtlfjioigkojjdaaGreatUACrc
import Derived.Test.YtlfjioigkojjdaaGreatUALaw14
set_option linter.unusedVariables false
set_option linter.unusedSimpArgs false
set_option maxRecDepth 100000
set_option maxHeartbeats 8000000
namespace Go.Bus
open Go Go.Proofs
theorem CrcIs1_ct (A : Option Addr) (n k : Nat) (l : List UInt8) (hn : n ≤ 35184372088832) (h2 : 2 ≤ n) : CtD PG 81 [.slice A n k] [] [row 1 A n k (bytesV l)] (.bool (crcIs l)) [] [] := by
 refine Ct_of Tryz.func81 rfl 22 rfl (Nat.le_of_ble_eq_true rfl) fun w0 M N => ?_
 refine GC_row A fun hrow => ?_
 have hl : l.length = n := by have := hrow.1; simpa [bytesV] using this
 have hnk := hrow.2.1
 refine GC_shift .nil (row_take (h := n - 2) (by simp : row 1 A n k (bytesV l) ∈ _) (by omega) (by decide)) ?_
 refine GC_shift .nil (row_cut (l := n - 2) (h := n) (by simp : row 1 A n k (bytesV l) ∈ _) (by omega) (Nat.le_refl _) (by decide)) ?_
 have e1 : (bytesV l).take ((n - 2) * 1) = bytesV (l.take (n - 2)) := by simp [bytesV, List.map_take]
 have e2 : ((bytesV l).drop ((n - 2) * 1)).take ((n - (n - 2)) * 1) = bytesV (l.drop (n - 2)) := by
  simp [bytesV, List.map_drop, List.map_take]; rw [List.take_of_length_le (by simp; omega)]
 rw [e1, e2]
 refine GC_seq ?_
 refine GC_region ?_
 refine GL_v rfl (rv_as (v := .bool _) vw) ?_
 refine GL_nil ?_
 refine GC_seq ?_
 refine GC_region ?_
 refine GL_v rfl (rv_mv (v := .slice _ _ _) vw) ?_
 refine GL_v rfl (rv_len el22 vw) ?_
 refine GL_v rfl (rv_sub (r := (n : Int) - 2) vw vw (fun _ => IntWalk.i64_in _ (by omega))) ?_
 refine GL_v rfl (rv_as (v := .int .i64 _) vw) ?_
 refine GL_nil ?_
 refine GC_seq ?_
 refine GC_draw 16 ([row 1 (cut A k 1 (n - 2)) (n - (n - 2)) (k - (n - 2)) (bytesV (l.drop (n - 2)))]) mixed ?_
 refine GA_v (i := 0) rfl rfl rfl (by kernel_rfl) (rv_mv (v := .int .i64 _) vw) ?_
 refine GA_v (i := 1) rfl rfl rfl (by kernel_rfl) (rv_geq vw vw) ?_
 rw [show decide ((n : Int) - 2 ≥ 0) = true from decide_eq_true (by omega)]
 refine GA_v (i := 2) rfl rfl rfl (by kernel_rfl) (rv_mv (v := .bool _) vw) ?_
 refine GA_g (i := 3) rfl rfl rfl (by kernel_rfl) rfl gvt (rv_mv (v := .slice _ _ _) vw) ?_
 refine GA_g (i := 4) rfl rfl rfl (by kernel_rfl) rfl gvt (rv_mv (v := .int .i64 _) vw) ?_
 refine GA_g (i := 5) rfl rfl rfl (by kernel_rfl) rfl gvt (rv_slH (h := n - 2) el22 vwg vwg (fun _ => by omega) (fun _ => by omega)) ?_
 refine GA_g (i := 9) rfl rfl rfl (by kernel_rfl) rfl gvt (rv_mv (v := .slice _ _ _) vw) ?_
 refine GA_g (i := 10) rfl rfl rfl (by kernel_rfl) rfl gvt (rv_mv (v := .int .i64 _) vw) ?_
 refine GA_g (i := 11) rfl rfl rfl (by kernel_rfl) rfl gvt (rv_slL (l := n - 2) el22 vwg vwg (fun _ => by omega) (fun _ => by omega)) ?_
 refine GA_g (i := 12) rfl rfl rfl (by kernel_rfl) rfl gvt (rv_b2s (l := l.drop (n - 2)) el22 Tryz.underlying5 Tryz.underlying9 vwg) ?_
 refine GA_one 6 rfl rfl (by kernel_rfl) ?_
 refine GL_on rfl rfl ?_
 refine GL_callD rfl cb84 (CrcOf_ct A (n - 2) k (l.take (n - 2)) (by omega)) (by show [gd _ _] = _; rw [gd_true]) .nil sb ?_
 refine GL_nil ⟨inferInstance, ?_⟩
 refine GA_one 7 rfl rfl (by kernel_rfl) ?_
 refine GL_on rfl rfl ?_
 refine GL_call rfl cb83 (Two_ct (crcN 65535 (l.take (n - 2))) (crcN_lt _ (by decide))) rfl .nil .nil ?_
 rintro _ _ _ ⟨A2, n2, k2, rfl, rfl, rfl⟩
 simp only [List.cons_append, List.nil_append]
 refine GL_nil ⟨inferInstance, ?_⟩
 refine GA_one 8 rfl rfl (by kernel_rfl) ?_
 refine GL_on rfl rfl ?_
 refine GL_v rfl (rv_b2s (l := crc2 (l.take (n - 2))) el22 Tryz.underlying5 Tryz.underlying9 vw) ?_
 refine GL_nil ⟨inferInstance, ?_⟩
 refine GA_g (i := 13) rfl rfl rfl (by kernel_rfl) rfl gvt (rv_eqB (l := crc2 (l.take (n - 2))) (l' := l.drop (n - 2)) vw vwg) ?_
 refine GA_v (i := 14) rfl rfl rfl (by kernel_rfl) (rv_and vw vwg) ?_
 refine GA_v (i := 15) rfl rfl rfl (by kernel_rfl) (rv_as (v := .bool _) vw) ?_
 refine GA_nil (by kernel_rfl) ?_
 refine GC_ret ?_
 exact fin1 (.inr rfl) rfl rfl .nil .nil ⟨by unfold crcIs; rw [hl, decide_eq_true h2]; rfl, rfl, rfl⟩
theorem CrcIs0_ct (A : Option Addr) (n k : Nat) (l : List UInt8) (h2 : ¬ 2 ≤ n) : CtD PG 81 [.slice A n k] [] [row 1 A n k (bytesV l)] (.bool (crcIs l)) [] [] := by
 refine Ct_of Tryz.func81 rfl 22 rfl (Nat.le_of_ble_eq_true rfl) fun w0 M N => ?_
 refine GC_row A fun hrow => ?_
 have hl : l.length = n := by have := hrow.1; simpa [bytesV] using this
 refine GC_seq ?_
 refine GC_region ?_
 refine GL_v rfl (rv_as (v := .bool _) vw) ?_
 refine GL_nil ?_
 refine GC_seq ?_
 refine GC_region ?_
 refine GL_v rfl (rv_mv (v := .slice _ _ _) vw) ?_
 refine GL_v rfl (rv_len el22 vw) ?_
 refine GL_v rfl (rv_sub (r := (n : Int) - 2) vw vw (fun _ => IntWalk.i64_in _ (by omega))) ?_
 refine GL_v rfl (rv_as (v := .int .i64 _) vw) ?_
 refine GL_nil ?_
 refine GC_seq ?_
 refine GC_draw 16 ([row 1 A n k (bytesV l)]) mixed ?_
 refine GA_v (i := 0) rfl rfl rfl (by kernel_rfl) (rv_mv (v := .int .i64 _) vw) ?_
 refine GA_v (i := 1) rfl rfl rfl (by kernel_rfl) (rv_geq vw vw) ?_
 rw [show decide ((n : Int) - 2 ≥ 0) = false from decide_eq_false (by omega)]
 refine GA_v (i := 2) rfl rfl rfl (by kernel_rfl) (rv_mv (v := .bool _) vw) ?_
 refine GA_g (i := 3) rfl rfl rfl (by kernel_rfl) rfl gvt (rv_mv (v := .slice _ _ _) vw) ?_
 refine GA_g (i := 4) rfl rfl rfl (by kernel_rfl) rfl gvt (rv_mv (v := .int .i64 _) vw) ?_
 refine GA_g (i := 5) rfl rfl rfl (by kernel_rfl) rfl gvt (rv_slH (h := 0) el22 vwg vwg (fun q => by cases q) (fun q => by cases q)) ?_
 refine GA_g (i := 9) rfl rfl rfl (by kernel_rfl) rfl gvt (rv_mv (v := .slice _ _ _) vw) ?_
 refine GA_g (i := 10) rfl rfl rfl (by kernel_rfl) rfl gvt (rv_mv (v := .int .i64 _) vw) ?_
 refine GA_g (i := 11) rfl rfl rfl (by kernel_rfl) rfl gvt (rv_slL (l := 0) el22 vwg vwg (fun q => by cases q) (fun q => by cases q)) ?_
 refine GA_g (i := 12) rfl rfl rfl (by kernel_rfl) rfl gvt (show RV _ _ _ _ _ (.string ⟨#[]⟩) from fun q => by cases q) ?_
 refine GA_one 6 rfl rfl (by kernel_rfl) ?_
 refine GL_callG (args := []) (T1 := []) (v := .int .u16 0) rfl rfl gvt cb84 (fun q => by cases q) (fun q => by cases q) (fun q => by cases q) ?_
 refine GL_nil ⟨inferInstance, ?_⟩
 refine GA_one 7 rfl rfl (by kernel_rfl) ?_
 refine GL_callG (args := []) (T1 := []) (v := .slice none 0 0) rfl rfl gvt cb83 (fun q => by cases q) (fun q => by cases q) (fun q => by cases q) ?_
 refine GL_nil ⟨inferInstance, ?_⟩
 refine GA_one 8 rfl rfl (by kernel_rfl) ?_
 refine GL_g (v := .string ⟨#[]⟩) rfl rfl gvt (fun q => by cases q) ?_
 refine GL_nil ⟨inferInstance, ?_⟩
 refine GA_g (i := 13) rfl rfl rfl (by kernel_rfl) rfl gvt (show RV _ _ _ _ _ (.bool false) from fun q => by cases q) ?_
 refine GA_v (i := 14) rfl rfl rfl (by kernel_rfl) (rv_and vw vwg) ?_
 refine GA_v (i := 15) rfl rfl rfl (by kernel_rfl) (rv_as (v := .bool _) vw) ?_
 refine GA_nil (by kernel_rfl) ?_
 refine GC_ret ?_
 exact fin1 (.inr rfl) rfl rfl .nil .nil ⟨by unfold crcIs; rw [hl, decide_eq_false h2]; rfl, rfl, rfl⟩
theorem CrcIs_ct (A : Option Addr) (n k : Nat) (l : List UInt8) (hn : n ≤ 35184372088832) : CtD PG 81 [.slice A n k] [] [row 1 A n k (bytesV l)] (.bool (crcIs l)) [] [] := by
 by_cases h : 2 ≤ n
 · exact CrcIs1_ct A n k l hn h
 · exact CrcIs0_ct A n k l h
theorem rCrcIs_ct (A : Option Addr) (n k : Nat) (l : List UInt8) (hn : n ≤ 35184372088832) : CtD PG 82 [.slice A n k] [] [row 1 A n k (bytesV l)] (.bool (crcIs l)) [] [] := by
 refine Ct_of Tryz.func82 rfl 34 rfl (Nat.le_of_ble_eq_true rfl) fun w0 M N => ?_
 refine GC_row A fun hrow => ?_
 have hl : l.length = n := by have := hrow.1; simpa [bytesV] using this
 have hnk := hrow.2.1
 refine GC_seq ?_
 refine GC_region ?_
 refine GL_v rfl (rv_as (v := .bool _) vw) ?_
 refine GL_nil ?_
 refine GC_seq ?_
 refine GC_region ?_
 refine GL_v rfl (rv_mv (v := .slice _ _ _) vw) ?_
 refine GL_v rfl (rv_len el22 vw) ?_
 refine GL_v rfl (rv_as (v := .int .i64 _) vw) ?_
 refine GL_nil ?_
 refine GC_seq ?_
 refine GC_seq ?_
 refine GC_region ?_
 refine GL_v rfl (rv_mv (v := .int .i64 _) vw) ?_
 refine GL_v rfl (rv_lss vw vw) ?_
 refine GL_nil ?_
 refine GC_cond rfl (fun h0 => ?_) (fun h0 => ?_)
 ·
  have h2 : ¬ 2 ≤ n := by have := h0; simp at this; omega
  refine GC_seq ?_
  refine GC_region ?_
  refine GL_v rfl (rv_as (v := .bool _) vw) ?_
  refine GL_nil ?_
  refine GC_ret ?_
  exact fin1 (.inr rfl) rfl rfl .nil (T' := []) .nil ⟨by unfold crcIs; rw [hl, decide_eq_false h2]; rfl, rfl, rfl⟩
 ·
  have h2 : 2 ≤ n := by have := h0; simp at this; omega
  have hA : A ≠ none := hrow.2.2.2.2 (by omega) (by decide)
  have hx := crcN_lt (l.take (n - 2)) (s := 65535) (by decide)
  have hck : crcIs l = (decide ((l[n - 2]'(by omega)) = UInt8.ofNat (crcN 65535 (l.take (n - 2)))) && decide ((l[n - 1]'(by omega)) = UInt8.ofNat (crcN 65535 (l.take (n - 2)) / 256))) := crcIs_two l hl h2
  generalize hz : crcN 65535 (l.take (n - 2)) = z at *
  refine GC_shift .nil (row_take (h := n - 2) (by simp : row 1 A n k (bytesV l) ∈ _) (by omega) (by decide)) ?_
  have e1 : (bytesV l).take ((n - 2) * 1) = bytesV (l.take (n - 2)) := by simp [bytesV, List.map_take]
  rw [e1]
  refine GC_skip ?_
  refine GC_seq ?_
  refine GC_region ?_
  refine GL_v rfl (rv_mv (v := .slice _ _ _) vw) ?_
  refine GL_v rfl (rv_mv (v := .int .i64 _) vw) ?_
  refine GL_v rfl (rv_sub (r := (n : Int) - 2) vw vw (fun _ => IntWalk.i64_in _ (by omega))) ?_
  refine GL_v rfl (rv_slH (h := n - 2) el22 vw vw (fun _ => by omega) (fun _ => by omega)) ?_
  refine GL_callD rfl cb139 (rThen_ct 65535 (by decide) A (n - 2) k (l.take (n - 2)) (by omega)) rfl .nil sb ?_
  rw [hz]
  refine GL_dropT (T' := [row 1 A n k (bytesV l)]) sb ?_
  refine GL_v rfl (rv_as (v := .int .u16 _) vw) ?_
  refine GL_nil ?_
  refine GC_seq ?_
  refine GC_region ?_
  refine GL_v rfl (rv_mv (v := .slice _ _ _) vw) ?_
  refine GL_v rfl (rv_mv (v := .int .i64 _) vw) ?_
  refine GL_v rfl (rv_sub (r := (n : Int) - 2) vw vw (fun _ => IntWalk.i64_in _ (by omega))) ?_
  refine GL_v rfl (rv_ix (i := n - 2) el22 vw vw (fun _ => by omega) (fun _ => by omega) (fun _ => hA)) ?_
  refine GL_v rfl (rv_ldE (v := b8 (l[n - 2]'(by omega))) Tryz.underlying5 rfl vw (fun _ => by rw [Nat.mul_one]; exact bytesV_at _)) ?_
  refine GL_v rfl (rv_mv (v := .int .u16 _) vw) ?_
  refine GL_v rfl (rv_rem (r := ((z % 256 : Nat) : Int)) vw vw (fun _ => by decide) (fun _ => by rw [Int.tmod_eq_emod_of_nonneg (by omega)]; omega)) ?_
  refine GL_v rfl (rv_cnv (r := ((UInt8.ofNat z).toNat : Int)) Tryz.underlying24 Tryz.underlying5 vw (fun _ => by rw [UInt8.toNat_ofNat', IntWalk.u8_in _ (by omega)])) ?_
  refine GL_v rfl (rv_eql vw vw) ?_
  refine GL_v rfl (rv_mv (v := .bool _) vw) ?_
  refine GL_g rfl rfl gvt (rv_mv (v := .slice _ _ _) vw) ?_
  refine GL_g rfl rfl gvt (rv_mv (v := .int .i64 _) vw) ?_
  refine GL_g rfl rfl gvt (rv_sub (r := (n : Int) - 1) vwg vw (fun _ => IntWalk.i64_in _ (by omega))) ?_
  refine GL_g rfl rfl gvt (rv_ix (i := n - 1) el22 vwg vwg (fun _ => by omega) (fun _ => by omega) (fun _ => hA)) ?_
  refine GL_g rfl rfl gvt (rv_ldE (v := b8 (l[n - 1]'(by omega))) Tryz.underlying5 rfl vwg (fun _ => by rw [Nat.mul_one]; exact bytesV_at _)) ?_
  refine GL_g rfl rfl gvt (rv_mv (v := .int .u16 _) vw) ?_
  refine GL_g rfl rfl gvt (rv_quo (r := ((z / 256 : Nat) : Int)) vwg vw (fun _ => by decide) (fun _ => by rw [Int.tdiv_eq_ediv_of_nonneg (by omega), IntWalk.u16_in _ (by omega)]; omega)) ?_
  refine GL_g rfl rfl gvt (rv_cnv (r := ((UInt8.ofNat (z / 256)).toNat : Int)) Tryz.underlying24 Tryz.underlying5 vwg (fun _ => by rw [UInt8.toNat_ofNat', IntWalk.u8_in _ (by omega)]; omega)) ?_
  refine GL_g rfl rfl gvt (rv_eql vwg vwg) ?_
  refine GL_v rfl (rv_and vw vwg) ?_
  refine GL_v rfl (rv_as (v := .bool _) vw) ?_
  refine GL_nil ?_
  refine GC_ret ?_
  exact fin1 (v := .bool (decide (((l[n - 2]'(by omega)).toNat : Int) = ((UInt8.ofNat z).toNat : Int)) && decide (((l[n - 1]'(by omega)).toNat : Int) = ((UInt8.ofNat (z / 256)).toNat : Int)))) (.inr rfl) rfl rfl .nil (T' := []) .nil ⟨by rw [hck]; simp only [Int.ofNat_inj, UInt8.toNat_inj], rfl, rfl⟩
theorem P15_ct (dir : Int) (A : Option Addr) (n k : Nat) (l : List UInt8) (hn : n ≤ 35184372088832) : Ct PG 41 [.int .i64 dir, .slice A n k] [] [row 1 A n k (bytesV l)] (FrameOut (P15 dir l)) := by
 refine Ct_of Tryz.func41 rfl 51 rfl (Nat.le_of_ble_eq_true rfl) fun w0 M N => ?_
 refine GC_row A fun hrow => ?_
 have hl : l.length = n := by have := hrow.1; simpa [bytesV] using this
 obtain ⟨pp, hpp⟩ : ∃ pp, P15 dir l = pp := ⟨_, rfl⟩
 rw [hpp]
 unfold P15 at hpp
 refine GC_seq ?_
 refine GC_region ?_
 refine GL_alloc rfl z44 (fun b4 => ?_)
 refine GL_v rfl (rv_as (v := .int .i64 _) vw) ?_
 refine GL_nil ?_
 refine GC_seq ?_
 refine GC_block ?_
 refine GC_seq ?_
 refine GC_region ?_
 refine GL_v rfl (rv_mv (v := .int .i64 _) vw) ?_
 refine GL_v rfl (rv_neq vw vw) ?_
 refine GL_v rfl (rv_mv (v := .bool _) vw) ?_
 refine GL_g rfl rfl gvt (rv_mv (v := .int .i64 _) vw) ?_
 refine GL_g rfl rfl gvt (rv_neq vwg vw) ?_
 refine GL_v rfl (rv_and vw vwg) ?_
 refine GL_v rfl (rv_as (v := .bool _) vw) ?_
 refine GL_nil ?_
 refine GC_cond rfl (fun h0 => ?_) (fun h0 => ?_)
 ·
  have hd : dir ≠ 0 ∧ dir ≠ 1 := by have := h0; simpa using this
  rw [if_pos hd] at hpp
  obtain rfl := hpp
  refine GC_seq ?_
  refine GC_region ?_
  refine GL_v rfl (rv_bld (z' := [.int .u8 0, .int .u16 0, .int .u8 0, .int .u8 0, .int .u16 0, .int .u16 0, .int .u16 0, .int .u16 0, .int .u16 0, .int .u16 0, .int .u16 0, .int .u16 0, .int .u16 0, .int .u16 0, .slice none 0 0, .slice none 0 0, .slice none 0 0, .slice none 0 0, .int .u8 0, .int .u8 0, .int .u8 0, .int .u8 0, .int .u8 0, .slice none 0 0]) z44 l44 (fun _ => rfl)) ?_
  refine GL_stA rfl rfl c44 (by simp [Value.oneCell']) (by rfl) ?_
  refine GL_v rfl (rv_as (v := .int .i64 _) vw) ?_
  refine GL_nil ?_
  refine GC_shift .nil (msg0 {}) ?_
  refine GC_ret ?_
  exact finA (T' := [msgR { m := {} }]) (.inr rfl) rfl rfl rfl inferInstance a44 rfl .nil sb ⟨0, 0, { m := {} }, rfl, rfl, rfl, rfl⟩
 ·
  have hd : ¬ (dir ≠ 0 ∧ dir ≠ 1) := by have := h0; simpa using this
  rw [if_neg hd] at hpp
  refine GC_seq ?_
  refine GC_region ?_
  refine GL_v rfl (rv_mv (v := .slice _ _ _) vw) ?_
  refine GL_v rfl (rv_len el22 vw) ?_
  refine GL_v rfl (rv_lss vw vw) ?_
  refine GL_v rfl (rv_as (v := .bool _) vw) ?_
  refine GL_nil ?_
  refine GC_cond rfl (fun h1 => ?_) (fun h1 => ?_)
  ·
   have g : l.length < 4 := by have := h1; simp at this; omega
   rw [if_pos g] at hpp
   obtain rfl := hpp
   refine GC_seq ?_
   refine GC_region ?_
   refine GL_v rfl (rv_bld (z' := [.int .u8 0, .int .u16 0, .int .u8 0, .int .u8 0, .int .u16 0, .int .u16 0, .int .u16 0, .int .u16 0, .int .u16 0, .int .u16 0, .int .u16 0, .int .u16 0, .int .u16 0, .int .u16 0, .slice none 0 0, .slice none 0 0, .slice none 0 0, .slice none 0 0, .int .u8 0, .int .u8 0, .int .u8 0, .int .u8 0, .int .u8 0, .slice none 0 0]) z44 l44 (fun _ => rfl)) ?_
   refine GL_stA rfl rfl c44 (by simp [Value.oneCell']) (by rfl) ?_
   refine GL_v rfl (rv_as (v := .int .i64 _) vw) ?_
   refine GL_nil ?_
   refine GC_shift .nil (msg0 {}) ?_
   refine GC_ret ?_
   exact finA (T' := [msgR { m := {} }]) (.inr rfl) rfl rfl rfl inferInstance a44 rfl .nil sb ⟨0, 0, { m := {} }, rfl, rfl, rfl, rfl⟩
  ·
   have g : ¬ l.length < 4 := by have := h1; simp at this; omega
   rw [if_neg g] at hpp
   refine GC_seq ?_
   refine GC_region ?_
   refine GL_v rfl (rv_mv (v := .slice _ _ _) vw) ?_
   refine GL_v rfl (rv_len el22 vw) ?_
   refine GL_v rfl (rv_gtr vw vw) ?_
   refine GL_v rfl (rv_as (v := .bool _) vw) ?_
   refine GL_nil ?_
   refine GC_cond rfl (fun h2 => ?_) (fun h2 => ?_)
   ·
    have g2 : 256 < l.length := by have := h2; simp at this; omega
    rw [if_pos g2] at hpp
    obtain rfl := hpp
    refine GC_seq ?_
    refine GC_region ?_
    refine GL_v rfl (rv_bld (z' := [.int .u8 0, .int .u16 0, .int .u8 0, .int .u8 0, .int .u16 0, .int .u16 0, .int .u16 0, .int .u16 0, .int .u16 0, .int .u16 0, .int .u16 0, .int .u16 0, .int .u16 0, .int .u16 0, .slice none 0 0, .slice none 0 0, .slice none 0 0, .slice none 0 0, .int .u8 0, .int .u8 0, .int .u8 0, .int .u8 0, .int .u8 0, .slice none 0 0]) z44 l44 (fun _ => rfl)) ?_
    refine GL_stA rfl rfl c44 (by simp [Value.oneCell']) (by rfl) ?_
    refine GL_v rfl (rv_as (v := .int .i64 _) vw) ?_
    refine GL_nil ?_
    refine GC_shift .nil (msg0 {}) ?_
    refine GC_ret ?_
    exact finA (T' := [msgR { m := {} }]) (.inr rfl) rfl rfl rfl inferInstance a44 rfl .nil sb ⟨0, 0, { m := {} }, rfl, rfl, rfl, rfl⟩
   ·
    have g2 : ¬ 256 < l.length := by have := h2; simp at this; omega
    rw [if_neg g2] at hpp
    have hA : A ≠ none := hrow.2.2.2.2 (by omega) (by decide)
    have hnk := hrow.2.1
    refine GC_shift .nil (row_cut (l := 1) (h := n - 2) (by simp : row 1 A n k (bytesV l) ∈ _) (by omega) (by omega) (by decide)) ?_
    have e2 : ((bytesV l).drop (1 * 1)).take ((n - 2 - 1) * 1) = bytesV ((l.drop 1).take (l.length - 2 - 1)) := by simp [bytesV, List.map_drop, List.map_take, hl]
    rw [e2]
    have h0 : l.getD 0 0 = l[0]'(by omega) := by rw [List.getD_eq_getElem?_getD, List.getElem?_eq_getElem (by omega)]; rfl
    have z0 := (l[0]'(by omega)).toNat_lt
    rw [h0] at hpp
    refine GC_seq ?_
    refine GC_region ?_
    refine GL_v rfl (rv_mv (v := .slice _ _ _) vw) ?_
    refine GL_callD rfl cb81 (CrcIs_ct A n k l hn) rfl .nil sb ?_
    refine GL_v rfl (rv_not vw) ?_
    refine GL_v rfl (rv_as (v := .bool _) vw) ?_
    refine GL_nil ?_
    refine GC_cond rfl (fun h3 => ?_) (fun h3 => ?_)
    ·
     have g3 : crcIs l = false := by have := h3; simpa using this
     rw [if_pos g3] at hpp
     obtain rfl := hpp
     refine GC_seq ?_
     refine GC_region ?_
     refine GL_v rfl (rv_bld (z' := [.int .u8 0, .int .u16 0, .int .u8 0, .int .u8 0, .int .u16 0, .int .u16 0, .int .u16 0, .int .u16 0, .int .u16 0, .int .u16 0, .int .u16 0, .int .u16 0, .int .u16 0, .int .u16 0, .slice none 0 0, .slice none 0 0, .slice none 0 0, .slice none 0 0, .int .u8 0, .int .u8 0, .int .u8 0, .int .u8 0, .int .u8 0, .slice none 0 0]) z44 l44 (fun _ => rfl)) ?_
     refine GL_stA rfl rfl c44 (by simp [Value.oneCell']) (by rfl) ?_
     refine GL_v rfl (rv_as (v := .int .i64 _) vw) ?_
     refine GL_nil ?_
     refine GC_shift .nil (msg0 {}) ?_
     refine GC_ret ?_
     exact finA (T' := [msgR { m := {} }]) (.inr rfl) rfl rfl rfl inferInstance a44 rfl .nil sb ⟨0, 0, { m := {} }, rfl, rfl, rfl, rfl⟩
    ·
     have g3 : ¬ crcIs l = false := by have := h3; simpa using this
     rw [if_neg g3] at hpp
     refine GC_skip ?_
     refine GC_seq ?_
     refine GC_region ?_
     refine GL_v rfl (rv_mv (v := .int .i64 _) vw) ?_
     refine GL_v rfl (rv_mv (v := .slice _ _ _) vw) ?_
     refine GL_v rfl (rv_mv (v := .slice _ _ _) vw) ?_
     refine GL_v rfl (rv_len el22 vw) ?_
     refine GL_v rfl (rv_sub (r := (n : Int) - 2) vw vw (fun _ => IntWalk.i64_in _ (by omega))) ?_
     refine GL_v rfl (rv_slB (l := 1) (h := n - 2) el22 vw vw vw (fun _ => rfl) (fun _ => by omega) (fun _ => by omega)) ?_
     refine GL_call rfl cb15 (P14_ct dir (cut A k 1 1) (n - 2 - 1) (k - 1) ((l.drop 1).take (l.length - 2 - 1)) (by omega)) rfl .nil sR ?_
     rintro _ _ _ ⟨x, rfl, hx, rfl, rfl⟩
     simp only [List.cons_append, List.nil_append]
     obtain ⟨m, e, hP⟩ : ∃ m e, P14 dir ((l.drop 1).take (l.length - 2 - 1)) = (m, e) := ⟨_, _, rfl⟩
     rw [hP] at hx hpp ⊢
     simp only at hx ⊢
     refine GL_v rfl (rv_mv (v := .tuple [.agg x.cells.toArray, .int .i64 e].toArray) vw) ?_
     refine GL_v rfl (rv_ext vw rfl) ?_
     refine GL_v rfl (rv_ext vw rfl) ?_
     refine GL_alloc rfl z30 (fun b6 => ?_)
     refine GL_stA (l' := x.cells) rfl rfl c30 (MsgX.cells_one _) (by rfl) ?_
     refine GL_v rfl (rv_as (v := .int .i64 _) vw) ?_
     refine GL_nil ?_
     refine GC_seq ?_
     refine GC_seq ?_
     refine GC_region ?_
     refine GL_v rfl (rv_mv (v := .int .i64 _) vw) ?_
     refine GL_v rfl (rv_neq vw vw) ?_
     refine GL_nil ?_
     refine GC_cond rfl (fun h4 => ?_) (fun h4 => ?_)
     ·
      have he : e ≠ 0 := by have := h4; simpa using this
      rw [framed_err he] at hpp
      obtain rfl := hpp
      refine GC_seq ?_
      refine GC_region ?_
      refine GL_v rfl (rv_bld (z' := [.int .u8 0, .int .u16 0, .int .u8 0, .int .u8 0, .int .u16 0, .int .u16 0, .int .u16 0, .int .u16 0, .int .u16 0, .int .u16 0, .int .u16 0, .int .u16 0, .int .u16 0, .int .u16 0, .slice none 0 0, .slice none 0 0, .slice none 0 0, .slice none 0 0, .int .u8 0, .int .u8 0, .int .u8 0, .int .u8 0, .int .u8 0, .slice none 0 0]) z44 l44 (fun _ => rfl)) ?_
      refine GL_v rfl (rv_mv (v := .int .i64 _) vw) ?_
      refine GL_stA rfl rfl c44 (by simp [Value.oneCell']) (by rfl) ?_
      refine GL_v rfl (rv_as (v := .int .i64 _) vw) ?_
      refine GL_nil ?_
      refine GC_shift .nil (msg0 {}) ?_
      refine GC_ret ?_
      exact finA (T' := [msgR { m := {} }]) (.inr rfl) rfl rfl rfl inferInstance a44 rfl .nil sb ⟨0, 0, { m := {} }, rfl, rfl, rfl, rfl⟩
     ·
      have he : e = 0 := by have := h4; simpa using this
      rw [framed_ok he] at hpp
      obtain rfl := hpp
      refine GC_dropT (T' := [row 1 A n k (bytesV l), msgR x]) sb ?_
      refine GC_skip ?_
      refine GC_seq ?_
      refine GC_draw 8 ([row 1 A n k (bytesV l), blk b6 x.cells 30]) mixed ?_
      refine GA_v (i := 0) rfl rfl rfl (by kernel_rfl) (rv_mv (v := .slice _ _ _) vw) ?_
      refine GA_v (i := 1) rfl rfl rfl (by kernel_rfl) (rv_ix (i := 0) el22 vw vw (fun _ => rfl) (fun _ => by omega) (fun _ => hA)) ?_
      refine GA_v (i := 2) rfl rfl rfl (by kernel_rfl) (rv_ldE (v := b8 (l[0]'(by omega))) Tryz.underlying5 rfl vw (fun _ => bytesV_at _)) ?_
      refine GA_v (i := 3) rfl rfl rfl (by kernel_rfl) (rv_bld (z' := [b8 (l[0]'(by omega)), w16 0]) z42 l42 (fun _ => rfl)) ?_
      refine GA_v (i := 4) rfl rfl rfl (by kernel_rfl) (rv_ldA (l := x.cells) a30 vw rfl) ?_
      refine GA_v (i := 5) rfl rfl rfl (by kernel_rfl) (rv_bld (z' := frCells (l[0]'(by omega)) 0 x) z44 l44 (fun _ => frame_fill rfl rfl rfl)) ?_
      refine GA_one 6 rfl rfl (by kernel_rfl) ?_
      refine GL_stA (l' := frCells (l[0]'(by omega)) 0 x) rfl rfl c44 (frCells_one _ _ _) (by rfl) ?_
      refine GL_nil ⟨inferInstance, ?_⟩
      refine GA_v (i := 7) rfl rfl rfl (by kernel_rfl) (rv_as (v := .int .i64 _) vw) ?_
      refine GA_nil (by kernel_rfl) ?_
      refine GC_ret ?_
      exact finA (T' := [msgR x]) (.inr rfl) rfl rfl rfl inferInstance a44 rfl .nil sb ⟨_, _, x, rfl, by rw [hx], rfl, rfl⟩
theorem rP15_ct (dir : Int) (A : Option Addr) (n k : Nat) (l : List UInt8) (hn : n ≤ 35184372088832) : Ct PG 42 [.int .i64 dir, .slice A n k] [] [row 1 A n k (bytesV l)] (FrameOut (P15 dir l)) := by
 refine Ct_of Tryz.func42 rfl 49 rfl (Nat.le_of_ble_eq_true rfl) fun w0 M N => ?_
 refine GC_row A fun hrow => ?_
 have hl : l.length = n := by have := hrow.1; simpa [bytesV] using this
 obtain ⟨pp, hpp⟩ : ∃ pp, P15 dir l = pp := ⟨_, rfl⟩
 rw [hpp]
 unfold P15 at hpp
 refine GC_seq ?_
 refine GC_region ?_
 refine GL_alloc rfl z44 (fun b4 => ?_)
 refine GL_v rfl (rv_as (v := .int .i64 _) vw) ?_
 refine GL_nil ?_
 refine GC_seq ?_
 refine GC_region ?_
 refine GL_v rfl (rv_mv (v := .slice _ _ _) vw) ?_
 refine GL_v rfl (rv_len el22 vw) ?_
 refine GL_v rfl (rv_as (v := .int .i64 _) vw) ?_
 refine GL_nil ?_
 refine GC_seq ?_
 refine GC_seq ?_
 refine GC_region ?_
 refine GL_v rfl (rv_mv (v := .int .i64 _) vw) ?_
 refine GL_v rfl (rv_neq vw vw) ?_
 refine GL_v rfl (rv_mv (v := .bool _) vw) ?_
 refine GL_g rfl rfl gvt (rv_mv (v := .int .i64 _) vw) ?_
 refine GL_g rfl rfl gvt (rv_neq vwg vw) ?_
 refine GL_v rfl (rv_and vw vwg) ?_
 refine GL_nil ?_
 refine GC_cond rfl (fun h0 => ?_) (fun h0 => ?_)
 ·
  have hd : dir ≠ 0 ∧ dir ≠ 1 := by have := h0; simpa using this
  rw [if_pos hd] at hpp
  obtain rfl := hpp
  refine GC_seq ?_
  refine GC_region ?_
  refine GL_v rfl (rv_bld (z' := [.int .u8 0, .int .u16 0, .int .u8 0, .int .u8 0, .int .u16 0, .int .u16 0, .int .u16 0, .int .u16 0, .int .u16 0, .int .u16 0, .int .u16 0, .int .u16 0, .int .u16 0, .int .u16 0, .slice none 0 0, .slice none 0 0, .slice none 0 0, .slice none 0 0, .int .u8 0, .int .u8 0, .int .u8 0, .int .u8 0, .int .u8 0, .slice none 0 0]) z44 l44 (fun _ => rfl)) ?_
  refine GL_stA rfl rfl c44 (by simp [Value.oneCell']) (by rfl) ?_
  refine GL_v rfl (rv_as (v := .int .i64 _) vw) ?_
  refine GL_nil ?_
  refine GC_shift .nil (msg0 {}) ?_
  refine GC_ret ?_
  exact finA (T' := [msgR { m := {} }]) (.inr rfl) rfl rfl rfl inferInstance a44 rfl .nil sb ⟨0, 0, { m := {} }, rfl, rfl, rfl, rfl⟩
 ·
  have hd : ¬ (dir ≠ 0 ∧ dir ≠ 1) := by have := h0; simpa using this
  rw [if_neg hd] at hpp
  refine GC_skip ?_
  refine GC_seq ?_
  refine GC_seq ?_
  refine GC_region ?_
  refine GL_v rfl (rv_mv (v := .int .i64 _) vw) ?_
  refine GL_v rfl (rv_lss vw vw) ?_
  refine GL_nil ?_
  refine GC_cond rfl (fun h1 => ?_) (fun h1 => ?_)
  ·
   have g : l.length < 4 := by have := h1; simp at this; omega
   rw [if_pos g] at hpp
   obtain rfl := hpp
   refine GC_seq ?_
   refine GC_region ?_
   refine GL_v rfl (rv_bld (z' := [.int .u8 0, .int .u16 0, .int .u8 0, .int .u8 0, .int .u16 0, .int .u16 0, .int .u16 0, .int .u16 0, .int .u16 0, .int .u16 0, .int .u16 0, .int .u16 0, .int .u16 0, .int .u16 0, .slice none 0 0, .slice none 0 0, .slice none 0 0, .slice none 0 0, .int .u8 0, .int .u8 0, .int .u8 0, .int .u8 0, .int .u8 0, .slice none 0 0]) z44 l44 (fun _ => rfl)) ?_
   refine GL_stA rfl rfl c44 (by simp [Value.oneCell']) (by rfl) ?_
   refine GL_v rfl (rv_as (v := .int .i64 _) vw) ?_
   refine GL_nil ?_
   refine GC_shift .nil (msg0 {}) ?_
   refine GC_ret ?_
   exact finA (T' := [msgR { m := {} }]) (.inr rfl) rfl rfl rfl inferInstance a44 rfl .nil sb ⟨0, 0, { m := {} }, rfl, rfl, rfl, rfl⟩
  ·
   have g : ¬ l.length < 4 := by have := h1; simp at this; omega
   rw [if_neg g] at hpp
   refine GC_skip ?_
   refine GC_seq ?_
   refine GC_seq ?_
   refine GC_region ?_
   refine GL_v rfl (rv_mv (v := .int .i64 _) vw) ?_
   refine GL_v rfl (rv_gtr vw vw) ?_
   refine GL_nil ?_
   refine GC_cond rfl (fun h2 => ?_) (fun h2 => ?_)
   ·
    have g2 : 256 < l.length := by have := h2; simp at this; omega
    rw [if_pos g2] at hpp
    obtain rfl := hpp
    refine GC_seq ?_
    refine GC_region ?_
    refine GL_v rfl (rv_bld (z' := [.int .u8 0, .int .u16 0, .int .u8 0, .int .u8 0, .int .u16 0, .int .u16 0, .int .u16 0, .int .u16 0, .int .u16 0, .int .u16 0, .int .u16 0, .int .u16 0, .int .u16 0, .int .u16 0, .slice none 0 0, .slice none 0 0, .slice none 0 0, .slice none 0 0, .int .u8 0, .int .u8 0, .int .u8 0, .int .u8 0, .int .u8 0, .slice none 0 0]) z44 l44 (fun _ => rfl)) ?_
    refine GL_stA rfl rfl c44 (by simp [Value.oneCell']) (by rfl) ?_
    refine GL_v rfl (rv_as (v := .int .i64 _) vw) ?_
    refine GL_nil ?_
    refine GC_shift .nil (msg0 {}) ?_
    refine GC_ret ?_
    exact finA (T' := [msgR { m := {} }]) (.inr rfl) rfl rfl rfl inferInstance a44 rfl .nil sb ⟨0, 0, { m := {} }, rfl, rfl, rfl, rfl⟩
   ·
    have g2 : ¬ 256 < l.length := by have := h2; simp at this; omega
    rw [if_neg g2] at hpp
    have hA : A ≠ none := hrow.2.2.2.2 (by omega) (by decide)
    have hnk := hrow.2.1
    refine GC_shift .nil (row_cut (l := 1) (h := n - 2) (by simp : row 1 A n k (bytesV l) ∈ _) (by omega) (by omega) (by decide)) ?_
    have e2 : ((bytesV l).drop (1 * 1)).take ((n - 2 - 1) * 1) = bytesV ((l.drop 1).take (l.length - 2 - 1)) := by simp [bytesV, List.map_drop, List.map_take, hl]
    rw [e2]
    have h0 : l.getD 0 0 = l[0]'(by omega) := by rw [List.getD_eq_getElem?_getD, List.getElem?_eq_getElem (by omega)]; rfl
    have z0 := (l[0]'(by omega)).toNat_lt
    rw [h0] at hpp
    refine GC_skip ?_
    refine GC_seq ?_
    refine GC_region ?_
    refine GL_v rfl (rv_mv (v := .slice _ _ _) vw) ?_
    refine GL_callD rfl cb82 (rCrcIs_ct A n k l hn) rfl .nil sb ?_
    refine GL_v rfl (rv_as (v := .bool _) vw) ?_
    refine GL_nil ?_
    refine GC_seq ?_
    refine GC_seq ?_
    refine GC_region ?_
    refine GL_v rfl (rv_mv (v := .bool _) vw) ?_
    refine GL_v rfl (rv_not vw) ?_
    refine GL_nil ?_
    refine GC_cond rfl (fun h3 => ?_) (fun h3 => ?_)
    ·
     have g3 : crcIs l = false := by have := h3; simpa using this
     rw [if_pos g3] at hpp
     obtain rfl := hpp
     refine GC_seq ?_
     refine GC_region ?_
     refine GL_v rfl (rv_bld (z' := [.int .u8 0, .int .u16 0, .int .u8 0, .int .u8 0, .int .u16 0, .int .u16 0, .int .u16 0, .int .u16 0, .int .u16 0, .int .u16 0, .int .u16 0, .int .u16 0, .int .u16 0, .int .u16 0, .slice none 0 0, .slice none 0 0, .slice none 0 0, .slice none 0 0, .int .u8 0, .int .u8 0, .int .u8 0, .int .u8 0, .int .u8 0, .slice none 0 0]) z44 l44 (fun _ => rfl)) ?_
     refine GL_stA rfl rfl c44 (by simp [Value.oneCell']) (by rfl) ?_
     refine GL_v rfl (rv_as (v := .int .i64 _) vw) ?_
     refine GL_nil ?_
     refine GC_shift .nil (msg0 {}) ?_
     refine GC_ret ?_
     exact finA (T' := [msgR { m := {} }]) (.inr rfl) rfl rfl rfl inferInstance a44 rfl .nil sb ⟨0, 0, { m := {} }, rfl, rfl, rfl, rfl⟩
    ·
     have g3 : ¬ crcIs l = false := by have := h3; simpa using this
     rw [if_neg g3] at hpp
     refine GC_skip ?_
     refine GC_seq ?_
     refine GC_region ?_
     refine GL_v rfl (rv_mv (v := .int .i64 _) vw) ?_
     refine GL_v rfl (rv_mv (v := .slice _ _ _) vw) ?_
     refine GL_v rfl (rv_mv (v := .int .i64 _) vw) ?_
     refine GL_v rfl (rv_sub (r := (n : Int) - 2) vw vw (fun _ => IntWalk.i64_in _ (by omega))) ?_
     refine GL_v rfl (rv_slB (l := 1) (h := n - 2) el22 vw vw vw (fun _ => rfl) (fun _ => by omega) (fun _ => by omega)) ?_
     refine GL_call rfl cb16 (rP14_ct dir (cut A k 1 1) (n - 2 - 1) (k - 1) ((l.drop 1).take (l.length - 2 - 1)) (by omega)) rfl .nil sR ?_
     rintro _ _ _ ⟨x, rfl, hx, rfl, rfl⟩
     simp only [List.cons_append, List.nil_append]
     obtain ⟨m, e, hP⟩ : ∃ m e, P14 dir ((l.drop 1).take (l.length - 2 - 1)) = (m, e) := ⟨_, _, rfl⟩
     rw [hP] at hx hpp ⊢
     simp only at hx ⊢
     refine GL_v rfl (rv_mv (v := .tuple [.agg x.cells.toArray, .int .i64 e].toArray) vw) ?_
     refine GL_v rfl (rv_ext vw rfl) ?_
     refine GL_v rfl (rv_ext vw rfl) ?_
     refine GL_alloc rfl z30 (fun bb8 => ?_)
     refine GL_stA (l' := x.cells) rfl rfl c30 (MsgX.cells_one _) (by rfl) ?_
     refine GL_v rfl (rv_as (v := .int .i64 _) vw) ?_
     refine GL_nil ?_
     refine GC_seq ?_
     refine GC_seq ?_
     refine GC_region ?_
     refine GL_v rfl (rv_mv (v := .int .i64 _) vw) ?_
     refine GL_v rfl (rv_neq vw vw) ?_
     refine GL_nil ?_
     refine GC_cond rfl (fun h4 => ?_) (fun h4 => ?_)
     ·
      have he : e ≠ 0 := by have := h4; simpa using this
      rw [framed_err he] at hpp
      obtain rfl := hpp
      refine GC_seq ?_
      refine GC_region ?_
      refine GL_v rfl (rv_bld (z' := [.int .u8 0, .int .u16 0, .int .u8 0, .int .u8 0, .int .u16 0, .int .u16 0, .int .u16 0, .int .u16 0, .int .u16 0, .int .u16 0, .int .u16 0, .int .u16 0, .int .u16 0, .int .u16 0, .slice none 0 0, .slice none 0 0, .slice none 0 0, .slice none 0 0, .int .u8 0, .int .u8 0, .int .u8 0, .int .u8 0, .int .u8 0, .slice none 0 0]) z44 l44 (fun _ => rfl)) ?_
      refine GL_v rfl (rv_mv (v := .int .i64 _) vw) ?_
      refine GL_stA rfl rfl c44 (by simp [Value.oneCell']) (by rfl) ?_
      refine GL_v rfl (rv_as (v := .int .i64 _) vw) ?_
      refine GL_nil ?_
      refine GC_shift .nil (msg0 {}) ?_
      refine GC_ret ?_
      exact finA (T' := [msgR { m := {} }]) (.inr rfl) rfl rfl rfl inferInstance a44 rfl .nil sb ⟨0, 0, { m := {} }, rfl, rfl, rfl, rfl⟩
     ·
      have he : e = 0 := by have := h4; simpa using this
      rw [framed_ok he] at hpp
      obtain rfl := hpp
      refine GC_dropT (T' := [row 1 A n k (bytesV l), msgR x]) sb ?_
      refine GC_skip ?_
      refine GC_seq ?_
      refine GC_draw 8 ([row 1 A n k (bytesV l), blk bb8 x.cells 30]) mixed ?_
      refine GA_v (i := 0) rfl rfl rfl (by kernel_rfl) (rv_mv (v := .slice _ _ _) vw) ?_
      refine GA_v (i := 1) rfl rfl rfl (by kernel_rfl) (rv_ix (i := 0) el22 vw vw (fun _ => rfl) (fun _ => by omega) (fun _ => hA)) ?_
      refine GA_v (i := 2) rfl rfl rfl (by kernel_rfl) (rv_ldE (v := b8 (l[0]'(by omega))) Tryz.underlying5 rfl vw (fun _ => bytesV_at _)) ?_
      refine GA_v (i := 3) rfl rfl rfl (by kernel_rfl) (rv_bld (z' := [b8 (l[0]'(by omega)), w16 0]) z42 l42 (fun _ => rfl)) ?_
      refine GA_v (i := 4) rfl rfl rfl (by kernel_rfl) (rv_ldA (l := x.cells) a30 vw rfl) ?_
      refine GA_v (i := 5) rfl rfl rfl (by kernel_rfl) (rv_bld (z' := frCells (l[0]'(by omega)) 0 x) z44 l44 (fun _ => frame_fill rfl rfl rfl)) ?_
      refine GA_one 6 rfl rfl (by kernel_rfl) ?_
      refine GL_stA (l' := frCells (l[0]'(by omega)) 0 x) rfl rfl c44 (frCells_one _ _ _) (by rfl) ?_
      refine GL_nil ⟨inferInstance, ?_⟩
      refine GA_v (i := 7) rfl rfl rfl (by kernel_rfl) (rv_as (v := .int .i64 _) vw) ?_
      refine GA_nil (by kernel_rfl) ?_
      refine GC_ret ?_
      exact finA (T' := [msgR x]) (.inr rfl) rfl rfl rfl inferInstance a44 rfl .nil sb ⟨_, _, x, rfl, by rw [hx], rfl, rfl⟩
end Go.Bus
