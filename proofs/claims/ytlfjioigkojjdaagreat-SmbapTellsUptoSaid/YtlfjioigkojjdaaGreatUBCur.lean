/- Part of the proof: Cur. No condition. -/
import Derived.Test.YtlfjioigkojjdaaGreatUBTabs
import Derived.Test.YtlfjioigkojjdaaGreatUBEngb
import Derived.Test.YtlfjioigkojjdaaGreatUBPure
set_option linter.unusedVariables false
set_option linter.unusedSimpArgs false
set_option maxRecDepth 10000
namespace Go.Bus
open Go Go.Proofs
theorem Clone_ct (A : Option Addr) (n k : Nat) (l : List UInt8) (hn : n ≤ 140737488355328) : Ct PG 131 [.slice A n k] [] [row 1 A n k (bytesV l)]
 (fun v S' T' => ∃ A' k', v = .slice A' n k' ∧ S' = [own 5 1 A' n k' (bytesV l)] ∧ T' = []) := by
 refine Ct_of Tryz.func131 rfl 8 rfl (Nat.le_of_ble_eq_true rfl) fun w0 M N => ?_
 refine GC_row A fun hrow => ?_
 refine GC_seq ?_
 refine GC_region ?_
 refine GL_v rfl (rv_as (v := .slice _ _ _) vw) ?_
 refine GL_nil ?_
 refine GC_seq ?_
 refine GC_seq ?_
 refine GC_region ?_
 refine GL_v rfl (rv_mv (v := .slice _ _ _) vw) ?_
 refine GL_v rfl (rv_eqNil el22 vw) ?_
 refine GL_nil ?_
 refine GC_cond rfl (fun h0 => ?_) (fun h0 => ?_)
 ·
  have hA : A = none := by simpa using h0
  obtain ⟨r1, r2, r3, r4, r5⟩ := hrow
  have hk := r4 hA
  obtain rfl : n = 0 := by omega
  have hl : bytesV l = [] := List.eq_nil_of_length_eq_zero (by omega)
  rw [hl]
  refine GC_seq ?_
  refine GC_region ?_
  refine GL_v rfl (rv_as (v := .slice _ _ _) vw) ?_
  refine GL_nil ?_
  refine GC_shift .nil (nil_own (t := 5) (sz := 1)) ?_
  refine GC_ret ?_
  exact fin1 (.inr rfl) rfl rfl (.cons .here .nil) .nil ⟨none, 0, rfl, rfl, rfl⟩
 ·
  refine GC_skip ?_
  refine GC_seq ?_
  refine GC_region ?_
  refine GL_bs rfl el22 z5 rfl rfl rfl (fun b5 => ?_)
  refine GL_v rfl (rv_mv (v := .slice _ _ _) vw) ?_
  refine GL_shift (.cons .here .nil) (blk_own (n := 0) (sz := 1) rfl (by decide)) ?_
  refine GL_app rfl el22 rfl rfl (.cons .here .nil) hrow.1 (bytesV_one l) (by omega) (by simp [maxLen]; omega) (fun A' k' => ?_)
  simp only [Nat.zero_add]
  refine GL_v rfl (rv_as (v := .slice _ _ _) vw) ?_
  refine GL_nil ?_
  refine GC_ret ?_
  exact fin1 (.inr rfl) rfl rfl (.cons .here .nil) .nil ⟨A', k', rfl, rfl, rfl⟩
abbrev CT : Nat := 129
theorem Left_ct (B n k : Nat) (A : Option Addr) (s : Bool) (e : Int) : CtD PG 76 [.pointer (some ⟨B, 0, none⟩)] [blk B [.slice A n k, .bool s, .int .i64 e] CT] [] (.int .i64 n) [blk B [.slice A n k, .bool s, .int .i64 e] CT] [] := by
 refine Ct_of Tryz.func76 rfl 8 rfl (Nat.le_of_ble_eq_true rfl) fun w0 M N => ?_
 refine GC_seq ?_
 refine GC_region ?_
 refine GL_v rfl (rv_as (v := .int .i64 _) vw) ?_
 refine GL_nil ?_
 refine GC_seq ?_
 refine GC_region ?_
 refine GL_v rfl (rv_mv (v := .pointer _) vw) ?_
 refine GL_v rfl (rv_nil vw) ?_
 refine GL_v rfl (rv_fa fa129_0 vw) ?_
 refine GL_v rfl (rv_ld Tryz.underlying22 rfl vw) ?_
 refine GL_v rfl (rv_len el22 vw) ?_
 refine GL_v rfl (rv_as (v := .int .i64 _) vw) ?_
 refine GL_nil ?_
 refine GC_ret ?_
 exact fin1 (.inr rfl) rfl rfl (.cons .here .nil) .nil ⟨rfl, rfl, rfl⟩
theorem Err_ct (B n k : Nat) (A : Option Addr) (s : Bool) (e : Int) : CtD PG 160 [.pointer (some ⟨B, 0, none⟩)] [blk B [.slice A n k, .bool s, .int .i64 e] CT] [] (.int .i64 e) [blk B [.slice A n k, .bool s, .int .i64 e] CT] [] := by
 refine Ct_of Tryz.func160 rfl 7 rfl (Nat.le_of_ble_eq_true rfl) fun w0 M N => ?_
 refine GC_seq ?_
 refine GC_region ?_
 refine GL_v rfl (rv_as (v := .int .i64 _) vw) ?_
 refine GL_nil ?_
 refine GC_seq ?_
 refine GC_region ?_
 refine GL_v rfl (rv_mv (v := .pointer _) vw) ?_
 refine GL_v rfl (rv_nil vw) ?_
 refine GL_v rfl (rv_fa fa129_2 vw) ?_
 refine GL_v rfl (rv_ld Tryz.underlying31 rfl vw) ?_
 refine GL_v rfl (rv_as (v := .int .i64 _) vw) ?_
 refine GL_nil ?_
 refine GC_ret ?_
 exact fin1 (.inr rfl) rfl rfl (.cons .here .nil) .nil ⟨rfl, rfl, rfl⟩
theorem Need_ct (B n k : Nat) (A : Option Addr) (s : Bool) (e : Int) (ok : Bool) (j : Int) : CtD PG 133 [.pointer (some ⟨B, 0, none⟩), .bool ok, .int .i64 j] [blk B [.slice A n k, .bool s, .int .i64 e] CT] [] (.tuple #[]) [blk B [.slice A n k, .bool s, .int .i64 (needE e ok j)] CT] [] := by
 refine Ct_of Tryz.func133 rfl 19 rfl (Nat.le_of_ble_eq_true rfl) fun w0 M N => ?_
 refine GC_seq ?_
 refine GC_region ?_
 refine GL_v rfl (rv_mv (v := .pointer _) vw) ?_
 refine GL_v rfl (rv_nil vw) ?_
 refine GL_v rfl (rv_fa fa129_2 vw) ?_
 refine GL_v rfl (rv_ld Tryz.underlying31 rfl vw) ?_
 refine GL_v rfl (rv_eql vw vw) ?_
 refine GL_v rfl (rv_mv (v := .bool _) vw) ?_
 refine GL_g rfl rfl gvt (rv_mv (v := .bool _) vw) ?_
 refine GL_g rfl rfl gvt (rv_not vwg) ?_
 refine GL_v rfl (rv_and vw vwg) ?_
 refine GL_nil ?_
 refine GC_cond rfl (fun h0 => ?_) (fun h0 => ?_)
 ·
  have hh : e = 0 ∧ ok = false := by simpa using h0
  have he : needE e ok j = j := if_pos hh
  refine GC_region ?_
  refine GL_v rfl (rv_mv (v := .pointer _) vw) ?_
  refine GL_v rfl (rv_mv (v := .int .i64 _) vw) ?_
  refine GL_v rfl (rv_nil vw) ?_
  refine GL_v rfl (rv_fa fa129_2 vw) ?_
  refine GL_st (u := .int .i64 _) rfl rfl c31 rfl ?_
  refine GL_nil ?_
  exact fin0 (.inl rfl) rfl (.cons .here .nil) .nil ⟨rfl, by rw [he], rfl⟩
 ·
  have hh : ¬ (e = 0 ∧ ok = false) := by simpa using h0
  have he : needE e ok j = e := if_neg hh
  refine GC_skip ?_
  exact fin0 (.inl rfl) rfl (.cons .here .nil) .nil ⟨rfl, by rw [he], rfl⟩
theorem End_ct (B n k : Nat) (A : Option Addr) (s : Bool) (e : Int) : CtD PG 159 [.pointer (some ⟨B, 0, none⟩)] [blk B [.slice A n k, .bool s, .int .i64 e] CT] [] (.tuple #[]) [blk B [.slice A n k, .bool s, .int .i64 (needE e (decide ((n : Int) = 0)) 3)] CT] [] := by
 refine Ct_of Tryz.func159 rfl 10 rfl (Nat.le_of_ble_eq_true rfl) fun w0 M N => ?_
 refine GC_region ?_
 refine GL_v rfl (rv_mv (v := .pointer _) vw) ?_
 refine GL_v rfl (rv_mv (v := .pointer _) vw) ?_
 refine GL_v rfl (rv_nil vw) ?_
 refine GL_v rfl (rv_fa fa129_0 vw) ?_
 refine GL_v rfl (rv_ld Tryz.underlying22 rfl vw) ?_
 refine GL_v rfl (rv_len el22 vw) ?_
 refine GL_v rfl (rv_eql vw vw) ?_
 refine GL_callD rfl cb133 (Need_ct ..) rfl pB .nil ?_
 refine GL_nil ?_
 exact fin0 (.inl rfl) rfl (.cons .here .nil) .nil ⟨rfl, rfl, rfl⟩
def CuS (B : Nat) (c : Cu) (S' T' : List Res) : Prop :=
 ∃ A1 n1 k1, S' = [blk B [.slice A1 n1 k1, .bool c.s, .int .i64 c.e] CT] ∧ T' = [row 1 A1 n1 k1 (bytesV c.r)]
def CuR (B : Nat) (p : List UInt8 × Cu) (v : Value) (S' T' : List Res) : Prop :=
 ∃ A1 n1 k1 A2 n2 k2, v = .slice A2 n2 k2 ∧ S' = [blk B [.slice A1 n1 k1, .bool p.2.s, .int .i64 p.2.e] CT] ∧ T' = [row 1 A1 n1 k1 (bytesV p.2.r), row 1 A2 n2 k2 (bytesV p.1)]
def CuW (B : Nat) (p : List UInt16 × Cu) (v : Value) (S' T' : List Res) : Prop :=
 ∃ A1 n1 k1 A2 n2 k2, v = .slice A2 n2 k2 ∧ S' = [blk B [.slice A1 n1 k1, .bool p.2.s, .int .i64 p.2.e] CT] ∧ T' = [row 1 A1 n1 k1 (bytesV p.2.r), row 1 A2 n2 k2 (wordsV p.1)]
def CuV (B : Nat) (u : Value) (c : Cu) (v : Value) (S' T' : List Res) : Prop := v = u ∧ CuS B c S' T'
theorem Bytes_ct (B n k : Nat) (A : Option Addr) (r : List UInt8) (s : Bool) (e : Int) (j : Int) (hn : n ≤ 140737488355328) : Ct PG 75 [.pointer (some ⟨B, 0, none⟩), .int .i64 j] [blk B [.slice A n k, .bool s, .int .i64 e] CT] [row 1 A n k (bytesV r)]
 (CuR B ((⟨r, s, e⟩ : Cu).bytes j)) := by
 refine Ct_of Tryz.func75 rfl 48 rfl (Nat.le_of_ble_eq_true rfl) fun w0 M N => ?_
 refine GC_row A fun hrow => ?_
 have hl : r.length = n := by have := hrow.1; simpa [bytesV] using this
 obtain ⟨p, hp⟩ : ∃ p, (⟨r, s, e⟩ : Cu).bytes j = p := ⟨_, rfl⟩
 rw [hp]
 refine GC_seq ?_
 refine GC_region ?_
 refine GL_v rfl (rv_as (v := .slice _ _ _) vw) ?_
 refine GL_nil ?_
 refine GC_seq ?_
 refine GC_seq ?_
 refine GC_region ?_
 refine GL_v rfl (rv_mv (v := .pointer _) vw) ?_
 refine GL_v rfl (rv_nil vw) ?_
 refine GL_v rfl (rv_fa fa129_1 vw) ?_
 refine GL_v rfl (rv_ld Tryz.underlying4 rfl vw) ?_
 refine GL_v rfl (rv_mv (v := .bool _) vw) ?_
 refine GL_g rfl rfl gvf (rv_mv (v := .int .i64 _) vw) ?_
 refine GL_g rfl rfl gvf (rv_lss vwg vw) ?_
 refine GL_v rfl (rv_or vw vwg) ?_
 refine GL_v rfl (rv_mv (v := .bool _) vw) ?_
 refine GL_g rfl rfl gvf (rv_mv (v := .int .i64 _) vw) ?_
 refine GL_g rfl rfl gvf (rv_mv (v := .pointer _) vw) ?_
 refine GL_g rfl rfl gvf (rv_nil vwg) ?_
 refine GL_g rfl rfl gvf (rv_fa fa129_0 vwg) ?_
 refine GL_g rfl rfl gvf (rv_ld Tryz.underlying22 rfl vwg) ?_
 refine GL_g rfl rfl gvf (rv_len el22 vwg) ?_
 refine GL_g rfl rfl gvf (rv_gtr vwg vwg) ?_
 refine GL_v rfl (rv_or vw vwg) ?_
 refine GL_nil ?_
 refine GC_cond rfl (fun h0 => ?_) (fun h0 => ?_)
 ·
  have hb : (⟨r, s, e⟩ : Cu).bad j = true := by
   rw [← h0]; simp only [Cu.bad, hl]
  have hbytes : (⟨r, s, e⟩ : Cu).bytes j = ([], Cu.need ⟨[], true, e⟩ false 2) := if_pos hb
  obtain rfl := hp.symm.trans hbytes
  refine GC_seq ?_
  refine GC_region ?_
  refine GL_v rfl (rv_mv (v := .pointer _) vw) ?_
  refine GL_v rfl (rv_mv (v := .pointer _) vw) ?_
  refine GL_v rfl (rv_nil vw) ?_
  refine GL_v rfl (rv_fa fa129_0 vw) ?_
  refine GL_st (u := .slice _ _ _) rfl rfl c22 rfl ?_
  refine GL_v rfl (rv_nil vw) ?_
  refine GL_v rfl (rv_fa fa129_1 vw) ?_
  refine GL_st (u := .bool _) rfl rfl c4 rfl ?_
  refine GL_nil ?_
  refine GC_seq ?_
  refine GC_region ?_
  refine GL_v rfl (rv_mv (v := .pointer _) vw) ?_
  refine GL_callD rfl cb133 (Need_ct ..) rfl pB .nil ?_
  refine GL_nil ?_
  refine GC_seq ?_
  refine GC_region ?_
  refine GL_v rfl (rv_as (v := .slice _ _ _) vw) ?_
  refine GL_nil ?_
  refine GC_shift .nil (nil_row (sz := 1)) ?_
  refine GC_ret ?_
  exact fin1 (T' := [row 1 none 0 0 [], row 1 none 0 0 []]) (.inr rfl) rfl rfl (.cons .here .nil) sb ⟨none, 0, 0, none, 0, 0, rfl, rfl, rfl⟩
 ·
  have hb : ¬ (⟨r, s, e⟩ : Cu).bad j = true := by
   rw [Bool.not_eq_true, ← h0]; simp only [Cu.bad, hl]
  have hbytes : (⟨r, s, e⟩ : Cu).bytes j = (r.take j.toNat, ⟨r.drop j.toNat, s, e⟩) := if_neg hb
  have hh : s = false ∧ 0 ≤ j ∧ j ≤ n := by simpa [and_assoc] using h0
  obtain ⟨m, rfl⟩ : ∃ m : Nat, j = m := ⟨j.toNat, by omega⟩
  simp only [Int.toNat_natCast] at hbytes
  obtain rfl := hp.symm.trans hbytes
  have hm : m ≤ n := by omega
  have e1 : bytesV (r.take m) = (bytesV r).take (m * 1) := by simp [bytesV, List.map_take]
  have e2 : bytesV (r.drop m) = ((bytesV r).drop (m * 1)).take ((n - m) * 1) := by
   simp [bytesV, List.map_drop, List.map_take]; rw [List.take_of_length_le (by simp; omega)]
  refine GC_shift .nil (row_take (h := m) (List.mem_cons_self ..) hm (by decide)) ?_
  refine GC_shift .nil (row_cut (l := m) (h := n) (List.mem_cons_of_mem _ (List.mem_cons_self ..)) hm (Nat.le_refl _) (by decide)) ?_
  rw [← e1, ← e2]
  refine GC_skip ?_
  refine GC_seq ?_
  refine GC_region ?_
  refine GL_v rfl (rv_mv (v := .pointer _) vw) ?_
  refine GL_v rfl (rv_nil vw) ?_
  refine GL_v rfl (rv_fa fa129_0 vw) ?_
  refine GL_v rfl (rv_ld Tryz.underlying22 rfl vw) ?_
  refine GL_v rfl (rv_mv (v := .int .i64 _) vw) ?_
  refine GL_v rfl (rv_slH el22 vw vw (fun _ => rfl) (fun _ => Nat.le_trans hm hrow.2.1)) ?_
  refine GL_call rfl cb131 (Clone_ct A m k (r.take m) (by omega)) rfl .nil sb ?_
  rintro _ _ _ ⟨A2, k2, rfl, rfl, rfl⟩
  simp only [List.cons_append, List.nil_append]
  refine GL_shift (.cons .here .nil) own_toRow ?_
  refine GL_v rfl (rv_as (v := .slice _ _ _) vw) ?_
  refine GL_nil ?_
  refine GC_seq ?_
  refine GC_region ?_
  refine GL_v rfl (rv_mv (v := .pointer _) vw) ?_
  refine GL_v rfl (rv_mv (v := .pointer _) vw) ?_
  refine GL_v rfl (rv_nil vw) ?_
  refine GL_v rfl (rv_fa fa129_0 vw) ?_
  refine GL_v rfl (rv_ld Tryz.underlying22 rfl vw) ?_
  refine GL_v rfl (rv_mv (v := .int .i64 _) vw) ?_
  refine GL_v rfl (rv_slL el22 vw vw (fun _ => rfl) (fun _ => hm)) ?_
  refine GL_v rfl (rv_nil vw) ?_
  refine GL_v rfl (rv_fa fa129_0 vw) ?_
  refine GL_st (u := .slice _ _ _) rfl rfl c22 rfl ?_
  refine GL_nil ?_
  refine GC_seq ?_
  refine GC_region ?_
  refine GL_v rfl (rv_mv (v := .slice _ _ _) vw) ?_
  refine GL_v rfl (rv_as (v := .slice _ _ _) vw) ?_
  refine GL_nil ?_
  refine GC_ret ?_
  exact fin1 (.inr rfl) rfl rfl (.cons .here .nil) sb ⟨_, _, _, A2, m, k2, rfl, rfl, rfl⟩
theorem New_ct (A : Option Addr) (n k : Nat) (l : List UInt8) (hn : n ≤ 140737488355328) : Ct PG 72 [.slice A n k] [] [row 1 A n k (bytesV l)]
 (fun v S' T' => ∃ B, v = .pointer (some ⟨B, 0, none⟩) ∧ CuS B ⟨l, false, 0⟩ S' T') := by
 refine Ct_of Tryz.func72 rfl 7 rfl (Nat.le_of_ble_eq_true rfl) fun w0 M N => ?_
 refine GC_seq ?_
 refine GC_region ?_
 refine GL_v rfl (rv_as (v := .pointer _) vw) ?_
 refine GL_nil ?_
 refine GC_seq ?_
 refine GC_region ?_
 refine GL_v rfl (rv_mv (v := .slice _ _ _) vw) ?_
 refine GL_call rfl cb131 (Clone_ct A n k l hn) rfl .nil sb ?_
 rintro _ _ _ ⟨A2, k2, rfl, rfl, rfl⟩
 simp only [List.cons_append, List.nil_append]
 refine GL_shift (.cons .here .nil) own_toRow ?_
 refine GL_v rfl (rv_bld (z' := [.slice _ _ _, .bool false, .int .i64 0]) z129 l129 (fun _ => rfl)) ?_
 refine GL_boxA rfl rfl (fun b6 => ?_)
 refine GL_v rfl (rv_as (v := .pointer _) vw) ?_
 refine GL_nil ?_
 refine GC_ret ?_
 exact fin1 (.inr rfl) rfl rfl (.cons .here .nil) sb ⟨b6, rfl, A2, n, k2, rfl, rfl⟩
theorem Byte_ct (B n k : Nat) (A : Option Addr) (r : List UInt8) (s : Bool) (e : Int) (hn : n ≤ 140737488355328) : Ct PG 74 [.pointer (some ⟨B, 0, none⟩)] [blk B [.slice A n k, .bool s, .int .i64 e] CT] [row 1 A n k (bytesV r)]
 (CuV B (b8 (⟨r, s, e⟩ : Cu).byte.1) (⟨r, s, e⟩ : Cu).byte.2) := by
 unfold Cu.byte
 refine Ct_of Tryz.func74 rfl 14 rfl (Nat.le_of_ble_eq_true rfl) fun w0 M N => ?_
 refine GC_seq ?_
 refine GC_region ?_
 refine GL_v rfl (rv_as (v := .int .u8 _) vw) ?_
 refine GL_nil ?_
 refine GC_seq ?_
 refine GC_seq ?_
 refine GC_region ?_
 refine GL_v rfl (rv_mv (v := .pointer _) vw) ?_
 refine GL_call rfl cb75 (Bytes_ct B n k A r s e 1 hn) rfl pB sR ?_
 rintro _ _ _ ⟨A1, n1, k1, A2, n2, k2, rfl, rfl, rfl⟩
 simp only [List.cons_append, List.nil_append]
 obtain ⟨p, hp⟩ : ∃ p, (⟨r, s, e⟩ : Cu).bytes 1 = p := ⟨_, rfl⟩
 rw [hp]
 obtain ⟨v2, c2⟩ := p
 refine GL_row A2 fun hr2 => ?_
 refine GL_v rfl (rv_len el22 vw) ?_
 refine GL_v rfl (rv_mv (v := .int .i64 _) vw) ?_
 refine GL_nil ?_
 refine GC_block ?_
 refine GC_once ?_
 refine GC_seq ?_
 refine GC_region ?_
 refine GL_v rfl (rv_lss vw vw) ?_
 refine GL_nil ?_
 refine GC_seq ?_
 refine GC_cond rfl (fun h0 => ?_) (fun h0 => ?_)
 ·
  obtain ⟨x, v3, rfl⟩ : ∃ x v3, v2 = x :: v3 := by
   cases v2 with
   | nil => have h1 := hr2.1; simp [bytesV] at h1; simp at h0; omega
   | cons x v3 => exact ⟨x, v3, rfl⟩
  have hA2 : A2 ≠ none := hr2.2.2.2.2 (by simp at h0; omega) (by decide)
  refine GC_skip ?_
  refine GC_seq ?_
  refine GC_block ?_
  refine GC_seq ?_
  refine GC_region ?_
  refine GL_v rfl (rv_ix (i := 0) el22 vw vw (fun _ => rfl) (fun _ => by simp at h0; omega) (fun _ => hA2)) ?_
  refine GL_v rfl (rv_ldE (v := b8 x) Tryz.underlying5 rfl vw (fun _ => rfl)) ?_
  refine GL_v rfl (rv_as (v := b8 x) vw) ?_
  refine GL_nil ?_
  refine GC_seq ?_
  refine GC_region ?_
  refine GL_v rfl (rv_mv (v := b8 x) vw) ?_
  refine GL_v rfl (rv_as (v := b8 x) vw) ?_
  refine GL_nil ?_
  refine GC_ret ?_
  exact fin1 (.inr rfl) rfl rfl (.cons .here .nil) sb ⟨rfl, A1, n1, k1, rfl, rfl⟩
 ·
  obtain rfl : v2 = [] := by
   cases v2 with
   | nil => rfl
   | cons x v3 => have h1 := hr2.1; simp [bytesV] at h1; simp at h0; omega
  refine GC_exit ?_
  refine GC_seq ?_
  refine GC_region ?_
  refine GL_v rfl (rv_as (v := .int .u8 _) vw) ?_
  refine GL_nil ?_
  refine GC_ret ?_
  exact fin1 (.inr rfl) rfl rfl (.cons .here .nil) sb ⟨rfl, A1, n1, k1, rfl, rfl⟩
theorem Take_ct (A : Option Addr) (n k : Nat) (r : List UInt8) (hn : n ≤ 140737488355328) : Ct PG 217 [.slice A n k] [] [row 1 A n k (bytesV r)]
 (fun v S' T' => ∃ A' n' k', v = .slice A' n' k' ∧ S' = [own 24 1 A' n' k' (wordsV (wordTake r))] ∧ T' = []) := by
 refine Ct_of Tryz.func217 rfl 32 rfl (Nat.le_of_ble_eq_true rfl) fun w0 M N => ?_
 refine GC_row A fun hrow => ?_
 have hl : r.length = n := by have := hrow.1; simpa [bytesV] using this
 refine GC_seq ?_
 refine GC_region ?_
 refine GL_v rfl (rv_as (v := .slice _ _ _) vw) ?_
 refine GL_nil ?_
 refine GC_seq ?_
 refine GC_seq ?_
 refine GC_region ?_
 refine GL_v rfl (rv_mv (v := .slice _ _ _) vw) ?_
 refine GL_v rfl (rv_len el22 vw) ?_
 refine GL_v rfl (rv_rem vw vw (fun _ => by decide) (fun _ => Int.tmod_eq_emod_of_nonneg (by omega))) ?_
 refine GL_v rfl (rv_neq vw vw) ?_
 refine GL_nil ?_
 refine GC_cond rfl (fun h0 => ?_) (fun h0 => ?_)
 ·
  have hw : wordTake r = [] := by
   unfold wordTake; rw [if_neg (by simp at h0; omega)]
  rw [hw]
  refine GC_seq ?_
  refine GC_region ?_
  refine GL_v rfl (rv_as (v := .slice _ _ _) vw) ?_
  refine GL_nil ?_
  refine GC_shift .nil (nil_own (t := 24) (sz := 1)) ?_
  refine GC_ret ?_
  exact fin1 (.inr rfl) rfl rfl (.cons .here .nil) .nil ⟨none, 0, 0, rfl, rfl, rfl⟩
 ·
  have hev : n % 2 = 0 := by simp at h0; omega
  have hw : wordTake r = takeW (r.take (2 * (n / 2))) := by
   unfold wordTake; rw [if_pos (by omega), List.take_of_length_le (by omega)]
  rw [hw]
  refine GC_skip ?_
  refine GC_seq ?_
  refine GC_region ?_
  refine GL_v rfl (rv_as (v := .slice _ _ _) vw) ?_
  refine GL_nil ?_
  refine GC_seq ?_
  refine GC_seq ?_
  refine GC_region ?_
  refine GL_v rfl (rv_as (v := .int .i64 _) vw) ?_
  refine GL_nil ?_
  refine GC_shift .nil (nil_own (t := 24) (sz := 1)) ?_
  refine GC_block ?_
  refine GC_loop (fun (m : Nat) E S T => 2 * m ≤ n ∧ ∃ A' k', At E [(3, .slice A' m k'), (4, .int .i64 (2 * m : Nat)), (0, .slice A n k)] ∧ S = [own 24 1 A' m k' (wordsV (takeW (r.take (2 * m))))] ∧ T = [row 1 A n k (bytesV r)]) (fun m => n - 2 * m) 0 ⟨Nat.zero_le _, none, 0, ⟨rfl, rfl, rfl, trivial⟩, rfl, rfl⟩ ?_
  rintro m E S T ⟨hm, A', k', hE, rfl, rfl⟩
  obtain ⟨E0, rfl⟩ := hE.ex
  refine GC_seq ?_
  refine GC_seq ?_
  refine GC_region ?_
  refine GL_v rfl (rv_mv (v := .int .i64 _) vw) ?_
  refine GL_v rfl (rv_mv (v := .slice _ _ _) vw) ?_
  refine GL_v rfl (rv_len el22 vw) ?_
  refine GL_v rfl (rv_lss vw vw) ?_
  refine GL_nil ?_
  refine GC_cond rfl (fun h1 => ?_) (fun h1 => ?_)
  ·
   have hlt : 2 * m + 1 < r.length := by simp at h1; omega
   have hA : A ≠ none := hrow.2.2.2.2 (by omega) (by decide)
   have hb1 := (r[2 * m]'(by omega)).toNat_lt
   have hb2 := (r[2 * m + 1]'hlt).toNat_lt
   refine GC_skip ?_
   refine GC_seq ?_
   refine GC_block ?_
   refine GC_draw 17 ([row 1 A n k (bytesV r)]) mixed ?_
   refine GA_v (i := 0) rfl rfl rfl (by kernel_rfl) (rv_mv (v := .slice _ _ _) vw) ?_
   refine GA_v (i := 1) rfl rfl rfl (by kernel_rfl) (rv_mv (v := .slice _ _ _) vw) ?_
   refine GA_v (i := 2) rfl rfl rfl (by kernel_rfl) (rv_mv (v := .int .i64 _) vw) ?_
   refine GA_v (i := 3) rfl rfl rfl (by kernel_rfl) (rv_ix (i := 2 * m) el22 vw vw (fun _ => rfl) (fun _ => by omega) (fun _ => hA)) ?_
   refine GA_v (i := 4) rfl rfl rfl (by kernel_rfl) (rv_ldE (v := b8 (r[2 * m]'(by omega))) Tryz.underlying5 rfl vw (fun _ => by rw [Nat.mul_one]; exact bytesV_at _)) ?_
   refine GA_v (i := 5) rfl rfl rfl (by kernel_rfl) (rv_cnv (r := ((r[2 * m]'(by omega)).toNat : Int)) Tryz.underlying5 Tryz.underlying24 vw (fun _ => IntWalk.u16_in _ (by omega))) ?_
   refine GA_v (i := 6) rfl rfl rfl (by kernel_rfl) (rv_shl (r := 256 * ((r[2 * m]'(by omega)).toNat : Int)) vw vw (fun _ => by decide) (fun _ => (by rw [IntWalk.u16_in _ (by simp [IntKind.bits]; omega)]; simp [IntKind.bits]; omega))) ?_
   refine GA_v (i := 7) rfl rfl rfl (by kernel_rfl) (rv_mv (v := .slice _ _ _) vw) ?_
   refine GA_v (i := 8) rfl rfl rfl (by kernel_rfl) (rv_mv (v := .int .i64 _) vw) ?_
   refine GA_v (i := 9) rfl rfl rfl (by kernel_rfl) (rv_add (r := ((2 * m + 1 : Nat) : Int)) vw vw (fun _ => by rw [IntWalk.i64_in _ (by omega)]; omega)) ?_
   refine GA_v (i := 10) rfl rfl rfl (by kernel_rfl) (rv_ix (i := 2 * m + 1) el22 vw vw (fun _ => rfl) (fun _ => by omega) (fun _ => hA)) ?_
   refine GA_v (i := 11) rfl rfl rfl (by kernel_rfl) (rv_ldE (v := b8 (r[2 * m + 1]'hlt)) Tryz.underlying5 rfl vw (fun _ => by rw [Nat.mul_one]; exact bytesV_at _)) ?_
   refine GA_v (i := 12) rfl rfl rfl (by kernel_rfl) (rv_cnv (r := ((r[2 * m + 1]'hlt).toNat : Int)) Tryz.underlying5 Tryz.underlying24 vw (fun _ => IntWalk.u16_in _ (by omega))) ?_
   refine GA_v (i := 13) rfl rfl rfl (by kernel_rfl) (rv_bit (r := w16 (UInt16.ofNat (256 * (r[2 * m]'(by omega)).toNat + (r[2 * m + 1]'hlt).toNat))) (.inr (.inl rfl)) vw vw (fun _ w => by rw [w16_of _ (by omega)]; exact run_or16 w _ _ hb1 hb2)) ?_
   refine GA_one 14 rfl rfl (by kernel_rfl) ?_
   refine GL_bs (l := [w16 (UInt16.ofNat (256 * (r[2 * m]'(by omega)).toNat + (r[2 * m + 1]'hlt).toNat))]) rfl el25 z24 rfl rfl rfl (fun b29 => ?_)
   refine GL_nil ⟨inferInstance, ?_⟩
   refine GA_one 15 rfl rfl (by kernel_rfl) ?_
   refine GL_app (m := 1) rfl el25 rfl rfl pW rfl (by simp [w16, Value.oneCell']) (by omega) (by simp [maxLen]; omega) (fun A2 k2 => ?_)
   refine GL_drop (.cons .here .nil) ?_
   refine GL_nil ⟨inferInstance, ?_⟩
   refine GA_v (i := 16) rfl rfl rfl (by kernel_rfl) (rv_as (v := .slice _ _ _) vw) ?_
   refine GA_nil (by kernel_rfl) ?_
   refine GC_region ?_
   refine GL_v rfl (rv_mv (v := .int .i64 _) vw) ?_
   refine GL_v rfl (rv_add (r := ((2 * (m + 1) : Nat) : Int)) vw vw (fun _ => by rw [IntWalk.i64_in _ (by omega)]; omega)) ?_
   refine GL_v rfl (rv_as (v := .int .i64 _) vw) ?_
   refine GL_nil ?_
   refine ⟨m + 1, ⟨by omega, A2, k2, ⟨rfl, rfl, rfl, trivial⟩, ?_, rfl⟩, by omega⟩
   rw [takeW_two r m hlt, wordsV_append]; rfl
  ·
   obtain rfl : m = n / 2 := by simp at h1; omega
   refine GC_exit ?_
   refine GC_seq ?_
   refine GC_region ?_
   refine GL_v rfl (rv_mv (v := .slice _ _ _) vw) ?_
   refine GL_v rfl (rv_as (v := .slice _ _ _) vw) ?_
   refine GL_nil ?_
   refine GC_ret ?_
   exact fin1 (.inr rfl) rfl rfl pW sb ⟨A', _, k', rfl, rfl, rfl⟩
theorem numbers_ct (B n k : Nat) (A : Option Addr) (r : List UInt8) (s : Bool) (e : Int) (j : Int) (hn : n ≤ 70368744177664) : Ct PG 184 [.func (.func 75) [.pointer (some ⟨B, 0, none⟩)].toArray [].toArray, .int .i64 j, .int .i64 n] [blk B [.slice A n k, .bool s, .int .i64 e] CT] [row 1 A n k (bytesV r)]
 (CuW B ((⟨r, s, e⟩ : Cu).words j)) := by
 refine Ct_of Tryz.func184 rfl 21 rfl (Nat.le_of_ble_eq_true rfl) fun w0 M N => ?_
 refine GC_row A fun hrow => ?_
 have hl : r.length = n := by have := hrow.1; simpa [bytesV] using this
 obtain ⟨p, hp⟩ : ∃ p, (⟨r, s, e⟩ : Cu).words j = p := ⟨_, rfl⟩
 rw [hp]
 refine GC_seq ?_
 refine GC_region ?_
 refine GL_v rfl (rv_as (v := .slice _ _ _) vw) ?_
 refine GL_nil ?_
 refine GC_seq ?_
 refine GC_seq ?_
 refine GC_region ?_
 refine GL_v rfl (rv_mv (v := .int .i64 _) vw) ?_
 refine GL_v rfl (rv_lss vw vw) ?_
 refine GL_v rfl (rv_mv (v := .bool _) vw) ?_
 refine GL_g rfl rfl gvf (rv_mv (v := .int .i64 _) vw) ?_
 refine GL_g rfl rfl gvf (rv_mv (v := .int .i64 _) vw) ?_
 refine GL_g rfl rfl gvf (rv_gtr vwg vwg) ?_
 refine GL_v rfl (rv_or vw vwg) ?_
 refine GL_nil ?_
 refine GC_cond rfl (fun h0 => ?_) (fun h0 => ?_)
 ·
  have hb : j < 0 ∨ (r.length : Int) < j := by simp at h0; omega
  have hw : (⟨r, s, e⟩ : Cu).words j = ([], ((⟨r, s, e⟩ : Cu).bytes (-1)).2) := if_pos hb
  obtain rfl := hp.symm.trans hw
  refine GC_seq ?_
  refine GC_region ?_
  refine GL_v rfl (rv_mv (v := .func _ _ _) vw) ?_
  refine GL_callC rfl rfl cb75 rfl (Bytes_ct B n k A r s e (-1) (by omega)) pB sR ?_
  rintro _ _ _ ⟨A1, n1, k1, A2, n2, k2, rfl, rfl, rfl⟩
  simp only [List.cons_append, List.nil_append]
  refine GL_shift .nil (nil_row (sz := 1)) ?_
  refine GL_nil ?_
  refine GC_seq ?_
  refine GC_region ?_
  refine GL_v rfl (rv_as (v := .slice _ _ _) vw) ?_
  refine GL_nil ?_
  refine GC_ret ?_
  exact fin1 (T' := [row 1 _ _ _ _, row 1 none 0 0 []]) (.inr rfl) rfl rfl (.cons .here .nil) sb ⟨A1, n1, k1, none, 0, 0, rfl, rfl, rfl⟩
 ·
  have hb : ¬ (j < 0 ∨ (r.length : Int) < j) := by simp at h0; omega
  have hw : (⟨r, s, e⟩ : Cu).words j = (wordTake ((⟨r, s, e⟩ : Cu).bytes (2 * j)).1, ((⟨r, s, e⟩ : Cu).bytes (2 * j)).2) := if_neg hb
  obtain rfl := hp.symm.trans hw
  refine GC_skip ?_
  refine GC_seq ?_
  refine GC_region ?_
  refine GL_v rfl (rv_mv (v := .func _ _ _) vw) ?_
  refine GL_v rfl (rv_mv (v := .int .i64 _) vw) ?_
  refine GL_v rfl (rv_mul (r := 2 * j) vw vw (fun _ => IntWalk.i64_in _ (by omega))) ?_
  refine GL_callC rfl rfl cb75 rfl (Bytes_ct B n k A r s e (2 * j) (by omega)) pB sR ?_
  rintro _ _ _ ⟨A1, n1, k1, A2, n2, k2, rfl, rfl, rfl⟩
  simp only [List.cons_append, List.nil_append]
  refine GL_row A2 fun hr2 => ?_
  have hn2 : n2 ≤ 140737488355328 := by
   have h1 := hr2.1
   have h2 : ((⟨r, s, e⟩ : Cu).bytes (2 * j)).1.length ≤ r.length := Cu.bytes_le _ _
   simp only [bytesV_length] at h1; omega
  refine GL_call rfl cb217 (Take_ct A2 n2 k2 _ hn2) rfl .nil sR ?_
  rintro _ _ _ ⟨A3, n3, k3, rfl, rfl, rfl⟩
  simp only [List.cons_append, List.nil_append]
  refine GL_shift (.cons .here .nil) own_toRow ?_
  refine GL_v rfl (rv_as (v := .slice _ _ _) vw) ?_
  refine GL_nil ?_
  refine GC_ret ?_
  exact fin1 (.inr rfl) rfl rfl (.cons .here .nil) sb ⟨A1, n1, k1, A3, n3, k3, rfl, rfl, rfl⟩
theorem Words_ct (B n k : Nat) (A : Option Addr) (r : List UInt8) (s : Bool) (e : Int) (j : Int) (hn : n ≤ 70368744177664) : Ct PG 132 [.pointer (some ⟨B, 0, none⟩), .int .i64 j] [blk B [.slice A n k, .bool s, .int .i64 e] CT] [row 1 A n k (bytesV r)]
 (CuW B ((⟨r, s, e⟩ : Cu).words j)) := by
 refine Ct_of Tryz.func132 rfl 14 rfl (Nat.le_of_ble_eq_true rfl) fun w0 M N => ?_
 refine GC_seq ?_
 refine GC_region ?_
 refine GL_v rfl (rv_as (v := .slice _ _ _) vw) ?_
 refine GL_nil ?_
 refine GC_seq ?_
 refine GC_region ?_
 refine GL_v rfl (rv_mv (v := .pointer _) vw) ?_
 refine GL_v rfl (rv_mf) ?_
 refine GL_v rfl (rv_mv (v := .int .i64 _) vw) ?_
 refine GL_v rfl (rv_mv (v := .pointer _) vw) ?_
 refine GL_v rfl (rv_nil vw) ?_
 refine GL_v rfl (rv_fa fa129_0 vw) ?_
 refine GL_v rfl (rv_ld Tryz.underlying22 rfl vw) ?_
 refine GL_v rfl (rv_len el22 vw) ?_
 refine GL_call rfl cb184 (numbers_ct B n k A r s e j hn) rfl pB sR ?_
 rintro _ _ _ ⟨A1, n1, k1, A2, n2, k2, rfl, rfl, rfl⟩
 simp only [List.cons_append, List.nil_append]
 refine GL_v rfl (rv_as (v := .slice _ _ _) vw) ?_
 refine GL_nil ?_
 refine GC_ret ?_
 exact fin1 (.inr rfl) rfl rfl (.cons .here .nil) sb ⟨A1, n1, k1, A2, n2, k2, rfl, rfl, rfl⟩
theorem Word_ct (B n k : Nat) (A : Option Addr) (r : List UInt8) (s : Bool) (e : Int) (hn : n ≤ 70368744177664) : Ct PG 73 [.pointer (some ⟨B, 0, none⟩)] [blk B [.slice A n k, .bool s, .int .i64 e] CT] [row 1 A n k (bytesV r)]
 (CuV B (w16 (⟨r, s, e⟩ : Cu).word.1) (⟨r, s, e⟩ : Cu).word.2) := by
 unfold Cu.word
 refine Ct_of Tryz.func73 rfl 14 rfl (Nat.le_of_ble_eq_true rfl) fun w0 M N => ?_
 refine GC_seq ?_
 refine GC_region ?_
 refine GL_v rfl (rv_as (v := .int .u16 _) vw) ?_
 refine GL_nil ?_
 refine GC_seq ?_
 refine GC_seq ?_
 refine GC_region ?_
 refine GL_v rfl (rv_mv (v := .pointer _) vw) ?_
 refine GL_call rfl cb132 (Words_ct B n k A r s e 1 hn) rfl pB sR ?_
 rintro _ _ _ ⟨A1, n1, k1, A2, n2, k2, rfl, rfl, rfl⟩
 simp only [List.cons_append, List.nil_append]
 obtain ⟨p, hp⟩ : ∃ p, (⟨r, s, e⟩ : Cu).words 1 = p := ⟨_, rfl⟩
 rw [hp]
 obtain ⟨v2, c2⟩ := p
 refine GL_row A2 fun hr2 => ?_
 refine GL_v rfl (rv_len el25 vw) ?_
 refine GL_v rfl (rv_mv (v := .int .i64 _) vw) ?_
 refine GL_nil ?_
 refine GC_block ?_
 refine GC_once ?_
 refine GC_seq ?_
 refine GC_region ?_
 refine GL_v rfl (rv_lss vw vw) ?_
 refine GL_nil ?_
 refine GC_seq ?_
 refine GC_cond rfl (fun h0 => ?_) (fun h0 => ?_)
 ·
  obtain ⟨x, v3, rfl⟩ : ∃ x v3, v2 = x :: v3 := by
   cases v2 with
   | nil => have h1 := hr2.1; simp [wordsV] at h1; simp at h0; omega
   | cons x v3 => exact ⟨x, v3, rfl⟩
  have hA2 : A2 ≠ none := hr2.2.2.2.2 (by simp at h0; omega) (by decide)
  refine GC_skip ?_
  refine GC_seq ?_
  refine GC_block ?_
  refine GC_seq ?_
  refine GC_region ?_
  refine GL_v rfl (rv_ix (i := 0) el25 vw vw (fun _ => rfl) (fun _ => by simp at h0; omega) (fun _ => hA2)) ?_
  refine GL_v rfl (rv_ldE (v := w16 x) Tryz.underlying24 rfl vw (fun _ => rfl)) ?_
  refine GL_v rfl (rv_as (v := w16 x) vw) ?_
  refine GL_nil ?_
  refine GC_seq ?_
  refine GC_region ?_
  refine GL_v rfl (rv_mv (v := w16 x) vw) ?_
  refine GL_v rfl (rv_as (v := w16 x) vw) ?_
  refine GL_nil ?_
  refine GC_ret ?_
  exact fin1 (.inr rfl) rfl rfl (.cons .here .nil) sb ⟨rfl, A1, n1, k1, rfl, rfl⟩
 ·
  obtain rfl : v2 = [] := by
   cases v2 with
   | nil => rfl
   | cons x v3 => have h1 := hr2.1; simp [wordsV] at h1; simp at h0; omega
  refine GC_exit ?_
  refine GC_seq ?_
  refine GC_region ?_
  refine GL_v rfl (rv_as (v := .int .u16 _) vw) ?_
  refine GL_nil ?_
  refine GC_ret ?_
  exact fin1 (.inr rfl) rfl rfl (.cons .here .nil) sb ⟨rfl, A1, n1, k1, rfl, rfl⟩
end Go.Bus
