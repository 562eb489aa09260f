/- Part of the proof: EvtW. No condition. -/
import Derived.Test.YtlfjioigkojjdaaGreatUBEvt
import Derived.Test.YtlfjioigkojjdaaGreatUBLaw14
set_option linter.unusedVariables false
set_option linter.unusedSimpArgs false
set_option maxRecDepth 100000
set_option maxHeartbeats 8000000
namespace Go.Bus
open Go Go.Proofs
theorem ev_eq {a b : EvX} : a.d = b.d ↔ (a.e = b.e ∧ (a.u = b.u ∧ a.t = b.t) ∧ a.x.m = b.x.m) := by
 unfold EvX.d
 simp only [EventD.mk.injEq, FrameD.mk.injEq]
 constructor
 · rintro ⟨h1, h2, h3, h4⟩; exact ⟨h1, ⟨h2, h3⟩, h4⟩
 · rintro ⟨h1, ⟨h2, h3⟩, h4⟩; exact ⟨h1, h2, h3, h4⟩
theorem ev_chk {a b : EvX} : (decide (a.e = b.e) && (decide ((a.u.toNat : Int) = b.u.toNat) && decide ((a.t.toNat : Int) = b.t.toNat)) && decide (a.x.m = b.x.m)) = decide (a.d = b.d) := by
 have h1 : ((a.u.toNat : Int) = b.u.toNat) ↔ a.u = b.u := by rw [Int.ofNat_inj, UInt8.toNat_inj]
 have h2 : ((a.t.toNat : Int) = b.t.toNat) ↔ a.t = b.t := by rw [Int.ofNat_inj, UInt16.toNat_inj]
 rw [Bool.eq_iff_iff]
 simp only [h1, h2, Bool.and_eq_true, decide_eq_true_eq, ev_eq, and_assoc]
theorem SameEv_ct (a b : EvX) : CtD PG 79 [.agg a.cells.toArray, .agg b.cells.toArray] [] [msgR a.x, msgR b.x] (.bool (decide (a.d = b.d))) [] [] := by
 refine Ct_of Tryz.func79 rfl 28 rfl (Nat.le_of_ble_eq_true rfl) fun w0 M N => ?_
 refine GC_seq ?_
 refine GC_region ?_
 refine GL_boxA (l := .int .i64 a.e :: frCells a.u a.t a.x) rfl rfl (fun b2 => ?_)
 refine GL_boxA (l := .int .i64 b.e :: frCells b.u b.t b.x) rfl rfl (fun b3 => ?_)
 refine GL_v rfl (rv_as (v := .bool _) vw) ?_
 refine GL_nil ?_
 refine GC_seq ?_
 refine GC_region ?_
 refine GL_v rfl (rv_fa fa89_0 vw) ?_
 refine GL_v rfl (rv_ld (v := .int .i64 a.e) Tryz.underlying2 rfl vw) ?_
 refine GL_v rfl (rv_fa fa89_0 vw) ?_
 refine GL_v rfl (rv_ld (v := .int .i64 b.e) Tryz.underlying2 rfl vw) ?_
 refine GL_v rfl (rv_eql vw vw) ?_
 refine GL_v rfl (rv_mv (v := .bool _) vw) ?_
 refine GL_g rfl rfl gvt (rv_fa fa89_1 vw) ?_
 refine GL_g rfl rfl gvt (rv_faN (off' := 1) fa44_0 vwg rfl) ?_
 refine GL_g rfl rfl gvt (rv_ldP (cs := [b8 a.u, w16 a.t]) a42 vwg rfl rfl) ?_
 refine GL_g rfl rfl gvt (rv_fa fa89_1 vw) ?_
 refine GL_g rfl rfl gvt (rv_faN (off' := 1) fa44_0 vwg rfl) ?_
 refine GL_g rfl rfl gvt (rv_ldP (cs := [b8 b.u, w16 b.t]) a42 vwg rfl rfl) ?_
 refine GL_g rfl rfl gvt (rv_eqSt2 Tryz.underlying42 (by decide) (by decide) Tryz.underlying5 Tryz.underlying24 rfl rfl (by kernel_rfl) (by kernel_rfl) vwg vwg rfl rfl) ?_
 refine GL_v rfl (rv_and vw vwg) ?_
 refine GL_v rfl (rv_mv (v := .bool _) vw) ?_
 refine GL_g rfl rfl gvt (rv_fa fa89_1 vw) ?_
 refine GL_g rfl rfl gvt (rv_faN (off' := 3) fa44_1 vwg rfl) ?_
 refine GL_g rfl rfl gvt (rv_ldP (cs := a.x.cells) a30 vwg rfl rfl) ?_
 refine GL_g rfl rfl gvt (rv_fa fa89_1 vw) ?_
 refine GL_g rfl rfl gvt (rv_faN (off' := 3) fa44_1 vwg rfl) ?_
 refine GL_g rfl rfl gvt (rv_ldP (cs := b.x.cells) a30 vwg rfl rfl) ?_
 refine GL_callG rfl rfl gvt cb17 (fun _ => rSame_ct a.x b.x) (fun q => by show [gd _ _, gd _ _] = _; rw [vwg q, vwg q]) (fun _ => sb) ?_
 refine GL_v rfl (rv_and vw vwg) ?_
 refine GL_v rfl (rv_as (v := .bool _) vw) ?_
 refine GL_nil ?_
 refine GC_ret ?_
 exact fin1 (v := .bool (decide (a.e = b.e) && (decide ((a.u.toNat : Int) = b.u.toNat) && decide ((a.t.toNat : Int) = b.t.toNat)) && decide (a.x.m = b.x.m))) (.inr rfl) rfl rfl .nil .nil ⟨by rw [ev_chk], rfl, rfl⟩
theorem AllEv_ct (A B : Option Addr) (n k n2 k2 : Nat) (xs ys : List EvX) (hn : xs.length ≤ 35184372088832) : CtD PG 31 [.slice A n k, .slice B n2 k2] [] [row 25 A n k (evsV xs), msgsR xs, row 25 B n2 k2 (evsV ys), msgsR ys] (.bool (decide (xs.map EvX.d = ys.map EvX.d))) [] [] := by
 refine Ct_of Tryz.func31 rfl 27 rfl (Nat.le_of_ble_eq_true rfl) fun w0 M N => ?_
 refine GC_row A fun hr1 => ?_
 refine GC_row B fun hr2 => ?_
 have hn1 : xs.length = n := by have := hr1.1; rw [evsV_len] at this; omega
 have hn2 : ys.length = n2 := by have := hr2.1; rw [evsV_len] at this; omega
 refine GC_seq ?_
 refine GC_region ?_
 refine GL_v rfl (rv_as (v := .bool _) vw) ?_
 refine GL_nil ?_
 refine GC_seq ?_
 refine GC_seq ?_
 refine GC_region ?_
 refine GL_v rfl (rv_mv (v := .slice _ _ _) vw) ?_
 refine GL_v rfl (rv_len el53 vw) ?_
 refine GL_v rfl (rv_mv (v := .slice _ _ _) vw) ?_
 refine GL_v rfl (rv_len el53 vw) ?_
 refine GL_v rfl (rv_neq vw vw) ?_
 refine GL_nil ?_
 refine GC_cond rfl (fun h0 => ?_) (fun h0 => ?_)
 ·
  have hne : n ≠ n2 := by have := h0; simp at this; omega
  refine GC_seq ?_
  refine GC_region ?_
  refine GL_v rfl (rv_as (v := .bool _) vw) ?_
  refine GL_nil ?_
  refine GC_ret ?_
  exact fin1 (v := .bool false) (.inr rfl) rfl rfl .nil (T' := []) .nil ⟨by rw [decide_eq_false]; intro h; have := congrArg List.length h; simp at this; omega, rfl, rfl⟩
 ·
  have hne : n = n2 := by have := h0; simp at this; omega
  subst hne
  refine GC_skip ?_
  refine GC_seq ?_
  refine GC_seq ?_
  refine GC_region ?_
  refine GL_v rfl (rv_as (v := .int .i64 _) vw) ?_
  refine GL_nil ?_
  refine GC_block ?_
  refine GC_loop (fun (m : Nat) E S T => m ≤ n ∧ (xs.map EvX.d).take m = (ys.map EvX.d).take m ∧ At E [(0, .slice A n k), (1, .slice B n k2), (5, .int .i64 m)] ∧ S = [] ∧ T = [row 25 A n k (evsV xs), msgsR xs, row 25 B n k2 (evsV ys), msgsR ys]) (fun m => n - m) 0 ⟨Nat.zero_le _, rfl, ⟨rfl, rfl, rfl, trivial⟩, rfl, rfl⟩ ?_
  rintro m E S T ⟨hm, hpre, hE, rfl, rfl⟩
  obtain ⟨E0, rfl⟩ := hE.ex
  refine GC_seq ?_
  refine GC_seq ?_
  refine GC_region ?_
  refine GL_v rfl (rv_mv (v := .int .i64 _) vw) ?_
  refine GL_v rfl (rv_mv (v := .slice _ _ _) vw) ?_
  refine GL_v rfl (rv_len el53 vw) ?_
  refine GL_v rfl (rv_lss vw vw) ?_
  refine GL_nil ?_
  refine GC_cond rfl (fun h1 => ?_) (fun h1 => ?_)
  ·
   have hlt : m < n := by have := h1; simp at this; omega
   have hA : A ≠ none := hr1.2.2.2.2 (by omega) (by decide)
   have hB : B ≠ none := hr2.2.2.2.2 (by omega) (by decide)
   refine GC_shift .nil (msgs_at (l := xs) (by simp) m (by omega)) ?_
   refine GC_shift .nil (msgs_at (l := ys) (by simp) m (by omega)) ?_
   refine GC_skip ?_
   refine GC_seq ?_
   refine GC_block ?_
   refine GC_seq ?_
   refine GC_draw 10 ([row 25 A n k (evsV xs), row 25 B n k2 (evsV ys)]) mixed ?_
   refine GA_v (i := 0) rfl rfl rfl (by kernel_rfl) (rv_mv (v := .slice _ _ _) vw) ?_
   refine GA_v (i := 1) rfl rfl rfl (by kernel_rfl) (rv_mv (v := .int .i64 _) vw) ?_
   refine GA_v (i := 2) rfl rfl rfl (by kernel_rfl) (rv_ix (i := m) el53 vw vw (fun _ => rfl) (fun _ => hlt) (fun _ => hA)) ?_
   refine GA_v (i := 3) rfl rfl rfl (by kernel_rfl) (rv_ldEA (cs := (xs[m]'(by omega)).cells) a89 vw (fun _ => evsV_at xs m (by omega)) (fun _ => rfl)) ?_
   refine GA_v (i := 4) rfl rfl rfl (by kernel_rfl) (rv_mv (v := .slice _ _ _) vw) ?_
   refine GA_v (i := 5) rfl rfl rfl (by kernel_rfl) (rv_mv (v := .int .i64 _) vw) ?_
   refine GA_v (i := 6) rfl rfl rfl (by kernel_rfl) (rv_ix (i := m) el53 vw vw (fun _ => rfl) (fun _ => hlt) (fun _ => hB)) ?_
   refine GA_v (i := 7) rfl rfl rfl (by kernel_rfl) (rv_ldEA (cs := (ys[m]'(by omega)).cells) a89 vw (fun _ => evsV_at ys m (by omega)) (fun _ => rfl)) ?_
   refine GA_one 8 rfl rfl (by kernel_rfl) ?_
   refine GL_callD rfl cb79 (SameEv_ct (xs[m]'(by omega)) (ys[m]'(by omega))) rfl .nil sb ?_
   refine GL_nil ⟨inferInstance, ?_⟩
   refine GA_v (i := 9) rfl rfl rfl (by kernel_rfl) (rv_not vw) ?_
   refine GA_nil (by kernel_rfl) ?_
   refine GC_cond rfl (fun h2 => ?_) (fun h2 => ?_)
   ·
    have hne : (xs[m]'(by omega)).d ≠ (ys[m]'(by omega)).d := by have q := h2; simpa using q
    refine GC_seq ?_
    refine GC_region ?_
    refine GL_v rfl (rv_as (v := .bool _) vw) ?_
    refine GL_nil ?_
    refine GC_ret ?_
    exact fin1 (v := .bool false) (.inr rfl) rfl rfl .nil (T' := []) .nil ⟨by rw [decide_eq_false]; intro h; have := congrArg (fun l => l[m]?) h; simp [show m < xs.length by omega, show m < ys.length by omega] at this; exact hne this, rfl, rfl⟩
   ·
    have heq : (xs[m]'(by omega)).d = (ys[m]'(by omega)).d := by have q := h2; simpa using q
    refine GC_dropT (T' := [row 25 A n k (evsV xs), msgsR xs, row 25 B n k2 (evsV ys), msgsR ys]) sb ?_
    refine GC_skip ?_
    refine GC_region ?_
    refine GL_v rfl (rv_mv (v := .int .i64 _) vw) ?_
    refine GL_v rfl (rv_add (r := ((m + 1 : Nat) : Int)) vw vw (fun _ => by rw [IntWalk.i64_in _ (by omega)]; omega)) ?_
    refine GL_v rfl (rv_as (v := .int .i64 _) vw) ?_
    refine GL_nil ?_
    refine ⟨m + 1, ⟨by omega, ?_, ⟨rfl, rfl, rfl, trivial⟩, rfl, rfl⟩, by omega⟩
    rw [take_snoc (xs.map EvX.d) m (by simp; omega), take_snoc (ys.map EvX.d) m (by simp; omega), hpre]
    simp [heq]
  ·
   obtain rfl : m = n := by have := h1; simp at this; omega
   rw [List.take_of_length_le (by simp; omega), List.take_of_length_le (by simp; omega)] at hpre
   refine GC_exit ?_
   refine GC_seq ?_
   refine GC_region ?_
   refine GL_v rfl (rv_as (v := .bool _) vw) ?_
   refine GL_nil ?_
   refine GC_ret ?_
   exact fin1 (v := .bool true) (.inr rfl) rfl rfl .nil (T' := []) .nil ⟨by rw [decide_eq_true hpre], rfl, rfl⟩
theorem FewP_ct (hd : Hd) (b : List (List UInt8)) (hs : List Hd) (hb : b.length ≤ 1048576) (hl : ∀ p ∈ b, p.length ≤ 1048576) : CtD PG 28 [.slice hd.A hd.n hd.k] [] [pieceR hd b hs] (.bool (decide (b.length ≤ 60) && decide (b.flatten.length ≤ 3000))) [] [] := by
 refine Ct_of Tryz.func28 rfl 25 rfl (Nat.le_of_ble_eq_true rfl) fun w0 M N => ?_
 refine GC_bun (show bun (hs.length = b.length) _ ∈ _ from List.mem_cons_self ..) fun hsl => ?_
 refine GC_shift .nil (piece_hds (hd := hd) (b := b) (hs := hs) (by simp)) ?_
 refine GC_row hd.A fun hr => ?_
 have hn : hs.length = hd.n := by have := hr.1; simpa [hdsV] using this
 refine GC_seq ?_
 refine GC_region ?_
 refine GL_v rfl (rv_as (v := .bool _) vw) ?_
 refine GL_nil ?_
 refine GC_seq ?_
 refine GC_region ?_
 refine GL_v rfl (rv_as (v := .int .i64 _) vw) ?_
 refine GL_nil ?_
 refine GC_seq ?_
 refine GC_seq ?_
 refine GC_region ?_
 refine GL_v rfl (rv_as (v := .int .i64 _) vw) ?_
 refine GL_nil ?_
 refine GC_block ?_
 refine GC_loop (fun (m : Nat) E S T => m ≤ hd.n ∧ ((b.take m).flatten.length ≤ 1048576 * m) ∧ At E [(0, .slice hd.A hd.n hd.k), (3, .int .i64 ((b.take m).flatten.length : Nat)), (4, .int .i64 m)] ∧ S = [] ∧ T = [row 1 hd.A hd.n hd.k (hdsV hs), pieceR hd b hs]) (fun m => hd.n - m) 0 ⟨Nat.zero_le _, by simp, ⟨rfl, rfl, rfl, trivial⟩, rfl, rfl⟩ ?_
 rintro m E S T ⟨hm, hsum, hE, rfl, rfl⟩
 obtain ⟨E0, rfl⟩ := hE.ex
 refine GC_seq ?_
 refine GC_seq ?_
 refine GC_region ?_
 refine GL_v rfl (rv_mv (v := .int .i64 _) vw) ?_
 refine GL_v rfl (rv_mv (v := .slice _ _ _) vw) ?_
 refine GL_v rfl (rv_len el49 vw) ?_
 refine GL_v rfl (rv_lss vw vw) ?_
 refine GL_nil ?_
 refine GC_cond rfl (fun h0 => ?_) (fun h0 => ?_)
 ·
  have hlt : m < hd.n := by have := h0; simp at this; omega
  have hA : hd.A ≠ none := hr.2.2.2.2 (by omega) (by decide)
  refine GC_shift .nil (piece_at (hd := hd) (b := b) (hs := hs) (by simp) m (by omega) (by omega)) ?_
  refine GC_row (hs[m]'(by omega)).A fun hr2 => ?_
  have hn2 : (b[m]'(by omega)).length = (hs[m]'(by omega)).n := by have := hr2.1; simpa [bytesV] using this
  have hbm := hl (b[m]'(by omega)) (List.getElem_mem _)
  have hnx : (b.take (m + 1)).flatten.length = (b.take m).flatten.length + (hs[m]'(by omega)).n := by rw [take_snoc b m (by omega), List.flatten_append, List.length_append]; simp [hn2]
  refine GC_dropT (T' := [row 1 hd.A hd.n hd.k (hdsV hs), pieceR hd b hs]) sb ?_
  generalize hz : (b.take m).flatten.length = z at *
  refine GC_skip ?_
  refine GC_seq ?_
  refine GC_block ?_
  refine GC_region ?_
  refine GL_v rfl (rv_mv (v := .int .i64 _) vw) ?_
  refine GL_v rfl (rv_mv (v := .slice _ _ _) vw) ?_
  refine GL_v rfl (rv_mv (v := .int .i64 _) vw) ?_
  refine GL_v rfl (rv_ix (i := m) el49 vw vw (fun _ => rfl) (fun _ => hlt) (fun _ => hA)) ?_
  refine GL_v rfl (rv_ldE (v := .slice (hs[m]'(by omega)).A (hs[m]'(by omega)).n (hs[m]'(by omega)).k) Tryz.underlying22 rfl vw (fun _ => by rw [Nat.mul_one]; exact hdsV_at (by omega))) ?_
  refine GL_v rfl (rv_len el22 vw) ?_
  refine GL_v rfl (rv_add (r := (((b.take (m + 1)).flatten.length : Nat) : Int)) vw vw (fun _ => by rw [hnx, IntWalk.i64_in _ (by omega)]; omega)) ?_
  refine GL_v rfl (rv_as (v := .int .i64 _) vw) ?_
  refine GL_nil ?_
  refine GC_region ?_
  refine GL_v rfl (rv_mv (v := .int .i64 _) vw) ?_
  refine GL_v rfl (rv_add (r := ((m + 1 : Nat) : Int)) vw vw (fun _ => by rw [IntWalk.i64_in _ (by omega)]; omega)) ?_
  refine GL_v rfl (rv_as (v := .int .i64 _) vw) ?_
  refine GL_nil ?_
  exact ⟨m + 1, ⟨by omega, by omega, ⟨rfl, rfl, rfl, trivial⟩, rfl, rfl⟩, by omega⟩
 ·
  obtain rfl : m = hd.n := by have := h0; simp at this; omega
  rw [List.take_of_length_le (by omega)]
  refine GC_exit ?_
  refine GC_seq ?_
  refine GC_region ?_
  refine GL_v rfl (rv_mv (v := .slice _ _ _) vw) ?_
  refine GL_v rfl (rv_len el49 vw) ?_
  refine GL_v rfl (rv_leq vw vw) ?_
  refine GL_v rfl (rv_mv (v := .bool _) vw) ?_
  refine GL_g rfl rfl gvt (rv_mv (v := .int .i64 _) vw) ?_
  refine GL_g rfl rfl gvt (rv_leq vwg vw) ?_
  refine GL_v rfl (rv_and vw vwg) ?_
  refine GL_v rfl (rv_as (v := .bool _) vw) ?_
  refine GL_nil ?_
  refine GC_ret ?_
  exact fin1 (v := .bool (decide ((hd.n : Int) ≤ 60) && decide ((b.flatten.length : Int) ≤ 3000))) (.inr rfl) rfl rfl .nil .nil ⟨by rw [← hsl, hn]; congr 2 <;> (rw [decide_eq_decide]; omega), rfl, rfl⟩
end Go.Bus
