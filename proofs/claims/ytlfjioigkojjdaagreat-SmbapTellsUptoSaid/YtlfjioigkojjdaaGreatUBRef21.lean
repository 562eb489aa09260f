/- Part of the proof: Ref21. No condition. -/
import Derived.Test.YtlfjioigkojjdaaGreatUBSmbap
import Derived.Test.YtlfjioigkojjdaaGreatUBLaw17
set_option linter.unusedVariables false
set_option linter.unusedSimpArgs false
set_option maxRecDepth 100000
set_option maxHeartbeats 8000000
namespace Go.Bus
open Go Go.Proofs
def Rest21 (dir : Int) (b l : List UInt8) (xs : List EvX) : Prop := ∃ F, l.length ≤ F ∧ xs.length + l.length ≤ b.length ∧ of21 dir b.length b = (xs.map EvX.d ++ (of21 dir F l).1, (of21 dir F l).2)
theorem rest21_end {dir : Int} {b l : List UInt8} {xs : List EvX} (h : Rest21 dir b l xs) (hs : l.length < 6 ∨ ¬ (6 + sizeN l < 8 ∨ 260 < 6 + sizeN l) ∧ l.length < 6 + sizeN l) : of21 dir b.length b = (xs.map EvX.d, l.length) := by
 obtain ⟨F, h1, _, h2⟩ := h
 cases F with
 | zero => rw [h2]; simp [of21]
 | succ F =>
  have e : of21 dir (F + 1) l = ([], l.length) := by
   unfold of21
   rcases hs with hs | ⟨hs, hs2⟩
   · rw [if_pos hs]
   · by_cases h6 : l.length < 6
     · rw [if_pos h6]
     · rw [if_neg h6, if_neg hs, if_pos hs2]
  rw [h2, e]; simp
theorem rest21_bad {dir : Int} {b l : List UInt8} {xs : List EvX} (h : Rest21 dir b l xs) (h6 : ¬ l.length < 6) (hb : 6 + sizeN l < 8 ∨ 260 < 6 + sizeN l) {y : EvX} (hy : y.d = ⟨if 6 + sizeN l < 8 then 5 else 3, {}⟩) : Rest21 dir b (l.drop (6 + sizeN l)) (xs ++ [y]) := by
 obtain ⟨F, h1, h3, h2⟩ := h
 cases F with
 | zero => omega
 | succ F =>
  refine ⟨F, by simp; omega, by simp; omega, ?_⟩
  have e : of21 dir (F + 1) l = (y.d :: (of21 dir F (l.drop (6 + sizeN l))).1, (of21 dir F (l.drop (6 + sizeN l))).2) := by
   conv => lhs; unfold of21
   rw [if_neg h6, if_pos hb, hy]
  rw [h2, e]; simp
theorem rest21_ok {dir : Int} {b l : List UInt8} {xs : List EvX} (h : Rest21 dir b l xs) (h6 : ¬ l.length < 6) (hb : ¬ (6 + sizeN l < 8 ∨ 260 < 6 + sizeN l)) (hl : ¬ l.length < 6 + sizeN l) {y : EvX} (hy : y.d = evOf (P17 dir (l.take (6 + sizeN l)))) : Rest21 dir b (l.drop (6 + sizeN l)) (xs ++ [y]) := by
 obtain ⟨F, h1, h3, h2⟩ := h
 cases F with
 | zero => omega
 | succ F =>
  refine ⟨F, by simp; omega, by simp; omega, ?_⟩
  have e : of21 dir (F + 1) l = (y.d :: (of21 dir F (l.drop (6 + sizeN l))).1, (of21 dir F (l.drop (6 + sizeN l))).2) := by
   conv => lhs; unfold of21
   rw [if_neg h6, if_neg hb, if_neg hl, hy]
  rw [h2, e]; simp
def EvOut2 (o : List EventD × Nat) (v : Value) (S' T' : List Res) : Prop := ∃ A n k xs, v = .tuple #[.slice A n k, .int .i64 (o.2 : Nat)] ∧ xs.map EvX.d = o.1 ∧ S' = [] ∧ T' = [row 25 A n k (evsV xs), msgsR xs]
theorem rOf21_ct (dir : Int) (A : Option Addr) (n k : Nat) (b : List UInt8) (hn : n ≤ 100000) : Ct PG 38 [.int .i64 dir, .slice A n k] [] [row 1 A n k (bytesV b)] (EvOut2 (of21 dir b.length b)) := by
 refine Ct_of Tryz.func38 rfl 71 rfl (Nat.le_of_ble_eq_true rfl) fun w0 M N => ?_
 refine GC_row A fun hr0 => ?_
 have hl0 : b.length = n := by have := hr0.1; simpa [bytesV] using this
 refine GC_shift .nil (nil_own (t := 89) (sz := 25)) ?_
 refine GC_shift .nil msgs_nil ?_
 refine GC_dropT (T' := [row 1 A n k (bytesV b), msgsR []]) sb ?_
 refine GC_seq ?_
 refine GC_region ?_
 refine GL_v rfl (rv_as (v := .slice _ _ _) vw) ?_
 refine GL_v rfl (rv_as (v := .int .i64 _) vw) ?_
 refine GL_nil ?_
 refine GC_seq ?_
 refine GC_region ?_
 refine GL_v rfl (rv_as (v := .slice _ _ _) vw) ?_
 refine GL_nil ?_
 refine GC_seq ?_
 refine GC_block ?_
 refine GC_loop (fun (i : Nat) E S T => ∃ l xs Al nl kl Ae ne ke, i = l.length ∧ Rest21 dir b l xs ∧ At E [(0, .int .i64 dir), (1, .slice Al nl kl), (6, .slice Ae ne ke)] ∧ S = [own 89 25 Ae ne ke (evsV xs)] ∧ T = [row 1 Al nl kl (bytesV l), msgsR xs]) (fun i => i) b.length ⟨b, [], A, n, k, none, 0, 0, rfl, ⟨b.length, Nat.le_refl _, by simp, by simp⟩, ⟨rfl, rfl, rfl, trivial⟩, rfl, rfl⟩ ?_
 rintro i E S T ⟨l, xs, Al, nl, kl, Ae, ne, ke, rfl, hrest, hE, rfl, rfl⟩
 obtain ⟨E0, rfl⟩ := hE.ex
 refine GC_row Al fun hr => ?_
 have hl : l.length = nl := by have := hr.1; simpa [bytesV] using this
 refine GC_row Ae fun hr4 => ?_
 have hl4 : xs.length = ne := by have := hr4.1; rw [evsV_len] at this; omega
 have hbb := hrest
 obtain ⟨F, _, hbb, _⟩ := hbb
 have hsz := sizeN_le l
 refine GC_seq ?_
 refine GC_seq ?_
 refine GC_region ?_
 refine GL_v rfl (rv_mv (v := .slice _ _ _) vw) ?_
 refine GL_v rfl (rv_len el22 vw) ?_
 refine GL_v rfl (rv_geq vw vw) ?_
 refine GL_nil ?_
 refine GC_cond rfl (fun h0 => ?_) (fun h0 => ?_)
 ·
  have h6 : ¬ l.length < 6 := by have := h0; simp at this; omega
  have hA : Al ≠ none := hr.2.2.2.2 (by omega) (by decide)
  have q4 := (l[4]'(by omega)).toNat_lt
  have q5 := (l[5]'(by omega)).toNat_lt
  have hs2 : sizeN l = 256 * (l[4]'(by omega)).toNat + (l[5]'(by omega)).toNat := by unfold sizeN; rw [at8_get (by omega), at8_get (by omega)]
  refine GC_skip ?_
  refine GC_block ?_
  refine GC_seq ?_
  refine GC_draw 12 ([row 1 Al nl kl (bytesV l)]) mixed ?_
  refine GA_v (i := 0) rfl rfl rfl (by kernel_rfl) (rv_mv (v := .slice _ _ _) vw) ?_
  refine GA_v (i := 1) rfl rfl rfl (by kernel_rfl) (rv_ix (i := 4) el22 vw vw (fun _ => rfl) (fun _ => by omega) (fun _ => hA)) ?_
  refine GA_v (i := 2) rfl rfl rfl (by kernel_rfl) (rv_ldE (v := b8 (l[4]'(by omega))) Tryz.underlying5 rfl vw (fun _ => bytesV_at _)) ?_
  refine GA_v (i := 3) rfl rfl rfl (by kernel_rfl) (rv_cnv (r := ((l[4]'(by omega)).toNat : Int)) Tryz.underlying5 Tryz.underlying3 vw (fun _ => IntWalk.i64_in _ (by omega))) ?_
  refine GA_v (i := 4) rfl rfl rfl (by kernel_rfl) (rv_mul (r := 256 * ((l[4]'(by omega)).toNat : Int)) vw vw (fun _ => IntWalk.i64_in _ (by omega))) ?_
  refine GA_v (i := 5) rfl rfl rfl (by kernel_rfl) (rv_add (r := 6 + 256 * ((l[4]'(by omega)).toNat : Int)) vw vw (fun _ => IntWalk.i64_in _ (by omega))) ?_
  refine GA_v (i := 6) rfl rfl rfl (by kernel_rfl) (rv_mv (v := .slice _ _ _) vw) ?_
  refine GA_v (i := 7) rfl rfl rfl (by kernel_rfl) (rv_ix (i := 5) el22 vw vw (fun _ => rfl) (fun _ => by omega) (fun _ => hA)) ?_
  refine GA_v (i := 8) rfl rfl rfl (by kernel_rfl) (rv_ldE (v := b8 (l[5]'(by omega))) Tryz.underlying5 rfl vw (fun _ => bytesV_at _)) ?_
  refine GA_v (i := 9) rfl rfl rfl (by kernel_rfl) (rv_cnv (r := ((l[5]'(by omega)).toNat : Int)) Tryz.underlying5 Tryz.underlying3 vw (fun _ => IntWalk.i64_in _ (by omega))) ?_
  refine GA_v (i := 10) rfl rfl rfl (by kernel_rfl) (rv_add (r := ((6 + sizeN l : Nat) : Int)) vw vw (fun _ => by rw [hs2, IntWalk.i64_in _ (by omega)]; omega)) ?_
  refine GA_v (i := 11) rfl rfl rfl (by kernel_rfl) (rv_as (v := .int .i64 _) vw) ?_
  refine GA_nil (by kernel_rfl) ?_
  refine GC_seq ?_
  refine GC_seq ?_
  refine GC_region ?_
  refine GL_v rfl (rv_mv (v := .int .i64 _) vw) ?_
  refine GL_v rfl (rv_lss vw vw) ?_
  refine GL_v rfl (rv_mv (v := .bool _) vw) ?_
  refine GL_g rfl rfl gvf (rv_mv (v := .int .i64 _) vw) ?_
  refine GL_g rfl rfl gvf (rv_gtr vwg vw) ?_
  refine GL_v rfl (rv_or vw vwg) ?_
  refine GL_nil ?_
  refine GC_cond rfl (fun h1 => ?_) (fun h1 => ?_)
  ·
   have hbad : 6 + sizeN l < 8 ∨ 260 < 6 + sizeN l := by have := h1; simp at this; omega
   refine GC_seq ?_
   refine GC_region ?_
   refine GL_v rfl (rv_as (v := .int .i64 _) vw) ?_
   refine GL_nil ?_
   refine GC_seq ?_
   refine GC_seq ?_
   refine GC_region ?_
   refine GL_v rfl (rv_mv (v := .int .i64 _) vw) ?_
   refine GL_v rfl (rv_lss vw vw) ?_
   refine GL_nil ?_
   refine GC_cutM (fun E S T => At E [(0, .int .i64 dir), (1, .slice Al nl kl), (6, .slice Ae ne ke), (7, .int .i64 ((6 + sizeN l : Nat) : Int)), (8, .int .i64 (if 6 + sizeN l < 8 then 5 else 3))] ∧ S = [own 89 25 Ae ne ke (evsV xs)] ∧ T = [row 1 Al nl kl (bytesV l), msgsR xs]) ?_ ?_
   ·
    refine GC_cond rfl (fun h2 => ?_) (fun h2 => ?_)
    ·
     have g : 6 + sizeN l < 8 := by have := h2; simp at this; omega
     refine GC_region ?_
     refine GL_v rfl (rv_as (v := .int .i64 _) vw) ?_
     refine GL_nil ?_
     show Weak _ _ _ _
     exact weak (.cons .here .nil) sb ⟨⟨rfl, rfl, rfl, rfl, by rw [if_pos g]; rfl, trivial⟩, rfl, rfl⟩
    ·
     have g : ¬ 6 + sizeN l < 8 := by have := h2; simp at this; omega
     refine GC_skip ?_
     show Weak _ _ _ _
     exact weak (.cons .here .nil) sb ⟨⟨rfl, rfl, rfl, rfl, by rw [if_neg g]; rfl, trivial⟩, rfl, rfl⟩
   ·
    rintro E S T ⟨S1, r1, T1, hS, hT, hM⟩
    refine GC_drop hS (GC_dropT hT ?_)
    clear hS hT
    revert hM
    rintro ⟨hE1, rfl, rfl⟩
    obtain ⟨E1, rfl⟩ := hE1.ex
    obtain ⟨e, he⟩ : ∃ e : Int, (if 6 + sizeN l < 8 then (5 : Int) else 3) = e := ⟨_, rfl⟩
    rw [he]
    have hnew := rest21_bad (y := ⟨e, 0, 0, { m := {} }⟩) hrest h6 hbad (by rw [he]; rfl)
    have hmin : l.drop (6 + sizeN l) = l.drop (min (6 + sizeN l) nl) := by
     by_cases g : 6 + sizeN l ≤ nl
     · rw [Nat.min_eq_left g]
     · rw [Nat.min_eq_right (by omega), List.drop_of_length_le (by omega), List.drop_of_length_le (by omega)]
    have hdl : (l.drop (6 + sizeN l)).length < l.length := by simp; omega
    rw [hmin] at hnew hdl
    obtain ⟨j, hj⟩ : ∃ j, j = min (6 + sizeN l) nl := ⟨_, rfl⟩
    rw [← hj] at hnew hdl
    clear hE1
    refine GC_seq ?_
    refine GC_region ?_
    refine GL_v rfl (rv_mv (v := .slice _ _ _) vw) ?_
    refine GL_v rfl (rv_mv (v := .int .i64 _) vw) ?_
    refine GL_v rfl (rv_bld (z' := EvX.cells ⟨e, 0, 0, { m := {} }⟩) z89 l89 (fun _ => ev_fill0 rfl)) ?_
    refine GL_bs (l := evsV [⟨e, 0, 0, { m := {} }⟩]) rfl el53 z89 rfl rfl (evs_bs rfl rfl) (fun b36 => ?_)
    refine GL_app (m := 1) rfl el53 rfl rfl pW (evsV_len _) (evsV_one _) (by omega) (by simp [maxLen]; omega) (fun A5 k5 => ?_)
    rw [← evsV_append]
    refine GL_drop (.cons .here .nil) ?_
    refine GL_shift .nil (msg0 {}) ?_
    refine GL_shift .nil (msgs_one (y := ⟨e, 0, 0, { m := {} }⟩) (List.mem_cons_self ..)) ?_
    refine GL_shift .nil (msgs_append (a := xs) (b := [⟨e, 0, 0, { m := {} }⟩]) (by simp) (by simp)) ?_
    refine GL_v rfl (rv_as (v := .slice _ _ _) vw) ?_
    refine GL_nil ?_
    refine GC_shift .nil (row_cut (l := j) (h := nl) (by simp : row 1 Al nl kl (bytesV l) ∈ _) (by omega) (Nat.le_refl _) (by decide)) ?_
    have e2 : ((bytesV l).drop (j * 1)).take ((nl - j) * 1) = bytesV (l.drop j) := by
     simp [bytesV, List.map_drop, List.map_take]; rw [List.take_of_length_le (by simp; omega)]
    rw [e2]
    refine GC_seq ?_
    refine GC_region ?_
    refine GL_v rfl (rv_mv (v := .slice _ _ _) vw) ?_
    refine GL_v rfl (rv_mv (v := .int .i64 _) vw) ?_
    refine GL_v rfl (rv_mv (v := .slice _ _ _) vw) ?_
    refine GL_v rfl (rv_len el22 vw) ?_
    refine GL_v rfl (rv_min vw vw) ?_
    rw [show (if (nl : Int) < ((6 + sizeN l : Nat) : Int) then (nl : Int) else ((6 + sizeN l : Nat) : Int)) = (j : Int) by rw [hj]; split <;> omega]
    refine GL_v rfl (rv_slL (l := j) el22 vw vw (fun _ => rfl) (fun _ => by omega)) ?_
    refine GL_v rfl (rv_as (v := .slice _ _ _) vw) ?_
    refine GL_nil ?_
    refine GC_dropT (T' := [row 1 (cut Al kl 1 j) (nl - j) (kl - j) (bytesV (l.drop j)), msgsR (xs ++ [⟨e, 0, 0, { m := {} }⟩])]) sb ?_
    refine GC_exit ?_
    first | exact ⟨_, ⟨l.drop j, xs ++ [⟨e, 0, 0, { m := {} }⟩], _, _, _, A5, ne + 1, k5, rfl, hnew, ⟨rfl, rfl, rfl, trivial⟩, rfl, rfl⟩, hdl⟩ | exact ⟨_, ⟨l.drop (6 + sizeN l), xs ++ [⟨e, u, t, x⟩], _, _, _, A5, ne + 1, k5, rfl, hnew, ⟨rfl, rfl, rfl, trivial⟩, rfl, rfl⟩, by simp; omega⟩
  ·
   have hbad : ¬ (6 + sizeN l < 8 ∨ 260 < 6 + sizeN l) := by have := h1; simp at this; omega
   refine GC_skip ?_
   refine GC_seq ?_
   refine GC_seq ?_
   refine GC_region ?_
   refine GL_v rfl (rv_mv (v := .slice _ _ _) vw) ?_
   refine GL_v rfl (rv_len el22 vw) ?_
   refine GL_v rfl (rv_mv (v := .int .i64 _) vw) ?_
   refine GL_v rfl (rv_lss vw vw) ?_
   refine GL_nil ?_
   refine GC_cond rfl (fun h3 => ?_) (fun h3 => ?_)
   ·
    have hsh : l.length < 6 + sizeN l := by have := h3; simp at this; omega
    have hend := rest21_end hrest (.inr ⟨hbad, hsh⟩)
    refine GC_shift (.cons .here .nil) own_toRow ?_
    refine GC_seq ?_
    refine GC_region ?_
    refine GL_v rfl (rv_mv (v := .slice _ _ _) vw) ?_
    refine GL_v rfl (rv_mv (v := .slice _ _ _) vw) ?_
    refine GL_v rfl (rv_len el22 vw) ?_
    refine GL_v rfl (rv_as (v := .slice _ _ _) vw) ?_
    refine GL_v rfl (rv_as (v := .int .i64 _) vw) ?_
    refine GL_nil ?_
    refine GC_ret ?_
    exact fin2 (v := .slice Ae ne ke) (v' := .int .i64 (nl : Nat)) (T' := [row 25 Ae ne ke (evsV xs), msgsR xs]) (.inr rfl) rfl rfl rfl .nil sb ⟨Ae, ne, ke, xs, by rw [hend, hl], by rw [hend], rfl, rfl⟩
   ·
    have hsh : ¬ l.length < 6 + sizeN l := by have := h3; simp at this; omega
    refine GC_shift .nil (row_take (h := 6 + sizeN l) (by simp : row 1 Al nl kl (bytesV l) ∈ _) (by omega) (by decide)) ?_
    have e1 : (bytesV l).take ((6 + sizeN l) * 1) = bytesV (l.take (6 + sizeN l)) := by simp [bytesV, List.map_take]
    refine GC_shift .nil (row_cut (l := 6 + sizeN l) (h := nl) (by simp : row 1 Al nl kl (bytesV l) ∈ _) (by omega) (Nat.le_refl _) (by decide)) ?_
    have e2 : ((bytesV l).drop ((6 + sizeN l) * 1)).take ((nl - (6 + sizeN l)) * 1) = bytesV (l.drop (6 + sizeN l)) := by
     simp [bytesV, List.map_drop, List.map_take]; rw [List.take_of_length_le (by simp; omega)]
    rw [e1, e2]
    refine GC_skip ?_
    refine GC_seq ?_
    refine GC_region ?_
    refine GL_v rfl (rv_mv (v := .int .i64 _) vw) ?_
    refine GL_v rfl (rv_mv (v := .slice _ _ _) vw) ?_
    refine GL_v rfl (rv_mv (v := .int .i64 _) vw) ?_
    refine GL_v rfl (rv_slH (h := 6 + sizeN l) el22 vw vw (fun _ => rfl) (fun _ => by have := hr.2.1; omega)) ?_
    refine GL_call rfl cb24 (rP17_ct dir Al (6 + sizeN l) kl (l.take (6 + sizeN l)) (by omega)) rfl .nil sb ?_
    rintro _ _ _ ⟨u, t, x, rfl, hx, rfl, rfl⟩
    simp only [List.cons_append, List.nil_append]
    obtain ⟨fd, e, hP⟩ : ∃ m e, P17 dir (l.take (6 + sizeN l)) = (m, e) := ⟨_, _, rfl⟩
    have hnew := rest21_ok (y := ⟨e, u, t, x⟩) hrest h6 hbad hsh (by rw [hP] at hx ⊢; simp only [evOf, EvX.d, hx])
    rw [hP]
    simp only
    refine GL_v rfl (rv_mv (v := .tuple [.agg (frCells u t x).toArray, .int .i64 e].toArray) vw) ?_
    refine GL_v rfl (rv_ext vw rfl) ?_
    refine GL_v rfl (rv_ext vw rfl) ?_
    refine GL_alloc rfl z44 (fun b9 => ?_)
    refine GL_stA (l' := frCells u t x) rfl rfl c44 (frCells_one _ _ _) (by rfl) ?_
    refine GL_v rfl (rv_as (v := .int .i64 _) vw) ?_
    refine GL_nil ?_
    refine GC_seq ?_
    refine GC_region ?_
    refine GL_v rfl (rv_mv (v := .slice _ _ _) vw) ?_
    refine GL_v rfl (rv_mv (v := .int .i64 _) vw) ?_
    refine GL_v rfl (rv_ldA (l := frCells u t x) a44 vw rfl) ?_
    refine GL_v rfl (rv_bld (z' := EvX.cells ⟨e, u, t, x⟩) z89 l89 (fun _ => ev_fill rfl rfl rfl)) ?_
    refine GL_bs (l := evsV [⟨e, u, t, x⟩]) rfl el53 z89 rfl rfl (evs_bs rfl rfl) (fun b63 => ?_)
    refine GL_app (m := 1) rfl el53 rfl rfl pW (evsV_len _) (evsV_one _) (by omega) (by simp [maxLen]; omega) (fun A5 k5 => ?_)
    rw [← evsV_append]
    refine GL_drop (.cons .here .nil) ?_
    refine GL_shift .nil (msgs_one (y := ⟨e, u, t, x⟩) (List.mem_cons_self ..)) ?_
    refine GL_shift .nil (msgs_append (a := xs) (b := [⟨e, u, t, x⟩]) (by simp) (by simp)) ?_
    refine GL_v rfl (rv_as (v := .slice _ _ _) vw) ?_
    refine GL_nil ?_
    refine GC_region ?_
    refine GL_v rfl (rv_mv (v := .slice _ _ _) vw) ?_
    refine GL_v rfl (rv_mv (v := .int .i64 _) vw) ?_
    refine GL_v rfl (rv_slL (l := 6 + sizeN l) el22 vw vw (fun _ => rfl) (fun _ => by omega)) ?_
    refine GL_v rfl (rv_as (v := .slice _ _ _) vw) ?_
    refine GL_dropT (T' := [row 1 (cut Al kl 1 (6 + sizeN l)) (nl - (6 + sizeN l)) (kl - (6 + sizeN l)) (bytesV (l.drop (6 + sizeN l))), msgsR (xs ++ [⟨e, u, t, x⟩])]) sb ?_
    refine GL_drop (.cons .here .nil) ?_
    refine GL_nil ?_
    first | exact ⟨_, ⟨l.drop j, xs ++ [⟨e, 0, 0, { m := {} }⟩], _, _, _, A5, ne + 1, k5, rfl, hnew, ⟨rfl, rfl, rfl, trivial⟩, rfl, rfl⟩, hdl⟩ | exact ⟨_, ⟨l.drop (6 + sizeN l), xs ++ [⟨e, u, t, x⟩], _, _, _, A5, ne + 1, k5, rfl, hnew, ⟨rfl, rfl, rfl, trivial⟩, rfl, rfl⟩, by simp; omega⟩
 ·
  have h6 : l.length < 6 := by have := h0; simp at this; omega
  have hend := rest21_end hrest (.inl h6)
  refine GC_shift (.cons .here .nil) own_toRow ?_
  refine GC_exit ?_
  refine GC_seq ?_
  refine GC_region ?_
  refine GL_v rfl (rv_mv (v := .slice _ _ _) vw) ?_
  refine GL_v rfl (rv_mv (v := .slice _ _ _) vw) ?_
  refine GL_v rfl (rv_len el22 vw) ?_
  refine GL_v rfl (rv_as (v := .slice _ _ _) vw) ?_
  refine GL_v rfl (rv_as (v := .int .i64 _) vw) ?_
  refine GL_nil ?_
  refine GC_ret ?_
  exact fin2 (v := .slice Ae ne ke) (v' := .int .i64 (nl : Nat)) (T' := [row 25 Ae ne ke (evsV xs), msgsR xs]) (.inr rfl) rfl rfl rfl .nil sb ⟨Ae, ne, ke, xs, by rw [hend, hl], by rw [hend], rfl, rfl⟩
end Go.Bus
