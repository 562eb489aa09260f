/- Part of the proof: Law21. No condition. -/
import Derived.Test.YtlfjioigkojjdaaGreatUBRef21
set_option linter.unusedVariables false
set_option linter.unusedSimpArgs false
set_option maxRecDepth 100000
set_option maxHeartbeats 8000000
namespace Go.Bus
open Go Go.Proofs
theorem flat_snoc (b : List (List UInt8)) (i : Nat) (h : i < b.length) : (b.take (i + 1)).flatten = (b.take i).flatten ++ b[i]'h := by rw [take_snoc b i h, List.flatten_append]; simp
theorem SmbapTells1_ct (haw : CtD PG 35 [] [] [] (.bool true) [] []) (dir : Int) (hdir : ¬ (dir ≠ 0 ∧ dir ≠ 1)) (hd : Hd) (b : List (List UInt8)) (hs : List Hd) (hb : b.length ≤ 1048576) (hl : ∀ p ∈ b, p.length ≤ 1048576) : Ct PG 8 [.int .i64 dir, .slice hd.A hd.n hd.k] [] [pieceR hd b hs] (fun v _ _ => v = .bool true) := by
 refine Ct_of Tryz.func8 rfl 71 rfl (Nat.le_of_ble_eq_true rfl) fun w0 M N => ?_
 refine GC_bun (show bun (hs.length = b.length) _ ∈ _ from List.mem_cons_self ..) fun hsl => ?_
 refine GC_seq ?_
 refine GC_region ?_
 refine GL_v rfl (rv_as (v := .bool _) vw) ?_
 refine GL_nil ?_
 refine GC_seq ?_
 refine GC_region ?_
 refine GL_callD rfl cb35 haw rfl .nil .nil ?_
 refine GL_v rfl (rv_as (v := .bool _) vw) ?_
 refine GL_nil ?_
 refine GC_seq ?_
 refine GC_region ?_
 refine GL_v rfl (rv_mv (v := .slice _ _ _) vw) ?_
 refine GL_callD rfl cb28 (FewP_ct hd b hs hb hl) rfl .nil (.cons (List.mem_cons_self ..) .nil) ?_
 refine GL_v rfl (rv_as (v := .bool _) vw) ?_
 refine GL_nil ?_
 refine GC_shift .nil (piece_hds (hd := hd) (b := b) (hs := hs) (by simp)) ?_
 refine GC_row hd.A fun hrp => ?_
 have hn : hs.length = hd.n := by have := hrp.1; simpa [hdsV] using this
 refine GC_seq ?_
 refine GC_seq ?_
 refine GC_region ?_
 refine GL_v rfl (rv_mv (v := .bool _) vw) ?_
 refine GL_v rfl (rv_not vw) ?_
 refine GL_nil ?_
 refine GC_cond rfl (fun h0 => ?_) (fun h0 => ?_)
 ·
  refine GC_seq ?_
  refine GC_region ?_
  refine GL_v rfl (rv_mv (v := .bool _) vw) ?_
  refine GL_v rfl (rv_as (v := .bool _) vw) ?_
  refine GL_nil ?_
  refine GC_ret ?_
  exact fin1 (.inr rfl) rfl rfl .nil (T' := []) .nil rfl
 ·
  have hf : b.length ≤ 60 ∧ b.flatten.length ≤ 3000 := by
   have z := h0
   simp [-List.length_flatten] at z
   omega
  refine GC_skip ?_
  refine GC_seq ?_
  refine GC_region ?_
  refine GL_v rfl (rv_mv (v := .int .i64 _) vw) ?_
  refine GL_call rfl cb36 (smNew1_ct dir hdir) rfl .nil .nil ?_
  rintro _ _ _ ⟨B, rfl, rfl, rfl⟩
  simp only [List.cons_append, List.nil_append]
  refine GL_v rfl (rv_as (v := .pointer _) vw) ?_
  refine GL_nil ?_
  refine GC_seq ?_
  refine GC_seq ?_
  refine GC_region ?_
  refine GL_v rfl (rv_mv (v := .int .i64 _) vw) ?_
  refine GL_v rfl (rv_neq vw vw) ?_
  refine GL_v rfl (rv_mv (v := .bool _) vw) ?_
  refine GL_g rfl rfl gvt (rv_mv (v := .int .i64 _) vw) ?_
  refine GL_g rfl rfl gvt (rv_neq vwg vw) ?_
  refine GL_v rfl (rv_and vw vwg) ?_
  refine GL_nil ?_
  refine GC_cond rfl (fun h1 => ?_) (fun h1 => ?_)
  ·
   exact absurd (by have := h1; simpa using this) hdir
  ·
   refine GC_skip ?_
   refine GC_seq ?_
   refine GC_seq ?_
   refine GC_region ?_
   refine GL_v rfl (rv_mv (v := .pointer _) vw) ?_
   refine GL_v rfl (rv_eqPt Tryz.underlying60 vw) ?_
   refine GL_nil ?_
   refine GC_cond rfl (fun h2 => ?_) (fun h2 => ?_)
   ·
    exact absurd h2 (by simp)
   ·
    refine GC_skip ?_
    refine GC_seq ?_
    refine GC_region ?_
    refine GL_v rfl (rv_as (v := .slice _ _ _) vw) ?_
    refine GL_nil ?_
    refine GC_seq ?_
    refine GC_region ?_
    refine GL_v rfl (rv_as (v := .slice _ _ _) vw) ?_
    refine GL_nil ?_
    refine GC_seq ?_
    refine GC_seq ?_
    refine GC_region ?_
    refine GL_v rfl (rv_as (v := .int .i64 _) vw) ?_
    refine GL_nil ?_
    refine GC_shift .nil (nil_own (t := 5) (sz := 1)) ?_
    refine GC_shift .nil (nil_own (t := 89) (sz := 25)) ?_
    refine GC_shift .nil (nil_own (t := 5) (sz := 1)) ?_
    refine GC_drop (.cons .here (.cons .here (.cons (.there .here) (.cons .here .nil)))) ?_
    refine GC_shift .nil msgs_nil ?_
    refine GC_dropT (T' := [msgsR [], row 1 hd.A hd.n hd.k (hdsV hs), pieceR hd b hs]) sb ?_
    refine GC_block ?_
    refine GC_loop (fun (i : Nat) E S T => i ≤ hd.n ∧ ∃ xs st Ag ng kg Ae ne ke Ah nh kh, SmAcc dir {} (b.take i).flatten xs st ∧ At E [(0, .int .i64 dir), (1, .slice hd.A hd.n hd.k), (5, .bool true), (7, .pointer (some ⟨B, 0, none⟩)), (8, .slice Ag ng kg), (9, .slice Ae ne ke), (10, .int .i64 i)] ∧ S = [own 5 1 Ag ng kg (bytesV (b.take i).flatten), own 89 25 Ae ne ke (evsV xs), smB B dir Ah nh kh st.skip, smH Ah nh kh st.held] ∧ T = [msgsR xs, row 1 hd.A hd.n hd.k (hdsV hs), pieceR hd b hs]) (fun i => hd.n - i) 0 ⟨Nat.zero_le _, [], {}, none, 0, 0, none, 0, 0, none, 0, 0, SmAcc.nil (by decide), ⟨rfl, rfl, rfl, rfl, rfl, rfl, rfl, trivial⟩, rfl, rfl⟩ ?_
    rintro i E S T ⟨hi, xs, st, Ag, ng, kg, Ae, ne, ke, Ah, nh, kh, hacc, hE, rfl, rfl⟩
    obtain ⟨E0, rfl⟩ := hE.ex
    have hall : (b.take i).flatten.length ≤ b.flatten.length := flat_le b i
    refine GC_seq ?_
    refine GC_seq ?_
    refine GC_region ?_
    refine GL_v rfl (rv_mv (v := .int .i64 _) vw) ?_
    refine GL_v rfl (rv_mv (v := .slice _ _ _) vw) ?_
    refine GL_v rfl (rv_len el49 vw) ?_
    refine GL_v rfl (rv_lss vw vw) ?_
    refine GL_nil ?_
    refine GC_cond rfl (fun h3 => ?_) (fun h3 => ?_)
    ·
     have hlt : i < hd.n := by have := h3; simp at this; omega
     have hib : i < b.length := by omega
     have hih : i < hs.length := by omega
     have hA : hd.A ≠ none := hrp.2.2.2.2 (by omega) (by decide)
     refine GC_shift .nil (piece_at (hd := hd) (b := b) (hs := hs) (by simp) i hib hih) ?_
     have hat := hdsV_at hih
     have hfs := flat_snoc b i hib
     have hall2 : (b.take (i + 1)).flatten.length ≤ b.flatten.length := flat_le b (i + 1)
     rw [hfs] at hall2
     obtain ⟨p, hp⟩ : ∃ p, p = b[i]'hib := ⟨_, rfl⟩
     obtain ⟨h, hh⟩ : ∃ h, h = hs[i]'hih := ⟨_, rfl⟩
     rw [← hp] at hfs hall2
     rw [← hp, ← hh]
     rw [← hh] at hat
     refine GC_row h.A fun hrh => ?_
     have hpl : p.length = h.n := by have := hrh.1; simpa [bytesV] using this
     refine GC_row Ag fun hrg => ?_
     have hgl : (b.take i).flatten.length = ng := by have := hrg.1; rw [bytesV_length] at this; omega
     refine GC_row Ae fun hre => ?_
     have hel : xs.length = ne := by have := hre.1; rw [evsV_len] at this; omega
     refine GC_row Ah fun hrs => ?_
     have hhl : st.held.length = nh := by have := hrs.1; rw [bytesV_length] at this; omega
     have ha3 := hacc.2.2.1
     have ha4 := hacc.2.2.2.1
     have ha5 := hacc.2.2.2.2
     simp only [List.length_nil, Nat.zero_add] at ha4
     obtain ⟨got, hgot⟩ : ∃ got, (b.take i).flatten = got := ⟨_, rfl⟩
     rw [hgot] at hacc hgl hall hfs hall2 ha3 ha4 ⊢
     rw [List.length_append] at hall2
     refine GC_skip ?_
     refine GC_seq ?_
     refine GC_block ?_
     refine GC_seq ?_
     refine GC_region ?_
     refine GL_v rfl (rv_mv (v := .slice _ _ _) vw) ?_
     refine GL_v rfl (rv_mv (v := .slice _ _ _) vw) ?_
     refine GL_v rfl (rv_mv (v := .int .i64 _) vw) ?_
     refine GL_v rfl (rv_ix (i := i) el49 vw vw (fun _ => rfl) (fun _ => hlt) (fun _ => hA)) ?_
     refine GL_v rfl (rv_ldE (v := .slice h.A h.n h.k) Tryz.underlying22 rfl vw (fun _ => by rw [Nat.mul_one]; exact hat)) ?_
     refine GL_app (m := h.n) rfl el22 rfl rfl (.cons .here .nil) (by rw [bytesV_length, hpl, Nat.mul_one]) (bytesV_one _) (by omega) (by simp [maxLen]; omega) (fun A2 k2 => ?_)
     rw [← bytesV_append]
     refine GL_v rfl (rv_as (v := .slice _ _ _) vw) ?_
     refine GL_nil ?_
     refine GC_seq ?_
     refine GC_region ?_
     refine GL_v rfl (rv_mv (v := .slice _ _ _) vw) ?_
     refine GL_v rfl (rv_mv (v := .pointer _) vw) ?_
     refine GL_v rfl (rv_mv (v := .slice _ _ _) vw) ?_
     refine GL_v rfl (rv_mv (v := .int .i64 _) vw) ?_
     refine GL_v rfl (rv_ix (i := i) el49 vw vw (fun _ => rfl) (fun _ => hlt) (fun _ => hA)) ?_
     refine GL_v rfl (rv_ldE (v := .slice h.A h.n h.k) Tryz.underlying22 rfl vw (fun _ => by rw [Nat.mul_one]; exact hat)) ?_
     refine GL_call rfl cb37 (smFeed_ct B dir st Ah h.A nh kh h.n h.k p (by omega) (by omega) ha5) rfl (.cons (.there (.there .here)) (.cons (.there (.there .here)) .nil)) sb ?_
     rintro _ _ _ ⟨Av, nv, kv, ys, A4, n4, k4, rfl, hy, rfl, rfl⟩
     simp only [List.cons_append, List.nil_append]
     have hacc2 := hacc.feed hy
     have hyl : ys.length ≤ p.length := by have := congrArg List.length hy; rw [List.length_map] at this; rw [this]; exact (smF_few dir p st).1
     obtain ⟨s2, hs2⟩ : ∃ s2, (smF dir st p).2 = s2 := ⟨_, rfl⟩
     rw [hs2] at hacc2 ⊢
     refine GL_row Av fun hrv => ?_
     have hvl : ys.length = nv := by have := hrv.1; rw [evsV_len] at this; omega
     refine GL_row A4 fun hr4 => ?_
     have h4l : s2.held.length = n4 := by have := hr4.1; rw [bytesV_length] at this; omega
     refine GL_app (m := nv) rfl el53 rfl rfl pW (by rw [evsV_len, hvl]) (evsV_one _) (by omega) (by simp [maxLen]; omega) (fun A5 k5 => ?_)
     rw [← evsV_append]
     refine GL_shift .nil (msgs_append (a := xs) (b := ys) (by simp) (by simp)) ?_
     refine GL_v rfl (rv_as (v := .slice _ _ _) vw) ?_
     refine GL_nil ?_
     refine GC_drop (.cons (.there (.there (.there .here))) (.cons .here (.cons .here (.cons .here .nil)))) ?_
     refine GC_dropT (T' := [msgsR (xs ++ ys), row 1 hd.A hd.n hd.k (hdsV hs), pieceR hd b hs]) sb ?_
     refine GC_freeze (.cons .here .nil) fun z1 z2 z3 => ?_
     have hof := sm_of dir (got ++ p).length (got ++ p) (Nat.le_refl _)
     rw [← hacc2.1, ← hacc2.2.1] at hof
     refine GC_seq ?_
     refine GC_region ?_
     refine GL_v rfl (rv_mv (v := .int .i64 _) vw) ?_
     refine GL_v rfl (rv_mv (v := .slice _ _ _) vw) ?_
     refine GL_call rfl cb38 (rOf21_ct dir A2 (ng + h.n) k2 (got ++ p) (by omega)) rfl .nil sb ?_
     rintro _ _ _ ⟨Aw, nw, kw, ws, rfl, hw, rfl, rfl⟩
     simp only [List.cons_append, List.nil_append]
     obtain ⟨o, ho⟩ : ∃ o, of21 dir (got ++ p).length (got ++ p) = o := ⟨_, rfl⟩
     rw [ho] at hw hof ⊢
     refine GL_v rfl (rv_mv (v := .tuple [.slice Aw nw kw, .int .i64 (o.2 : Nat)].toArray) vw) ?_
     refine GL_v rfl (rv_ext vw rfl) ?_
     refine GL_v rfl (rv_ext vw rfl) ?_
     refine GL_v rfl (rv_as (v := .slice _ _ _) vw) ?_
     refine GL_v rfl (rv_as (v := .int .i64 _) vw) ?_
     refine GL_nil ?_
     refine GC_seq ?_
     refine GC_region ?_
     refine GL_v rfl (rv_mv (v := .slice _ _ _) vw) ?_
     refine GL_v rfl (rv_mv (v := .slice _ _ _) vw) ?_
     refine GL_callD rfl cb31 (AllEv_ct A5 Aw (ne + nv) k5 nw kw (xs ++ ys) ws (by simp; omega)).lend2 rfl (.cons .here .nil) sb ?_
     refine GL_v rfl (rv_not vw) ?_
     refine GL_v rfl (rv_mv (v := .bool _) vw) ?_
     refine GL_g rfl rfl gvf (rv_mv (v := .pointer _) vw) ?_
     refine GL_callG2 rfl rfl gvf cb39 (fun _ => smHeld_ct B dir s2.skip A4 n4 k4) (fun q => by show [gd _ _] = _; rw [vwg q]) (.cons (.there .here) .nil) (fun _ => .nil) ?_
     simp only [List.cons_append, List.nil_append]
     refine GL_g rfl rfl gvf (rv_mv (v := .int .i64 _) vw) ?_
     refine GL_g rfl rfl gvf (rv_neq vwg vwg) ?_
     refine GL_v rfl (rv_or vw vwg) ?_
     refine GL_nil ?_
     refine GC_cond rfl (fun h4 => ?_) (fun h4 => ?_)
     ·
      exact absurd h4 (by rw [hw, hof.1, ← hof.2, h4l]; simp)
     ·
      refine GC_thaw (T' := [msgsR (xs ++ ys), row 1 hd.A hd.n hd.k (hdsV hs), pieceR hd b hs]) (by simp) sb z1 (fun X hX => by
       simp only [List.mem_cons, List.not_mem_nil, or_false] at hX
       rcases hX with rfl | rfl | rfl
       · exact z2 _ (.tail _ (.head _))
       · exact z2 _ (.head _)
       · exact z2 _ (.tail _ (.tail _ (.head _)))) z3 ?_
      refine GC_drop (.cons .here (.cons (.there .here) (.cons .here (.cons .here .nil)))) ?_
      refine GC_skip ?_
      refine GC_region ?_
      refine GL_v rfl (rv_mv (v := .int .i64 _) vw) ?_
      refine GL_v rfl (rv_add (r := ((i + 1 : Nat) : Int)) vw vw (fun _ => by rw [IntWalk.i64_in _ (by omega)]; omega)) ?_
      refine GL_v rfl (rv_as (v := .int .i64 _) vw) ?_
      refine GL_nil ?_
      exact ⟨i + 1, ⟨by omega, xs ++ ys, s2, A2, ng + h.n, k2, A5, ne + nv, k5, A4, n4, k4, by rw [hfs]; exact hacc2, ⟨rfl, rfl, rfl, rfl, rfl, rfl, rfl, trivial⟩, by rw [hfs], rfl⟩, by omega⟩
    ·
     refine GC_exit ?_
     refine GC_seq ?_
     refine GC_region ?_
     refine GL_v rfl (rv_mv (v := .bool _) vw) ?_
     refine GL_v rfl (rv_as (v := .bool _) vw) ?_
     refine GL_nil ?_
     refine GC_ret ?_
     exact fin1 (.inr rfl) rfl rfl .nil (T' := []) .nil rfl
theorem SmbapTells0_ct (haw : CtD PG 35 [] [] [] (.bool true) [] []) (dir : Int) (hdir : dir ≠ 0 ∧ dir ≠ 1) (hd : Hd) (b : List (List UInt8)) (hs : List Hd) (hb : b.length ≤ 1048576) (hl : ∀ p ∈ b, p.length ≤ 1048576) : Ct PG 8 [.int .i64 dir, .slice hd.A hd.n hd.k] [] [pieceR hd b hs] (fun v _ _ => v = .bool true) := by
 refine Ct_of Tryz.func8 rfl 71 rfl (Nat.le_of_ble_eq_true rfl) fun w0 M N => ?_
 refine GC_seq ?_
 refine GC_region ?_
 refine GL_v rfl (rv_as (v := .bool _) vw) ?_
 refine GL_nil ?_
 refine GC_seq ?_
 refine GC_region ?_
 refine GL_callD rfl cb35 haw rfl .nil .nil ?_
 refine GL_v rfl (rv_as (v := .bool _) vw) ?_
 refine GL_nil ?_
 refine GC_seq ?_
 refine GC_region ?_
 refine GL_v rfl (rv_mv (v := .slice _ _ _) vw) ?_
 refine GL_callD rfl cb28 (FewP_ct hd b hs hb hl) rfl .nil (.cons (List.mem_cons_self ..) .nil) ?_
 refine GL_v rfl (rv_as (v := .bool _) vw) ?_
 refine GL_nil ?_
 refine GC_seq ?_
 refine GC_seq ?_
 refine GC_region ?_
 refine GL_v rfl (rv_mv (v := .bool _) vw) ?_
 refine GL_v rfl (rv_not vw) ?_
 refine GL_nil ?_
 refine GC_cond rfl (fun h0 => ?_) (fun h0 => ?_)
 ·
  refine GC_seq ?_
  refine GC_region ?_
  refine GL_v rfl (rv_mv (v := .bool _) vw) ?_
  refine GL_v rfl (rv_as (v := .bool _) vw) ?_
  refine GL_nil ?_
  refine GC_ret ?_
  exact fin1 (.inr rfl) rfl rfl .nil (T' := []) .nil rfl
 ·
  refine GC_skip ?_
  refine GC_seq ?_
  refine GC_region ?_
  refine GL_v rfl (rv_mv (v := .int .i64 _) vw) ?_
  refine GL_callD rfl cb36 (smNew0_ct dir hdir) rfl .nil .nil ?_
  refine GL_v rfl (rv_as (v := .pointer _) vw) ?_
  refine GL_nil ?_
  refine GC_seq ?_
  refine GC_seq ?_
  refine GC_region ?_
  refine GL_v rfl (rv_mv (v := .int .i64 _) vw) ?_
  refine GL_v rfl (rv_neq vw vw) ?_
  refine GL_v rfl (rv_mv (v := .bool _) vw) ?_
  refine GL_g rfl rfl gvt (rv_mv (v := .int .i64 _) vw) ?_
  refine GL_g rfl rfl gvt (rv_neq vwg vw) ?_
  refine GL_v rfl (rv_and vw vwg) ?_
  refine GL_nil ?_
  refine GC_cond rfl (fun h1 => ?_) (fun h1 => ?_)
  ·
   refine GC_seq ?_
   refine GC_region ?_
   refine GL_v rfl (rv_mv (v := .bool _) vw) ?_
   refine GL_v rfl (rv_mv (v := .bool _) vw) ?_
   refine GL_g rfl rfl gvt (rv_mv (v := .pointer _) vw) ?_
   refine GL_g rfl rfl gvt (rv_eqPt Tryz.underlying60 vwg) ?_
   refine GL_v rfl (rv_and vw vwg) ?_
   refine GL_v rfl (rv_as (v := .bool _) vw) ?_
   refine GL_nil ?_
   refine GC_ret ?_
   exact fin1 (.inr rfl) rfl rfl .nil (T' := []) .nil rfl
  ·
   exact absurd hdir (by have := h1; simpa using this)
theorem awake21_ct : CtD PG 35 [] [] [] (.bool true) [] [] := by
 refine Ct_of Tryz.func35 rfl 79 rfl (Nat.le_of_ble_eq_true rfl) fun w0 M N => ?_
 refine GC_seq ?_
 refine GC_region ?_
 refine GL_v rfl (rv_as (v := .bool _) vw) ?_
 refine GL_nil ?_
 refine GC_seq ?_
 refine GC_region ?_
 refine GL_call rfl cb36 (smNew1_ct 0 (by decide)) rfl .nil .nil ?_
 rintro _ _ _ ⟨B, rfl, rfl, rfl⟩
 simp only [List.cons_append, List.nil_append]
 refine GL_shift .nil (nil_own (t := 5) (sz := 1)) ?_
 refine GL_v rfl (rv_as (v := .pointer _) vw) ?_
 refine GL_nil ?_
 refine GC_seq ?_
 refine GC_seq ?_
 refine GC_region ?_
 refine GL_v rfl (rv_mv (v := .pointer _) vw) ?_
 refine GL_v rfl (rv_eqPt Tryz.underlying60 vw) ?_
 refine GL_nil ?_
 refine GC_cond rfl (fun h0 => ?_) (fun h0 => ?_)
 ·
  exact absurd h0 (by simp)
 ·
  refine GC_skip ?_
  refine GC_seq ?_
  refine GC_region ?_
  refine GL_v rfl (rv_mv (v := .pointer _) vw) ?_
  refine GL_bs (l := bytesV [0, 9, 0, 0, 0, 2]) rfl el22 z5 rfl rfl rfl (fun b11 => ?_)
  refine GL_shift (.cons .here .nil) (blk_own (n := 6) (sz := 1) rfl (by decide)) ?_
  refine GL_shift (.cons .here .nil) own_toRow ?_
  refine GL_call rfl cb37 (smFeed_ct B 0 {} none _ 0 0 6 6 [0, 9, 0, 0, 0, 2] (by decide) (by decide) (by decide)) rfl (.cons (.there .here) (.cons .here .nil)) sb ?_
  rintro _ _ _ ⟨Av, nv, kv, xs, A1, n1, k1, rfl, hx, rfl, rfl⟩
  simp only [List.cons_append, List.nil_append]
  rw [show smF 0 {} [0, 9, 0, 0, 0, 2] = ([], ⟨[0, 9, 0, 0, 0, 2], 0⟩) by decide +kernel] at hx ⊢
  simp only [List.map_eq_nil_iff] at hx ⊢
  subst hx
  refine GL_row Av fun hr => ?_
  have hnv : nv = 0 := by have := hr.1; simp [evsV] at this; omega
  subst hnv
  refine GL_row A1 fun hr1 => ?_
  have hn1 : n1 = 6 := by have := hr1.1; rw [bytesV_length] at this; simp at this; omega
  subst hn1
  refine GL_dropT (T' := []) sb ?_
  refine GL_v rfl (rv_as (v := .slice _ _ _) vw) ?_
  refine GL_nil ?_
  refine GC_seq ?_
  refine GC_region ?_
  refine GL_v rfl (rv_mv (v := .pointer _) vw) ?_
  refine GL_callD rfl cb39 (smHeld_ct B 0 0 A1 6 k1) rfl (.cons .here .nil) .nil ?_
  refine GL_v rfl (rv_as (v := .int .i64 _) vw) ?_
  refine GL_nil ?_
  refine GC_seq ?_
  refine GC_region ?_
  refine GL_v rfl (rv_mv (v := .pointer _) vw) ?_
  refine GL_bs (l := bytesV [1, 7]) rfl el22 z5 rfl rfl rfl (fun b16 => ?_)
  refine GL_shift (.cons .here .nil) (blk_own (n := 2) (sz := 1) rfl (by decide)) ?_
  refine GL_shift (.cons .here .nil) own_toRow ?_
  refine GL_call rfl cb37 (smFeed_ct B 0 ⟨[0, 9, 0, 0, 0, 2], 0⟩ A1 _ 6 k1 2 2 [1, 7] (by decide) (by decide) (by decide)) rfl (.cons .here (.cons .here .nil)) sb ?_
  rintro _ _ _ ⟨Aw, nw, kw, ys, A2, n2, k2, rfl, hy, rfl, rfl⟩
  simp only [List.cons_append, List.nil_append]
  rw [show smF 0 ⟨[0, 9, 0, 0, 0, 2], 0⟩ [1, 7] = ([⟨0, ⟨1, 9, { code := 7 }⟩⟩], ⟨[], 0⟩) by decide +kernel] at hy ⊢
  simp only [List.map_eq_singleton_iff] at hy ⊢
  obtain ⟨y, rfl, hy⟩ := hy
  simp only [EvX.d, EventD.mk.injEq, FrameD.mk.injEq] at hy
  obtain ⟨hy1, hy2, hy3, hy4⟩ := hy
  refine GL_row A2 fun hr2 => ?_
  have hn2 : n2 = 0 := by have := hr2.1; rw [bytesV_length] at this; simp at this; omega
  subst hn2
  refine GL_row Aw fun hrw => ?_
  have hnw : nw = 1 := by have := hrw.1; rw [evsV_len] at this; simp at this; omega
  subst hnw
  have hAw : Aw ≠ none := hrw.2.2.2.2 (by decide) (by decide)
  refine GL_dropT (T' := [row 25 Aw 1 kw (evsV [y])]) sb ?_
  refine GL_v rfl (rv_as (v := .slice _ _ _) vw) ?_
  refine GL_nil ?_
  refine GC_seq ?_
  refine GC_region ?_
  refine GL_v rfl (rv_mv (v := .pointer _) vw) ?_
  refine GL_bs (l := bytesV [0, 9, 0, 0, 1, 0]) rfl el22 z5 rfl rfl rfl (fun b19 => ?_)
  refine GL_shift (.cons .here .nil) (blk_own (n := 6) (sz := 1) rfl (by decide)) ?_
  refine GL_shift (.cons .here .nil) own_toRow ?_
  refine GL_call rfl cb37 (smFeed_ct B 0 ⟨[], 0⟩ A2 _ 0 k2 6 6 [0, 9, 0, 0, 1, 0] (by decide) (by decide) (by decide)) rfl (.cons .here (.cons .here .nil)) sb ?_
  rintro _ _ _ ⟨Au, nu, ku, zs, A3, n3, k3, rfl, hz, rfl, rfl⟩
  simp only [List.cons_append, List.nil_append]
  rw [show smF 0 ⟨[], 0⟩ [0, 9, 0, 0, 1, 0] = ([⟨3, {}⟩], ⟨[], 256⟩) by decide +kernel] at hz ⊢
  simp only [List.map_eq_singleton_iff] at hz ⊢
  obtain ⟨z, rfl, hz⟩ := hz
  simp only [EvX.d, EventD.mk.injEq] at hz
  obtain ⟨hz1, -⟩ := hz
  refine GL_row A3 fun hr3 => ?_
  have hn3 : n3 = 0 := by have := hr3.1; rw [bytesV_length] at this; simp at this; omega
  subst hn3
  refine GL_row Au fun hru => ?_
  have hnu : nu = 1 := by have := hru.1; rw [evsV_len] at this; simp at this; omega
  subst hnu
  have hAu : Au ≠ none := hru.2.2.2.2 (by decide) (by decide)
  refine GL_dropT (T' := [row 25 Au 1 ku (evsV [z]), row 25 Aw 1 kw (evsV [y])]) sb ?_
  refine GL_v rfl (rv_as (v := .slice _ _ _) vw) ?_
  refine GL_nil ?_
  refine GC_seq ?_
  refine GC_region ?_
  refine GL_v rfl (rv_mv (v := .pointer _) vw) ?_
  refine GL_mk (z := .int .u8 0) (n := 256) rfl el22 (fun _ => by kernel_rfl) rfl rfl rfl (by decide) (by decide) (fun b22 => ?_)
  rw [show List.replicate 256 (Value.int .u8 0) = bytesV (List.replicate 256 0) by rw [bytesV, List.map_replicate]; rfl]
  refine GL_shift (.cons .here .nil) own_toRow ?_
  refine GL_call rfl cb37 (smFeed_ct B 0 ⟨[], 256⟩ A3 _ 0 k3 256 256 (List.replicate 256 0) (by decide) (by decide) (by decide)) rfl (.cons .here (.cons .here .nil)) sb ?_
  rintro _ _ _ ⟨Ar, nr, kr, rs, A6, n6, k6, rfl, hrr, rfl, rfl⟩
  simp only [List.cons_append, List.nil_append]
  rw [show smF 0 ⟨[], 256⟩ (List.replicate 256 0) = ([], ⟨[], 0⟩) by decide +kernel] at hrr ⊢
  simp only [List.map_eq_nil_iff] at hrr ⊢
  subst hrr
  refine GL_row Ar fun hr => ?_
  have hnr : nr = 0 := by have := hr.1; simp [evsV] at this; omega
  subst hnr
  refine GL_row A6 fun hr6 => ?_
  have hn6 : n6 = 0 := by have := hr6.1; rw [bytesV_length] at this; simp at this; omega
  subst hn6
  refine GL_dropT (T' := [row 25 Au 1 ku (evsV [z]), row 25 Aw 1 kw (evsV [y])]) sb ?_
  refine GL_v rfl (rv_as (v := .slice _ _ _) vw) ?_
  refine GL_nil ?_
  refine GC_seq ?_
  refine GC_seq ?_
  refine GC_region ?_
  refine GL_v rfl (rv_mv (v := .slice _ _ _) vw) ?_
  refine GL_v rfl (rv_len el53 vw) ?_
  refine GL_v rfl (rv_neq vw vw) ?_
  refine GL_v rfl (rv_mv (v := .bool _) vw) ?_
  refine GL_g rfl rfl gvf (rv_mv (v := .slice _ _ _) vw) ?_
  refine GL_g rfl rfl gvf (rv_len el53 vwg) ?_
  refine GL_g rfl rfl gvf (rv_neq vwg vw) ?_
  refine GL_v rfl (rv_or vw vwg) ?_
  refine GL_nil ?_
  refine GC_cond rfl (fun h1 => ?_) (fun h1 => ?_)
  ·
   exact absurd h1 (by simp)
  ·
   refine GC_skip ?_
   refine GC_seq ?_
   refine GC_region ?_
   refine GL_v rfl (rv_mv (v := .slice _ _ _) vw) ?_
   refine GL_v rfl (rv_len el53 vw) ?_
   refine GL_v rfl (rv_mv (v := .slice _ _ _) vw) ?_
   refine GL_v rfl (rv_len el53 vw) ?_
   refine GL_v rfl (rv_add vw vw (fun _ => rfl)) ?_
   refine GL_v rfl (rv_eql vw vw) ?_
   refine GL_v rfl (rv_mv (v := .bool _) vw) ?_
   refine GL_g rfl rfl gvt (rv_mv (v := .int .i64 _) vw) ?_
   refine GL_g rfl rfl gvt (rv_eql vwg vw) ?_
   refine GL_v rfl (rv_and vw vwg) ?_
   refine GL_v rfl (rv_mv (v := .bool _) vw) ?_
   refine GL_g rfl rfl gvt (rv_mv (v := .slice _ _ _) vw) ?_
   refine GL_g rfl rfl gvt (rv_ix (i := 0) el53 vwg vw (fun _ => rfl) (fun _ => by decide) (fun _ => hAw)) ?_
   refine GL_g rfl rfl gvt (rv_faE fa89_0 vwg) ?_
   refine GL_g rfl rfl gvt (rv_ldE (v := .int .i64 y.e) Tryz.underlying2 rfl vwg (fun _ => rfl)) ?_
   refine GL_g rfl rfl gvt (rv_eql vwg vw) ?_
   refine GL_v rfl (rv_and vw vwg) ?_
   refine GL_v rfl (rv_mv (v := .bool _) vw) ?_
   refine GL_g rfl rfl gvt (rv_mv (v := .slice _ _ _) vw) ?_
   refine GL_g rfl rfl gvt (rv_ix (i := 0) el53 vwg vw (fun _ => rfl) (fun _ => by decide) (fun _ => hAw)) ?_
   refine GL_g rfl rfl gvt (rv_faE fa89_1 vwg) ?_
   refine GL_g rfl rfl gvt (rv_faE fa44_0 vwg) ?_
   refine GL_g rfl rfl gvt (rv_faE fa42_1 vwg) ?_
   refine GL_g rfl rfl gvt (rv_ldE (v := w16 y.t) Tryz.underlying24 rfl vwg (fun _ => rfl)) ?_
   refine GL_g rfl rfl gvt (rv_eql vwg vw) ?_
   refine GL_v rfl (rv_and vw vwg) ?_
   refine GL_v rfl (rv_mv (v := .bool _) vw) ?_
   refine GL_g rfl rfl gvt (rv_mv (v := .slice _ _ _) vw) ?_
   refine GL_g rfl rfl gvt (rv_ix (i := 0) el53 vwg vw (fun _ => rfl) (fun _ => by decide) (fun _ => hAw)) ?_
   refine GL_g rfl rfl gvt (rv_faE fa89_1 vwg) ?_
   refine GL_g rfl rfl gvt (rv_faE fa44_1 vwg) ?_
   refine GL_g rfl rfl gvt (rv_faE fa30_0 vwg) ?_
   refine GL_g rfl rfl gvt (rv_ldE (v := b8 y.x.m.code) Tryz.underlying5 rfl vwg (fun _ => rfl)) ?_
   refine GL_g rfl rfl gvt (rv_eql vwg vw) ?_
   refine GL_v rfl (rv_and vw vwg) ?_
   refine GL_v rfl (rv_mv (v := .bool _) vw) ?_
   refine GL_g rfl rfl gvt (rv_mv (v := .slice _ _ _) vw) ?_
   refine GL_g rfl rfl gvt (rv_ix (i := 0) el53 vwg vw (fun _ => rfl) (fun _ => by decide) (fun _ => hAu)) ?_
   refine GL_g rfl rfl gvt (rv_faE fa89_0 vwg) ?_
   refine GL_g rfl rfl gvt (rv_ldE (v := .int .i64 z.e) Tryz.underlying2 rfl vwg (fun _ => rfl)) ?_
   refine GL_g rfl rfl gvt (rv_eql vwg vw) ?_
   refine GL_v rfl (rv_and vw vwg) ?_
   refine GL_v rfl (rv_mv (v := .bool _) vw) ?_
   refine GL_g rfl rfl gvt (rv_mv (v := .pointer _) vw) ?_
   refine GL_callG2 rfl rfl gvt cb39 (fun _ => smHeld_ct B 0 0 A6 0 k6) (fun q => by show [gd _ _] = _; rw [vwg q]) (.cons .here .nil) (fun _ => .nil) ?_
   refine GL_g rfl rfl gvt (rv_eql vwg vw) ?_
   refine GL_v rfl (rv_and vw vwg) ?_
   refine GL_v rfl (rv_as (v := .bool _) vw) ?_
   refine GL_nil ?_
   rw [hy1, hy3, hy4, hz1]
   refine GC_ret ?_
   exact fin1 (v := .bool true) (.inr rfl) rfl rfl .nil .nil ⟨rfl, rfl, rfl⟩
theorem SmbapTells_ct (dir : Int) (hd : Hd) (b : List (List UInt8)) (hs : List Hd) (hb : b.length ≤ 1048576) (hl : ∀ p ∈ b, p.length ≤ 1048576) : Ct PG 8 [.int .i64 dir, .slice hd.A hd.n hd.k] [] [pieceR hd b hs] (fun v _ _ => v = .bool true) := by
 by_cases h : dir ≠ 0 ∧ dir ≠ 1
 · exact SmbapTells0_ct awake21_ct dir h hd b hs hb hl
 · exact SmbapTells1_ct awake21_ct dir h hd b hs hb hl
end Go.Bus
