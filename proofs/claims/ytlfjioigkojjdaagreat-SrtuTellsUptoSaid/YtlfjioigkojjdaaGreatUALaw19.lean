/- Part of the proof: Law19. No condition. -/
import Derived.Test.YtlfjioigkojjdaaGreatUASrtu
set_option linter.unusedVariables false
set_option linter.unusedSimpArgs false
set_option maxRecDepth 100000
set_option maxHeartbeats 8000000
namespace Go.Bus
open Go Go.Proofs
theorem SrtuTells1_ct (haw : CtD PG 27 [] [] [] (.bool true) [] []) (dir : Int) (hdir : ¬ (dir ≠ 0 ∧ dir ≠ 1)) (hd : Hd) (b : List (List UInt8)) (hs : List Hd) (hb : b.length ≤ 1048576) (hl : ∀ p ∈ b, p.length ≤ 1048576) (A : Option Addr) (n k : Nat) (q : List Bool) : Ct PG 7 [.int .i64 dir, .slice hd.A hd.n hd.k, .slice A n k] [] [pieceR hd b hs, row 1 A n k (boolsV q)] (fun v _ _ => v = .bool true) := by
 refine Ct_of Tryz.func7 rfl 107 rfl (Nat.le_of_ble_eq_true rfl) fun w0 M N => ?_
 refine GC_bun (show bun (hs.length = b.length) _ ∈ _ from List.mem_cons_self ..) fun hsl => ?_
 refine GC_row A fun hrq => ?_
 have hq : q.length = n := by have := hrq.1; simpa [boolsV] using this
 refine GC_seq ?_
 refine GC_region ?_
 refine GL_v rfl (rv_as (v := .bool _) vw) ?_
 refine GL_nil ?_
 refine GC_seq ?_
 refine GC_region ?_
 refine GL_callD rfl cb27 haw rfl .nil .nil ?_
 refine GL_v rfl (rv_as (v := .bool _) vw) ?_
 refine GL_nil ?_
 refine GC_seq ?_
 refine GC_region ?_
 refine GL_v rfl (rv_mv (v := .slice _ _ _) vw) ?_
 refine GL_callD rfl cb28 (FewP_ct hd b hs hb hl) rfl .nil (.cons (List.mem_cons_self ..) .nil) ?_
 refine GL_v rfl (rv_as (v := .bool _) vw) ?_
 refine GL_nil ?_
 refine GC_shift .nil (piece_hds (hd := hd) (b := b) (hs := hs) (by simp)) ?_
 refine GC_row hd.A fun hrp => ?_
 have hn : hs.length = hd.n := by have := hrp.1; simpa [hdsV] using this
 refine GC_seq ?_
 refine GC_seq ?_
 refine GC_region ?_
 refine GL_v rfl (rv_mv (v := .bool _) vw) ?_
 refine GL_v rfl (rv_not vw) ?_
 refine GL_v rfl (rv_mv (v := .bool _) vw) ?_
 refine GL_g rfl rfl gvf (rv_mv (v := .slice _ _ _) vw) ?_
 refine GL_g rfl rfl gvf (rv_len el26 vwg) ?_
 refine GL_g rfl rfl gvf (rv_mv (v := .slice _ _ _) vw) ?_
 refine GL_g rfl rfl gvf (rv_len el49 vwg) ?_
 refine GL_g rfl rfl gvf (rv_lss vwg vwg) ?_
 refine GL_v rfl (rv_or vw vwg) ?_
 refine GL_nil ?_
 refine GC_cond rfl (fun h0 => ?_) (fun h0 => ?_)
 ·
  refine GC_seq ?_
  refine GC_region ?_
  refine GL_v rfl (rv_mv (v := .bool _) vw) ?_
  refine GL_v rfl (rv_as (v := .bool _) vw) ?_
  refine GL_nil ?_
  refine GC_ret ?_
  exact fin1 (.inr rfl) rfl rfl .nil (T' := []) .nil rfl
 ·
  have hf : b.length ≤ 60 ∧ b.flatten.length ≤ 3000 ∧ hd.n ≤ n := by
   have z := h0
   simp [-List.length_flatten] at z
   omega
  refine GC_skip ?_
  refine GC_seq ?_
  refine GC_region ?_
  refine GL_v rfl (rv_mv (v := .int .i64 _) vw) ?_
  refine GL_call rfl cb29 (srNew1_ct dir hdir) rfl .nil .nil ?_
  rintro _ _ _ ⟨B, rfl, rfl, rfl⟩
  simp only [List.cons_append, List.nil_append]
  refine GL_v rfl (rv_as (v := .pointer _) vw) ?_
  refine GL_nil ?_
  refine GC_seq ?_
  refine GC_seq ?_
  refine GC_region ?_
  refine GL_v rfl (rv_mv (v := .int .i64 _) vw) ?_
  refine GL_v rfl (rv_neq vw vw) ?_
  refine GL_v rfl (rv_mv (v := .bool _) vw) ?_
  refine GL_g rfl rfl gvt (rv_mv (v := .int .i64 _) vw) ?_
  refine GL_g rfl rfl gvt (rv_neq vwg vw) ?_
  refine GL_v rfl (rv_and vw vwg) ?_
  refine GL_nil ?_
  refine GC_cond rfl (fun h1 => ?_) (fun h1 => ?_)
  ·
   exact absurd (by have := h1; simpa using this) hdir
  ·
   refine GC_skip ?_
   refine GC_seq ?_
   refine GC_seq ?_
   refine GC_region ?_
   refine GL_v rfl (rv_mv (v := .pointer _) vw) ?_
   refine GL_v rfl (rv_eqPt Tryz.underlying51 vw) ?_
   refine GL_nil ?_
   refine GC_cond rfl (fun h2 => ?_) (fun h2 => ?_)
   ·
    exact absurd h2 (by simp)
   ·
    refine GC_skip ?_
    refine GC_seq ?_
    refine GC_region ?_
    refine GL_v rfl (rv_as (v := .slice _ _ _) vw) ?_
    refine GL_nil ?_
    refine GC_seq ?_
    refine GC_seq ?_
    refine GC_region ?_
    refine GL_v rfl (rv_as (v := .int .i64 _) vw) ?_
    refine GL_nil ?_
    refine GC_shift .nil (nil_row (sz := 1)) ?_
    refine GC_shift .nil (nil_own (t := 5) (sz := 1)) ?_
    refine GC_dropT (T' := [row 1 none 0 0 [], row 1 hd.A hd.n hd.k (hdsV hs), pieceR hd b hs, row 1 A n k (boolsV q)]) sb ?_
    refine GC_block ?_
    refine GC_loop (fun (i : Nat) E S T => i ≤ hd.n ∧ ∃ got Ag ng kg Ah nh kh, got.length = ng ∧ ng ≤ (b.take i).flatten.length ∧ At E [(0, .int .i64 dir), (1, .slice hd.A hd.n hd.k), (2, .slice A n k), (7, .bool true), (9, .pointer (some ⟨B, 0, none⟩)), (10, .slice Ag ng kg), (11, .int .i64 i)] ∧ S = [own 5 1 Ag ng kg (bytesV got), srB B dir Ah nh kh (srAt got).off] ∧ T = [row 1 Ah nh kh (bytesV (srAt got).held), row 1 hd.A hd.n hd.k (hdsV hs), pieceR hd b hs, row 1 A n k (boolsV q)]) (fun i => hd.n - i) 0 ⟨Nat.zero_le _, [], none, 0, 0, none, 0, 0, rfl, Nat.zero_le _, ⟨rfl, rfl, rfl, rfl, rfl, rfl, rfl, trivial⟩, rfl, rfl⟩ ?_
    rintro i E S T ⟨hi, got, Ag, ng, kg, Ah, nh, kh, hgl, hgs, hE, rfl, rfl⟩
    obtain ⟨E0, rfl⟩ := hE.ex
    have hall : (b.take i).flatten.length ≤ b.flatten.length := flat_le b i
    refine GC_seq ?_
    refine GC_seq ?_
    refine GC_region ?_
    refine GL_v rfl (rv_mv (v := .int .i64 _) vw) ?_
    refine GL_v rfl (rv_mv (v := .slice _ _ _) vw) ?_
    refine GL_v rfl (rv_len el49 vw) ?_
    refine GL_v rfl (rv_lss vw vw) ?_
    refine GL_nil ?_
    refine GC_cond rfl (fun h3 => ?_) (fun h3 => ?_)
    ·
     have hlt : i < hd.n := by have := h3; simp at this; omega
     have hib : i < b.length := by omega
     have hih : i < hs.length := by omega
     have hA : hd.A ≠ none := hrp.2.2.2.2 (by omega) (by decide)
     have hAq : A ≠ none := hrq.2.2.2.2 (by omega) (by decide)
     refine GC_shift .nil (piece_at (hd := hd) (b := b) (hs := hs) (by simp) i hib hih) ?_
     have hat := hdsV_at hih
     obtain ⟨p, hp⟩ : ∃ p, p = b[i]'hib := ⟨_, rfl⟩
     obtain ⟨h, hh⟩ : ∃ h, h = hs[i]'hih := ⟨_, rfl⟩
     rw [← hp, ← hh]
     rw [← hh] at hat
     refine GC_row h.A fun hrh => ?_
     have hpl : p.length = h.n := by have := hrh.1; simpa [bytesV] using this
     have hnx : (b.take (i + 1)).flatten.length = (b.take i).flatten.length + h.n := by rw [take_snoc b i hib, List.flatten_append, List.length_append, ← hp]; simp [hpl]
     have hall2 : (b.take (i + 1)).flatten.length ≤ b.flatten.length := flat_le b (i + 1)
     refine GC_row Ah fun hrs => ?_
     have hhl : (srAt got).held.length = nh := by have := hrs.1; simpa [bytesV] using this
     have hh256 : nh ≤ 256 := by rw [← hhl]; unfold srAt; split <;> simp <;> omega
     refine GC_skip ?_
     refine GC_seq ?_
     refine GC_cutM (fun E S T => ∃ got' Ag ng kg Ah nh kh, got'.length = ng ∧ ng ≤ (b.take (i + 1)).flatten.length ∧ At E [(0, .int .i64 dir), (1, .slice hd.A hd.n hd.k), (2, .slice A n k), (7, .bool true), (9, .pointer (some ⟨B, 0, none⟩)), (10, .slice Ag ng kg), (11, .int .i64 i)] ∧ S = [own 5 1 Ag ng kg (bytesV got'), srB B dir Ah nh kh (srAt got').off] ∧ T = [row 1 Ah nh kh (bytesV (srAt got').held), row 1 hd.A hd.n hd.k (hdsV hs), pieceR hd b hs, row 1 A n k (boolsV q)]) ?_ ?_
     ·
      refine GC_block ?_
      refine GC_seq ?_
      refine GC_region ?_
      refine GL_v rfl (rv_mv (v := .slice _ _ _) vw) ?_
      refine GL_v rfl (rv_len el22 vw) ?_
      refine GL_v rfl (rv_gtr vw vw) ?_
      refine GL_v rfl (rv_as (v := .bool _) vw) ?_
      refine GL_nil ?_
      refine GC_seq ?_
      refine GC_region ?_
      refine GL_v rfl (rv_mv (v := .slice _ _ _) vw) ?_
      refine GL_v rfl (rv_mv (v := .slice _ _ _) vw) ?_
      refine GL_v rfl (rv_mv (v := .int .i64 _) vw) ?_
      refine GL_v rfl (rv_ix (i := i) el49 vw vw (fun _ => rfl) (fun _ => hlt) (fun _ => hA)) ?_
      refine GL_v rfl (rv_ldE (v := .slice h.A h.n h.k) Tryz.underlying22 rfl vw (fun _ => by rw [Nat.mul_one]; exact hat)) ?_
      refine GL_app (m := h.n) rfl el22 rfl rfl pW (by rw [bytesV_length, hpl, Nat.mul_one]) (bytesV_one _) (by omega) (by simp [maxLen]; omega) (fun A2 k2 => ?_)
      rw [← bytesV_append]
      refine GL_v rfl (rv_as (v := .slice _ _ _) vw) ?_
      refine GL_nil ?_
      refine GC_freeze (.cons .here .nil) fun z1 z2 z3 => ?_
      have hgl2 : (got ++ p).length = ng + h.n := by simp [hgl, hpl]
      refine GC_seq ?_
      refine GC_region ?_
      refine GL_v rfl (rv_as (v := .slice _ _ _) vw) ?_
      refine GL_nil ?_
      refine GC_seq ?_
      refine GC_seq ?_
      refine GC_region ?_
      refine GL_v rfl (rv_mv (v := .bool _) vw) ?_
      refine GL_v rfl (rv_not vw) ?_
      refine GL_v rfl (rv_mv (v := .bool _) vw) ?_
      refine GL_g rfl rfl gvt (rv_mv (v := .slice _ _ _) vw) ?_
      refine GL_g rfl rfl gvt (rv_len el22 vwg) ?_
      refine GL_g rfl rfl gvt (rv_gtr vwg vw) ?_
      refine GL_v rfl (rv_and vw vwg) ?_
      refine GL_nil ?_
      refine GC_cutM (fun E S T => ∃ A3 n3 k3 xs, xs.map EvX.d = (if ¬ 256 < got.length ∧ 256 < (got ++ p).length then of19 dir (got ++ p) false else []) ∧ At E [(0, .int .i64 dir), (1, .slice hd.A hd.n hd.k), (2, .slice A n k), (7, .bool true), (9, .pointer (some ⟨B, 0, none⟩)), (10, .slice A2 (ng + h.n) k2), (11, .int .i64 i), (13, .slice A3 n3 k3)] ∧ S = [srB B dir Ah nh kh (srAt got).off] ∧ T = [row 25 A3 n3 k3 (evsV xs), msgsR xs, own 5 1 A2 (ng + h.n) k2 (bytesV (got ++ p)), row 1 A2 (ng + h.n) k2 (bytesV (got ++ p)), row 1 h.A h.n h.k (bytesV p), row 1 Ah nh kh (bytesV (srAt got).held), row 1 hd.A hd.n hd.k (hdsV hs), pieceR hd b hs, row 1 A n k (boolsV q)]) ?_ ?_
      ·
       refine GC_cond rfl (fun h4 => ?_) (fun h4 => ?_)
       ·
        have hw : ¬ 256 < got.length ∧ 256 < (got ++ p).length := by have z := h4; simp at z; rw [hgl2, hgl]; omega
        refine GC_region ?_
        refine GL_v rfl (rv_mv (v := .int .i64 _) vw) ?_
        refine GL_v rfl (rv_mv (v := .slice _ _ _) vw) ?_
        refine GL_call rfl cb30 (rOf19_ct dir A2 (ng + h.n) k2 (got ++ p) false (by omega)) rfl .nil sb ?_
        rintro _ _ _ ⟨A3, n3, k3, xs, rfl, hx, rfl, rfl⟩
        simp only [List.cons_append, List.nil_append]
        refine GL_v rfl (rv_as (v := .slice _ _ _) vw) ?_
        refine GL_nil ?_
        show Weak _ _ _ _
        exact weak (.cons .here .nil) sb ⟨A3, n3, k3, xs, by rw [hx, if_pos hw], ⟨rfl, rfl, rfl, rfl, rfl, rfl, rfl, rfl, trivial⟩, rfl, rfl⟩
       ·
        have hw : ¬ (¬ 256 < got.length ∧ 256 < (got ++ p).length) := by have z := h4; simp at z; rw [hgl2, hgl]; omega
        refine GC_shift .nil msgs_nil ?_
        refine GC_shift .nil (nil_row (sz := 25)) ?_
        refine GC_skip ?_
        show Weak _ _ _ _
        exact weak (T' := [row 25 none 0 0 [], msgsR [], own 5 1 A2 (ng + h.n) k2 (bytesV (got ++ p)), row 1 A2 (ng + h.n) k2 (bytesV (got ++ p)), row 1 h.A h.n h.k (bytesV p), row 1 Ah nh kh (bytesV (srAt got).held), row 1 hd.A hd.n hd.k (hdsV hs), pieceR hd b hs, row 1 A n k (boolsV q)]) (.cons .here .nil) sb ⟨none, 0, 0, [], by rw [if_neg hw]; rfl, ⟨rfl, rfl, rfl, rfl, rfl, rfl, rfl, rfl, trivial⟩, rfl, rfl⟩
      ·
       rintro E S T ⟨S1, r1, T1, hS, hT, hM⟩
       refine GC_drop hS (GC_dropT hT ?_)
       clear hS hT
       revert hM
       rintro ⟨A3, n3, k3, xs, hxs, hE1, rfl, rfl⟩
       obtain ⟨E1, rfl⟩ := hE1.ex
       clear hE1
       refine GC_seq ?_
       refine GC_seq ?_
       refine GC_region ?_
       refine GL_v rfl (rv_mv (v := .pointer _) vw) ?_
       refine GL_v rfl (rv_mv (v := .slice _ _ _) vw) ?_
       refine GL_v rfl (rv_mv (v := .int .i64 _) vw) ?_
       refine GL_v rfl (rv_ix (i := i) el49 vw vw (fun _ => rfl) (fun _ => hlt) (fun _ => hA)) ?_
       refine GL_v rfl (rv_ldE (v := .slice h.A h.n h.k) Tryz.underlying22 rfl vw (fun _ => by rw [Nat.mul_one]; exact hat)) ?_
       refine GL_callA rfl cb32 (srFeed_ct B dir (srAt got).off Ah h.A nh kh h.n h.k (srAt got).held p hh256 (by omega)) rfl (.cons .here .nil) sb ?_
       rintro _ _ _ ⟨Av, nv, kv, ys, A5, n5, k5, rfl, hy, rfl, rfl⟩ hap
       have hz := (hap (own 5 1 A2 (ng + h.n) k2 (bytesV (got ++ p))) (by simp) (fun X hX => by rw [List.mem_singleton.1 hX]; exact z2 _ (by simp)) (fun X hX => by
        simp only [List.mem_cons, List.not_mem_nil, or_false] at hX
        rcases hX with rfl | rfl
        · exact z3 _ (by simp)
        · exact z3 _ (by simp))).2
       have hzS := z2 (srB B dir Ah nh kh (srAt got).off) (by simp)
       clear hap
       simp only [List.cons_append, List.nil_append] at hy hz ⊢
       rw [show (⟨(srAt got).held, (srAt got).off⟩ : Sr) = srAt got from rfl, srFeed_at dir] at hy hz ⊢
       simp only at hy hz ⊢
       have hylen : ys.length ≤ 1 := by
        have z := congrArg List.length hy
        rw [List.length_map] at z
        rw [z]; split
        · exact of19_len _ _ _
        · simp
       have hz5 := hz (row 1 A5 n5 k5 (bytesV (srAt (got ++ p)).held)) (by simp)
       clear hz
       refine GL_v rfl (rv_mv (v := .slice _ _ _) vw) ?_
       refine GL_callD rfl cb31 (AllEv_ct Av A3 nv kv n3 k3 ys xs (by omega)) rfl .nil sb ?_
       refine GL_v rfl (rv_not vw) ?_
       refine GL_nil ?_
       refine GC_cond rfl (fun h5 => ?_) (fun h5 => ?_)
       ·
        exact absurd (hy.trans hxs.symm) (by have z := h5; simpa using z)
       ·
        refine GC_dropT (T' := [row 1 A5 n5 k5 (bytesV (srAt (got ++ p)).held), own 5 1 A2 (ng + h.n) k2 (bytesV (got ++ p)), row 1 A2 (ng + h.n) k2 (bytesV (got ++ p)), row 1 hd.A hd.n hd.k (hdsV hs), pieceR hd b hs, row 1 A n k (boolsV q)]) sb ?_
        refine GC_row A5 fun hr5 => ?_
        have hl5 : ((srAt (got ++ p)).held.length : Int) = n5 := by have := hr5.1; simp [bytesV] at this; omega
        rw [srAt_len] at hl5
        refine GC_skip ?_
        refine GC_seq ?_
        refine GC_region ?_
        refine GL_v rfl (rv_mv (v := .slice _ _ _) vw) ?_
        refine GL_v rfl (rv_len el22 vw) ?_
        refine GL_v rfl (rv_as (v := .int .i64 _) vw) ?_
        refine GL_nil ?_
        refine GC_seq ?_
        refine GC_seq ?_
        refine GC_region ?_
        refine GL_v rfl (rv_mv (v := .int .i64 _) vw) ?_
        refine GL_v rfl (rv_gtr vw vw) ?_
        refine GL_nil ?_
        refine GC_cutM (fun E S T => ∃ w : Nat, (w : Int) = ((if 256 < (got ++ p).length then 0 else (got ++ p).length : Nat) : Int) ∧ At E [(0, .int .i64 dir), (1, .slice hd.A hd.n hd.k), (2, .slice A n k), (7, .bool true), (9, .pointer (some ⟨B, 0, none⟩)), (10, .slice A2 (ng + h.n) k2), (11, .int .i64 i), (14, .int .i64 w)] ∧ S = [srB B dir A5 n5 k5 (srAt (got ++ p)).off] ∧ T = [row 1 A5 n5 k5 (bytesV (srAt (got ++ p)).held), own 5 1 A2 (ng + h.n) k2 (bytesV (got ++ p)), row 1 A2 (ng + h.n) k2 (bytesV (got ++ p)), row 1 hd.A hd.n hd.k (hdsV hs), pieceR hd b hs, row 1 A n k (boolsV q)]) ?_ ?_
        ·
         refine GC_cond rfl (fun h6 => ?_) (fun h6 => ?_)
         ·
          have g : 256 < (got ++ p).length := by have z := h6; simp at z; omega
          refine GC_region ?_
          refine GL_v rfl (rv_as (v := .int .i64 _) vw) ?_
          refine GL_nil ?_
          show Weak _ _ _ _
          exact weak (.cons .here .nil) sb ⟨0, by rw [if_pos g], ⟨rfl, rfl, rfl, rfl, rfl, rfl, rfl, rfl, trivial⟩, rfl, rfl⟩
         ·
          have g : ¬ 256 < (got ++ p).length := by have z := h6; simp at z; omega
          refine GC_skip ?_
          show Weak _ _ _ _
          exact weak (.cons .here .nil) sb ⟨ng + h.n, by rw [if_neg g, hgl2], ⟨rfl, rfl, rfl, rfl, rfl, rfl, rfl, rfl, trivial⟩, rfl, rfl⟩
        ·
         rintro E S T ⟨S1, r1, T1, hS, hT, hM⟩
         refine GC_drop hS (GC_dropT hT ?_)
         clear hS hT
         revert hM
         rintro ⟨w, hw, hE2, rfl, rfl⟩
         obtain ⟨E2, rfl⟩ := hE2.ex
         clear hE2
         rw [hl5] at hw
         refine GC_seq ?_
         refine GC_seq ?_
         refine GC_region ?_
         refine GL_v rfl (rv_mv (v := .pointer _) vw) ?_
         refine GL_callD rfl cb33 (srHeld_ct B dir (srAt (got ++ p)).off A5 n5 k5) rfl (.cons .here .nil) .nil ?_
         refine GL_v rfl (rv_mv (v := .int .i64 _) vw) ?_
         refine GL_v rfl (rv_neq vw vw) ?_
         refine GL_nil ?_
         refine GC_cond rfl (fun h7 => ?_) (fun h7 => ?_)
         ·
          exact absurd hw.symm (by have z := h7; simpa using z)
         ·
          refine GC_skip ?_
          refine GC_seq ?_
          refine GC_seq ?_
          refine GC_region ?_
          refine GL_v rfl (rv_mv (v := .slice _ _ _) vw) ?_
          refine GL_v rfl (rv_mv (v := .int .i64 _) vw) ?_
          refine GL_v rfl (rv_ix (i := i) el26 vw vw (fun _ => rfl) (fun _ => by omega) (fun _ => hAq)) ?_
          refine GL_v rfl (rv_ldE (v := .bool (q[i]'(by omega))) Tryz.underlying4 rfl vw (fun _ => by rw [Nat.mul_one]; simp [boolsV, show i < q.length by omega])) ?_
          refine GL_v rfl (rv_not vw) ?_
          refine GL_nil ?_
          refine GC_cond rfl (fun h8 => ?_) (fun h8 => ?_)
          ·
           refine GC_thaw (T' := [row 1 A5 n5 k5 (bytesV (srAt (got ++ p)).held), row 1 hd.A hd.n hd.k (hdsV hs), pieceR hd b hs, row 1 A n k (boolsV q)]) (by simp) sb z1 (fun X hX => by rw [List.mem_singleton.1 hX]; exact apart_blk hzS) (fun X hX => by
            simp only [List.mem_cons, List.not_mem_nil, or_false] at hX
            rcases hX with rfl | rfl | rfl | rfl
            · exact hz5
            · exact z3 _ (by simp)
            · exact z3 _ (by simp)
            · exact z3 _ (by simp)) ?_
           refine GC_exit ?_
           show Weak _ _ _ _
           exact weak (.cons .here (.cons .here .nil)) sb ⟨got ++ p, A2, ng + h.n, k2, A5, n5, k5, hgl2, by omega, ⟨rfl, rfl, rfl, rfl, rfl, rfl, rfl, trivial⟩, rfl, rfl⟩
          ·
           refine GC_skip ?_
           refine GC_seq ?_
           refine GC_region ?_
           refine GL_v rfl (rv_as (v := .slice _ _ _) vw) ?_
           refine GL_nil ?_
           refine GC_seq ?_
           refine GC_seq ?_
           refine GC_region ?_
           refine GL_v rfl (rv_mv (v := .slice _ _ _) vw) ?_
           refine GL_v rfl (rv_len el22 vw) ?_
           refine GL_v rfl (rv_leq vw vw) ?_
           refine GL_nil ?_
           refine GC_cutM (fun E S T => ∃ A6 n6 k6 xs2, xs2.map EvX.d = (if 256 < (got ++ p).length then [] else of19 dir (got ++ p) true) ∧ At E [(0, .int .i64 dir), (1, .slice hd.A hd.n hd.k), (2, .slice A n k), (7, .bool true), (9, .pointer (some ⟨B, 0, none⟩)), (10, .slice A2 (ng + h.n) k2), (11, .int .i64 i), (13, .slice A6 n6 k6)] ∧ S = [srB B dir A5 n5 k5 (srAt (got ++ p)).off] ∧ T = [row 25 A6 n6 k6 (evsV xs2), msgsR xs2, row 1 A5 n5 k5 (bytesV (srAt (got ++ p)).held), own 5 1 A2 (ng + h.n) k2 (bytesV (got ++ p)), row 1 A2 (ng + h.n) k2 (bytesV (got ++ p)), row 1 hd.A hd.n hd.k (hdsV hs), pieceR hd b hs, row 1 A n k (boolsV q)]) ?_ ?_
           ·
            refine GC_cond rfl (fun h9 => ?_) (fun h9 => ?_)
            ·
             have g : ¬ 256 < (got ++ p).length := by have z := h9; simp at z; omega
             refine GC_region ?_
             refine GL_v rfl (rv_mv (v := .int .i64 _) vw) ?_
             refine GL_v rfl (rv_mv (v := .slice _ _ _) vw) ?_
             refine GL_call rfl cb30 (rOf19_ct dir A2 (ng + h.n) k2 (got ++ p) true (by omega)) rfl .nil sb ?_
             rintro _ _ _ ⟨A6, n6, k6, xs2, rfl, hx2, rfl, rfl⟩
             simp only [List.cons_append, List.nil_append]
             refine GL_v rfl (rv_as (v := .slice _ _ _) vw) ?_
             refine GL_nil ?_
             show Weak _ _ _ _
             exact weak (.cons .here .nil) sb ⟨A6, n6, k6, xs2, by rw [hx2, if_neg g], ⟨rfl, rfl, rfl, rfl, rfl, rfl, rfl, rfl, trivial⟩, rfl, rfl⟩
            ·
             have g : 256 < (got ++ p).length := by have z := h9; simp at z; omega
             refine GC_shift .nil msgs_nil ?_
             refine GC_shift .nil (nil_row (sz := 25)) ?_
             refine GC_skip ?_
             show Weak _ _ _ _
             exact weak (T' := [row 25 none 0 0 [], msgsR [], row 1 A5 n5 k5 (bytesV (srAt (got ++ p)).held), own 5 1 A2 (ng + h.n) k2 (bytesV (got ++ p)), row 1 A2 (ng + h.n) k2 (bytesV (got ++ p)), row 1 hd.A hd.n hd.k (hdsV hs), pieceR hd b hs, row 1 A n k (boolsV q)]) (.cons .here .nil) sb ⟨none, 0, 0, [], by rw [if_pos g]; rfl, ⟨rfl, rfl, rfl, rfl, rfl, rfl, rfl, rfl, trivial⟩, rfl, rfl⟩
           ·
            rintro E S T ⟨S1, r1, T1, hS, hT, hM⟩
            refine GC_drop hS (GC_dropT hT ?_)
            clear hS hT
            revert hM
            rintro ⟨A6, n6, k6, xs2, hx2, hE3, rfl, rfl⟩
            obtain ⟨E3, rfl⟩ := hE3.ex
            clear hE3
            refine GC_seq ?_
            refine GC_seq ?_
            refine GC_region ?_
            refine GL_v rfl (rv_mv (v := .pointer _) vw) ?_
            refine GL_call rfl cb34 (srTick_ct B dir (srAt (got ++ p)).off A5 n5 k5 (srAt (got ++ p)).held (by have := srAt_len (got ++ p); split at hl5 <;> omega)) rfl (.cons .here .nil) sb ?_
            rintro _ _ _ ⟨A7, n7, k7, zs, A8, n8, k8, rfl, hzs, rfl, rfl⟩
            simp only [List.cons_append, List.nil_append]
            rw [show (⟨(srAt (got ++ p)).held, (srAt (got ++ p)).off⟩ : Sr) = srAt (got ++ p) from rfl, srTick_at] at hzs ⊢
            simp only at hzs ⊢
            refine GL_row A8 fun hr8 => ?_
            have hn8 : n8 = 0 := by have := hr8.1; simp [bytesV, srAt] at this; omega
            subst hn8
            have hzlen : zs.length ≤ 1 := by
             have z := congrArg List.length hzs
             rw [List.length_map] at z
             rw [z]; split
             · simp
             · exact of19_len _ _ _
            refine GL_v rfl (rv_mv (v := .slice _ _ _) vw) ?_
            refine GL_callD rfl cb31 (AllEv_ct A7 A6 n7 k7 n6 k6 zs xs2 (by omega)) rfl .nil sb ?_
            refine GL_v rfl (rv_not vw) ?_
            refine GL_v rfl (rv_mv (v := .bool _) vw) ?_
            refine GL_g rfl rfl gvf (rv_mv (v := .pointer _) vw) ?_
            refine GL_callG2 rfl rfl gvf cb33 (fun _ => srHeld_ct B dir (srAt []).off A8 0 k8) (fun q => by show [gd _ _] = _; rw [vwg q]) (.cons .here .nil) (fun _ => .nil) ?_
            refine GL_g rfl rfl gvf (rv_neq vwg vw) ?_
            refine GL_v rfl (rv_or vw vwg) ?_
            refine GL_nil ?_
            refine GC_cond rfl (fun h10 => ?_) (fun h10 => ?_)
            ·
             exact absurd h10 (by rw [hzs, hx2]; simp)
            ·
             refine GC_skip ?_
             refine GC_region ?_
             refine GL_v rfl (rv_as (v := .slice _ _ _) vw) ?_
             refine GL_shift .nil (nil_own (t := 5) (sz := 1)) ?_
             refine GL_nil ?_
             show Weak _ _ _ _
             exact weak (T' := [row 1 A8 0 k8 (bytesV (srAt []).held), row 1 hd.A hd.n hd.k (hdsV hs), pieceR hd b hs, row 1 A n k (boolsV q)]) (.cons .here (.cons .here .nil)) sb ⟨[], none, 0, 0, A8, 0, k8, rfl, Nat.zero_le _, ⟨rfl, rfl, rfl, rfl, rfl, rfl, rfl, trivial⟩, rfl, rfl⟩
     ·
      rintro E S T ⟨S1, r1, T1, hS, hT, hM⟩
      refine GC_drop hS (GC_dropT hT ?_)
      clear hS hT
      revert hM
      rintro ⟨g1, Ag1, ng1, kg1, Ah1, nh1, kh1, hg1, hg2, hE4, rfl, rfl⟩
      obtain ⟨E4, rfl⟩ := hE4.ex
      clear hE4
      refine GC_region ?_
      refine GL_v rfl (rv_mv (v := .int .i64 _) vw) ?_
      refine GL_v rfl (rv_add (r := ((i + 1 : Nat) : Int)) vw vw (fun _ => by rw [IntWalk.i64_in _ (by omega)]; omega)) ?_
      refine GL_v rfl (rv_as (v := .int .i64 _) vw) ?_
      refine GL_nil ?_
      exact ⟨i + 1, ⟨by omega, g1, Ag1, ng1, kg1, Ah1, nh1, kh1, hg1, hg2, ⟨rfl, rfl, rfl, rfl, rfl, rfl, rfl, trivial⟩, rfl, rfl⟩, by omega⟩
    ·
     refine GC_exit ?_
     refine GC_seq ?_
     refine GC_region ?_
     refine GL_v rfl (rv_mv (v := .bool _) vw) ?_
     refine GL_v rfl (rv_as (v := .bool _) vw) ?_
     refine GL_nil ?_
     refine GC_ret ?_
     exact fin1 (.inr rfl) rfl rfl .nil (T' := []) .nil rfl
theorem SrtuTells0_ct (haw : CtD PG 27 [] [] [] (.bool true) [] []) (dir : Int) (hdir : dir ≠ 0 ∧ dir ≠ 1) (hd : Hd) (b : List (List UInt8)) (hs : List Hd) (hb : b.length ≤ 1048576) (hl : ∀ p ∈ b, p.length ≤ 1048576) (A : Option Addr) (n k : Nat) (q : List Bool) : Ct PG 7 [.int .i64 dir, .slice hd.A hd.n hd.k, .slice A n k] [] [pieceR hd b hs, row 1 A n k (boolsV q)] (fun v _ _ => v = .bool true) := by
 refine Ct_of Tryz.func7 rfl 107 rfl (Nat.le_of_ble_eq_true rfl) fun w0 M N => ?_
 refine GC_seq ?_
 refine GC_region ?_
 refine GL_v rfl (rv_as (v := .bool _) vw) ?_
 refine GL_nil ?_
 refine GC_seq ?_
 refine GC_region ?_
 refine GL_callD rfl cb27 haw rfl .nil .nil ?_
 refine GL_v rfl (rv_as (v := .bool _) vw) ?_
 refine GL_nil ?_
 refine GC_seq ?_
 refine GC_region ?_
 refine GL_v rfl (rv_mv (v := .slice _ _ _) vw) ?_
 refine GL_callD rfl cb28 (FewP_ct hd b hs hb hl) rfl .nil (.cons (List.mem_cons_self ..) .nil) ?_
 refine GL_v rfl (rv_as (v := .bool _) vw) ?_
 refine GL_nil ?_
 refine GC_seq ?_
 refine GC_seq ?_
 refine GC_region ?_
 refine GL_v rfl (rv_mv (v := .bool _) vw) ?_
 refine GL_v rfl (rv_not vw) ?_
 refine GL_v rfl (rv_mv (v := .bool _) vw) ?_
 refine GL_g rfl rfl gvf (rv_mv (v := .slice _ _ _) vw) ?_
 refine GL_g rfl rfl gvf (rv_len el26 vwg) ?_
 refine GL_g rfl rfl gvf (rv_mv (v := .slice _ _ _) vw) ?_
 refine GL_g rfl rfl gvf (rv_len el49 vwg) ?_
 refine GL_g rfl rfl gvf (rv_lss vwg vwg) ?_
 refine GL_v rfl (rv_or vw vwg) ?_
 refine GL_nil ?_
 refine GC_cond rfl (fun h0 => ?_) (fun h0 => ?_)
 ·
  refine GC_seq ?_
  refine GC_region ?_
  refine GL_v rfl (rv_mv (v := .bool _) vw) ?_
  refine GL_v rfl (rv_as (v := .bool _) vw) ?_
  refine GL_nil ?_
  refine GC_ret ?_
  exact fin1 (.inr rfl) rfl rfl .nil (T' := []) .nil rfl
 ·
  refine GC_skip ?_
  refine GC_seq ?_
  refine GC_region ?_
  refine GL_v rfl (rv_mv (v := .int .i64 _) vw) ?_
  refine GL_callD rfl cb29 (srNew0_ct dir hdir) rfl .nil .nil ?_
  refine GL_v rfl (rv_as (v := .pointer _) vw) ?_
  refine GL_nil ?_
  refine GC_seq ?_
  refine GC_seq ?_
  refine GC_region ?_
  refine GL_v rfl (rv_mv (v := .int .i64 _) vw) ?_
  refine GL_v rfl (rv_neq vw vw) ?_
  refine GL_v rfl (rv_mv (v := .bool _) vw) ?_
  refine GL_g rfl rfl gvt (rv_mv (v := .int .i64 _) vw) ?_
  refine GL_g rfl rfl gvt (rv_neq vwg vw) ?_
  refine GL_v rfl (rv_and vw vwg) ?_
  refine GL_nil ?_
  refine GC_cond rfl (fun h1 => ?_) (fun h1 => ?_)
  ·
   refine GC_seq ?_
   refine GC_region ?_
   refine GL_v rfl (rv_mv (v := .bool _) vw) ?_
   refine GL_v rfl (rv_mv (v := .bool _) vw) ?_
   refine GL_g rfl rfl gvt (rv_mv (v := .pointer _) vw) ?_
   refine GL_g rfl rfl gvt (rv_eqPt Tryz.underlying51 vwg) ?_
   refine GL_v rfl (rv_and vw vwg) ?_
   refine GL_v rfl (rv_as (v := .bool _) vw) ?_
   refine GL_nil ?_
   refine GC_ret ?_
   exact fin1 (.inr rfl) rfl rfl .nil (T' := []) .nil rfl
  ·
   exact absurd hdir (by have := h1; simpa using this)
theorem awake19_ct : CtD PG 27 [] [] [] (.bool true) [] [] := by
 refine Ct_of Tryz.func27 rfl 62 rfl (Nat.le_of_ble_eq_true rfl) fun w0 M N => ?_
 refine GC_seq ?_
 refine GC_region ?_
 refine GL_v rfl (rv_as (v := .bool _) vw) ?_
 refine GL_nil ?_
 refine GC_seq ?_
 refine GC_region ?_
 refine GL_call rfl cb29 (srNew1_ct 0 (by decide)) rfl .nil .nil ?_
 rintro _ _ _ ⟨B, rfl, rfl, rfl⟩
 simp only [List.cons_append, List.nil_append]
 refine GL_v rfl (rv_as (v := .pointer _) vw) ?_
 refine GL_nil ?_
 refine GC_seq ?_
 refine GC_seq ?_
 refine GC_region ?_
 refine GL_v rfl (rv_mv (v := .pointer _) vw) ?_
 refine GL_v rfl (rv_eqPt Tryz.underlying51 vw) ?_
 refine GL_nil ?_
 refine GC_cond rfl (fun h0 => ?_) (fun h0 => ?_)
 ·
  exact absurd h0 (by simp)
 ·
  refine GC_skip ?_
  refine GC_seq ?_
  refine GC_region ?_
  refine GL_v rfl (rv_mv (v := .pointer _) vw) ?_
  refine GL_bs (l := bytesV [1, 7]) rfl el22 z5 rfl rfl rfl (fun b10 => ?_)
  refine GL_shift (.cons .here .nil) (blk_own (n := 2) (sz := 1) rfl (by decide)) ?_
  refine GL_shift (.cons .here .nil) own_toRow ?_
  refine GL_shift .nil (nil_row (sz := 1)) ?_
  refine GL_call rfl cb32 (srFeed_ct B 0 false none _ 0 0 2 2 [] [1, 7] (by decide) (by decide)) rfl (.cons .here .nil) (.cons (.head _) (.cons (.tail _ (.head _)) .nil)) ?_
  rintro _ _ _ ⟨Av, nv, kv, xs, A1, n1, k1, rfl, hx, rfl, rfl⟩
  simp only [List.cons_append, List.nil_append]
  rw [show srFeed ⟨[], false⟩ [1, 7] = ([], ⟨[1, 7], false⟩) by decide +kernel] at hx ⊢
  simp only [List.map_eq_nil_iff] at hx ⊢
  subst hx
  refine GL_row Av fun hr => ?_
  have hnv : nv = 0 := by have := hr.1; simp [evsV] at this; omega
  subst hnv
  refine GL_row A1 fun hr1 => ?_
  have hn1 : n1 = 2 := by have := hr1.1; simp [bytesV] at this; omega
  subst hn1
  refine GL_dropT (T' := [row 1 A1 2 k1 (bytesV [1, 7])]) sb ?_
  refine GL_v rfl (rv_as (v := .slice _ _ _) vw) ?_
  refine GL_nil ?_
  refine GC_seq ?_
  refine GC_region ?_
  refine GL_v rfl (rv_mv (v := .pointer _) vw) ?_
  refine GL_bs (l := bytesV [65, 226]) rfl el22 z5 rfl rfl rfl (fun b13 => ?_)
  refine GL_shift (.cons .here .nil) (blk_own (n := 2) (sz := 1) rfl (by decide)) ?_
  refine GL_shift (.cons .here .nil) own_toRow ?_
  refine GL_call rfl cb32 (srFeed_ct B 0 false A1 _ 2 k1 2 2 [1, 7] [65, 226] (by decide) (by decide)) rfl (.cons .here .nil) sb ?_
  rintro _ _ _ ⟨Aw, nw, kw, ys, A2, n2, k2, rfl, hy, rfl, rfl⟩
  simp only [List.cons_append, List.nil_append]
  rw [show srFeed ⟨[1, 7], false⟩ [65, 226] = ([], ⟨[1, 7, 65, 226], false⟩) by decide +kernel] at hy ⊢
  simp only [List.map_eq_nil_iff] at hy ⊢
  subst hy
  refine GL_row Aw fun hr => ?_
  have hnw : nw = 0 := by have := hr.1; simp [evsV] at this; omega
  subst hnw
  refine GL_row A2 fun hr2 => ?_
  have hn2 : n2 = 4 := by have := hr2.1; simp [bytesV] at this; omega
  subst hn2
  refine GL_dropT (T' := [row 1 A2 4 k2 (bytesV [1, 7, 65, 226])]) sb ?_
  refine GL_v rfl (rv_as (v := .slice _ _ _) vw) ?_
  refine GL_nil ?_
  refine GC_seq ?_
  refine GC_region ?_
  refine GL_v rfl (rv_mv (v := .pointer _) vw) ?_
  refine GL_callD rfl cb33 (srHeld_ct B 0 false A2 4 k2) rfl (.cons .here .nil) .nil ?_
  refine GL_v rfl (rv_as (v := .int .i64 _) vw) ?_
  refine GL_nil ?_
  refine GC_seq ?_
  refine GC_region ?_
  refine GL_v rfl (rv_mv (v := .pointer _) vw) ?_
  refine GL_call rfl cb34 (srTick_ct B 0 false A2 4 k2 [1, 7, 65, 226] (by decide)) rfl (.cons .here .nil) sb ?_
  rintro _ _ _ ⟨Ae, ne, ke, zs, A3, n3, k3, rfl, hz, rfl, rfl⟩
  simp only [List.cons_append, List.nil_append]
  rw [show srTick 0 ⟨[1, 7, 65, 226], false⟩ = ([⟨0, ⟨1, 0, { code := 7 }⟩⟩], ⟨[], false⟩) by decide +kernel] at hz ⊢
  simp only [List.map_eq_singleton_iff] at hz ⊢
  obtain ⟨y, rfl, hy⟩ := hz
  simp only [EvX.d, EventD.mk.injEq, FrameD.mk.injEq] at hy
  obtain ⟨hy1, hy2, hy3, hy4⟩ := hy
  refine GL_row A3 fun hr3 => ?_
  have hn3 : n3 = 0 := by have := hr3.1; simp [bytesV] at this; omega
  subst hn3
  refine GL_row Ae fun hre => ?_
  have hne : ne = 1 := by have := hre.1; rw [evsV_len] at this; simp at this; omega
  subst hne
  have hAe : Ae ≠ none := hre.2.2.2.2 (by decide) (by decide)
  refine GL_dropT (T' := [row 25 Ae 1 ke (evsV [y])]) sb ?_
  refine GL_v rfl (rv_as (v := .slice _ _ _) vw) ?_
  refine GL_nil ?_
  refine GC_seq ?_
  refine GC_seq ?_
  refine GC_region ?_
  refine GL_v rfl (rv_mv (v := .slice _ _ _) vw) ?_
  refine GL_v rfl (rv_len el53 vw) ?_
  refine GL_v rfl (rv_neq vw vw) ?_
  refine GL_nil ?_
  refine GC_cond rfl (fun h1 => ?_) (fun h1 => ?_)
  ·
   exact absurd h1 (by simp)
  ·
   refine GC_skip ?_
   refine GC_seq ?_
   refine GC_region ?_
   refine GL_v rfl (rv_mv (v := .slice _ _ _) vw) ?_
   refine GL_v rfl (rv_len el53 vw) ?_
   refine GL_v rfl (rv_mv (v := .slice _ _ _) vw) ?_
   refine GL_v rfl (rv_len el53 vw) ?_
   refine GL_v rfl (rv_add vw vw (fun _ => rfl)) ?_
   refine GL_v rfl (rv_eql vw vw) ?_
   refine GL_v rfl (rv_mv (v := .bool _) vw) ?_
   refine GL_g rfl rfl gvt (rv_mv (v := .int .i64 _) vw) ?_
   refine GL_g rfl rfl gvt (rv_eql vwg vw) ?_
   refine GL_v rfl (rv_and vw vwg) ?_
   refine GL_v rfl (rv_mv (v := .bool _) vw) ?_
   refine GL_g rfl rfl gvt (rv_mv (v := .slice _ _ _) vw) ?_
   refine GL_g rfl rfl gvt (rv_ix (i := 0) el53 vwg vw (fun _ => rfl) (fun _ => by decide) (fun _ => hAe)) ?_
   refine GL_g rfl rfl gvt (rv_faE fa89_0 vwg) ?_
   refine GL_g rfl rfl gvt (rv_ldE (v := .int .i64 y.e) Tryz.underlying2 rfl vwg (fun _ => rfl)) ?_
   refine GL_g rfl rfl gvt (rv_eql vwg vw) ?_
   refine GL_v rfl (rv_and vw vwg) ?_
   refine GL_v rfl (rv_mv (v := .bool _) vw) ?_
   refine GL_g rfl rfl gvt (rv_mv (v := .slice _ _ _) vw) ?_
   refine GL_g rfl rfl gvt (rv_ix (i := 0) el53 vwg vw (fun _ => rfl) (fun _ => by decide) (fun _ => hAe)) ?_
   refine GL_g rfl rfl gvt (rv_faE fa89_1 vwg) ?_
   refine GL_g rfl rfl gvt (rv_faE fa44_0 vwg) ?_
   refine GL_g rfl rfl gvt (rv_faE fa42_0 vwg) ?_
   refine GL_g rfl rfl gvt (rv_ldE (v := b8 y.u) Tryz.underlying5 rfl vwg (fun _ => rfl)) ?_
   refine GL_g rfl rfl gvt (rv_eql vwg vw) ?_
   refine GL_v rfl (rv_and vw vwg) ?_
   refine GL_v rfl (rv_mv (v := .bool _) vw) ?_
   refine GL_g rfl rfl gvt (rv_mv (v := .slice _ _ _) vw) ?_
   refine GL_g rfl rfl gvt (rv_ix (i := 0) el53 vwg vw (fun _ => rfl) (fun _ => by decide) (fun _ => hAe)) ?_
   refine GL_g rfl rfl gvt (rv_faE fa89_1 vwg) ?_
   refine GL_g rfl rfl gvt (rv_faE fa44_1 vwg) ?_
   refine GL_g rfl rfl gvt (rv_faE fa30_0 vwg) ?_
   refine GL_g rfl rfl gvt (rv_ldE (v := b8 y.x.m.code) Tryz.underlying5 rfl vwg (fun _ => rfl)) ?_
   refine GL_g rfl rfl gvt (rv_eql vwg vw) ?_
   refine GL_v rfl (rv_and vw vwg) ?_
   refine GL_v rfl (rv_mv (v := .bool _) vw) ?_
   refine GL_g rfl rfl gvt (rv_mv (v := .pointer _) vw) ?_
   refine GL_callG2 rfl rfl gvt cb33 (fun _ => srHeld_ct B 0 false A3 0 k3) (fun q => by show [gd _ _] = _; rw [vwg q]) (.cons .here .nil) (fun _ => .nil) ?_
   refine GL_g rfl rfl gvt (rv_eql vwg vw) ?_
   refine GL_v rfl (rv_and vw vwg) ?_
   refine GL_v rfl (rv_as (v := .bool _) vw) ?_
   refine GL_nil ?_
   rw [hy1, hy2, hy4]
   refine GC_ret ?_
   exact fin1 (v := .bool true) (.inr rfl) rfl rfl .nil .nil ⟨rfl, rfl, rfl⟩
theorem SrtuTells_ct (dir : Int) (hd : Hd) (b : List (List UInt8)) (hs : List Hd) (hb : b.length ≤ 1048576) (hl : ∀ p ∈ b, p.length ≤ 1048576) (A : Option Addr) (n k : Nat) (q : List Bool) : Ct PG 7 [.int .i64 dir, .slice hd.A hd.n hd.k, .slice A n k] [] [pieceR hd b hs, row 1 A n k (boolsV q)] (fun v _ _ => v = .bool true) := by
 by_cases h : dir ≠ 0 ∧ dir ≠ 1
 · exact SrtuTells0_ct awake19_ct dir h hd b hs hb hl A n k q
 · exact SrtuTells1_ct awake19_ct dir h hd b hs hb hl A n k q
end Go.Bus
