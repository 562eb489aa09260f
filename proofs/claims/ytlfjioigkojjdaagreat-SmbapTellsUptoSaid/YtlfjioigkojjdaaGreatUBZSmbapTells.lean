/- The law. No condition. -/
import Derived.Test.YtlfjioigkojjdaaGreatRows
import Derived.Test.YtlfjioigkojjdaaGreatUBOpenp
import Derived.JoinedCond
import Derived.Test.YtlfjioigkojjdaaGreatUBLaw21
namespace Go.Proofs.YtlfjioigkojjdaaGreat.lawSmbapTells
open Go.ChangeShapes Go.WideShapes Go.ChangeAt Go.RowKit Go.Bus
set_option linter.unusedVariables false
set_option linter.unusedSimpArgs false
theorem own : ownKnob Tryz.prog.godebug = none := by kernel_rfl
theorem laidOut : laidOutB Tryz.prog = true := by kernel_rfl
theorem bulk_pos {H : Type} (d : DataW H) : 1 ≤ Rows.uptoBulk d := by
 cases d with
 | lit l => cases l <;> simp [Rows.uptoBulk]
 | _ => simp [Rows.uptoBulk]
theorem bulk_len {H : Type} : ∀ L : List (DataW H), L.length ≤ Rows.uptoBulkAll L
 | [] => Nat.zero_le _
 | d :: L => by have h1 := bulk_pos d; have h2 := bulk_len L; simp only [Rows.uptoBulkAll, List.length_cons]; omega
theorem bulk_mem {H : Type} {d : DataW H} : ∀ {L : List (DataW H)}, d ∈ L → Rows.uptoBulk d ≤ Rows.uptoBulkAll L
 | [], h => by cases h
 | e :: L, h => by
  simp only [Rows.uptoBulkAll]
  rcases List.mem_cons.1 h with rfl | h
  · omega
  · have := bulk_mem h; omega
theorem szd_le {H : Type} {d : DataW H} {n : Nat} (h : Szd d n) : n ≤ Rows.uptoBulk d := by
 rcases h with ⟨_, h⟩ | ⟨D, sp, h⟩
 · omega
 · have h2 := bulk_len ((List.range n).map D)
   rw [h]; simp only [Rows.uptoBulk]
   simp only [List.length_map, List.length_range] at h2
   omega
theorem pieces_le {H : Type} {d : DataW H} {b : List (List UInt8)} (h : b = [] ∨ ∃ D sp, d = .slice ((List.range b.length).map D) sp ∧ ∀ i (hi : i < b.length), Szd (D i) (b[i]'hi).length) (hk : Rows.uptoBulk d ≤ 1048576) : b.length ≤ 1048576 ∧ ∀ p ∈ b, p.length ≤ 1048576 := by
 rcases h with rfl | ⟨D, sp, h1, h2⟩
 · exact ⟨by simp, fun p hp => by cases hp⟩
 · have h3 := bulk_len ((List.range b.length).map D)
   simp only [List.length_map, List.length_range] at h3
   rw [h1] at hk; simp only [Rows.uptoBulk] at hk
   refine ⟨by omega, fun p hp => ?_⟩
   obtain ⟨i, hi, rfl⟩ := List.getElem_of_mem hp
   have h4 := szd_le (h2 i hi)
   have h5 := bulk_mem (d := D i) (L := (List.range b.length).map D) (List.mem_map.2 ⟨i, List.mem_range.2 hi, rfl⟩)
   omega
set_option maxRecDepth 100000 in
set_option maxHeartbeats 1000000 in
theorem lifted (os : Os) (started : os.Started) (H : Type) (enc : TypeId × Value → H) (F : Stop.Interp) :
 ReturnsInHanded {} Tryz.checked os 8 .any ((Rows.OpenSpec.upto Rows.smbapTellsSpec).pre6 enc Tryz.prog Tryz.f8 Rows.smbapTellsUptoRow.domain false) (((Rows.OpenSpec.upto Rows.smbapTellsSpec).at F).post enc Tryz.prog Tryz.f8 false true false false) := by
 refine returnsInHanded_of_cond (C := Tryz.checked) (s := (Rows.OpenSpec.upto Rows.smbapTellsSpec)) (k := Rows.uptoSmall) rfl own started (by kernel_rfl) Tryz.func8
  (OpenSpec.witness (enc := enc) (C := Tryz.checked) (s := (Rows.OpenSpec.upto Rows.smbapTellsSpec)) (k := Rows.uptoSmall) rfl false ⟨#[], #[.int .i64 0, .slice none 0 0], []⟩ 8 (by kernel_rfl) (by kernel_rfl) (by kernel_rfl)
   (x := ([.lit (.int .i64 0), .nil], [], [])) (by kernel_rfl) (by kernel_rfl) (by kernel_rfl)) ?_
 intro W base args ds gs before hval0 hW hcnd hk _
 have hval : ∀ (j : Nat) t v, Tryz.f8.params[j]? = some t → args[j]? = some v → Value.okWide Tryz.prog W .any base t v := hval0
 have hW' := hW
 obtain ⟨p, q, hA0, hV, rfl, hfz, hnd⟩ := hW
 have hA : DataW.TrodAll enc Tryz.prog W 0 (fun _ => true) true Tryz.f8.params.toList args.toList ds p := hA0
 rw [Tryz.params8] at hA hval
 obtain ⟨v0, vs0, d0, ds0, p0, q0, hargs, rfl, rfl, h0, r0⟩ := trodAll_cons hA
 obtain ⟨v1, vs1, d1, ds1, p1, q1, rfl, rfl, rfl, h1, r1⟩ := trodAll_cons r0
 obtain ⟨rfl, rfl, rfl⟩ := trodAll_nil r1
 obtain rfl : args = #[v0, v1] := by cases args; simp_all
 obtain ⟨rfl, rfl⟩ := trodVars_none hV
 obtain ⟨a0, rfl, rfl, rfl, w0⟩ := open_int Tryz.underlying3 (hval 0 3 v0 rfl rfl) h0
 have k1 := h1
 have lt1 : ∀ x ∈ p1, x.block < W.heap.size := by obtain ⟨m, hm⟩ := k1; exact DataW.trod_lt m _ _ _ hm
 obtain ⟨aa1, len1, cap1, rfl⟩ := okWide_slice Tryz.underlying49 (hval 1 49 v1 rfl rfl)
 obtain ⟨fuel1, hf1⟩ := h1
 obtain ⟨hd1, b1, hs1, hx1, o1, oz1⟩ := openPieces hf1
 simp [Value.cells] at hx1
 obtain ⟨rfl, rfl, rfl⟩ := hx1
 have hsmall := pieces_le oz1 (by have z := of_decide_eq_true hk; simp only [List.append_nil, Rows.uptoBulkAll] at z; show Rows.uptoBulk d1 ≤ _; omega)
 clear hA0 hval0
 have hrun := law_calls (W := W) (SmbapTells_ct a0 hd1 b1 hs1 hsmall.1 hsmall.2) (by intro R hR; simp only [List.mem_cons, List.not_mem_nil, or_false] at hR; subst hR; exact o1)
 refine hrun.mono fun e W' ⟨he, bel⟩ => ?_
 subst he
 exact ⟨_, rfl, _, _, _, [], _, [], hW', trodAll_mk1 (shut_bool Tryz.underlying4 _), (trodAll_cons_mk (shut_int Tryz.underlying3 w0) (trodAll_cons_mk (Below.trod laidOut (by kernel_rfl) (of_decide_eq_true (by kernel_rfl)) k1 bel lt1) trodAll_mk0)), rfl, bel.frame _, fun h => by cases h⟩
theorem over : Rows.smbapTellsUptoRow.holds Tryz.pinned (Rows.OpenSpec.upto Rows.smbapTellsSpec) :=
 OpenClaim.holds_of_cond 8 Tryz.f8 rfl rfl rfl rfl rfl rfl rfl ⟨rfl, rfl, rfl, rfl, rfl⟩ rfl rfl rfl rfl rfl (by kernel_rfl) Tryz.func8 (by kernel_rfl)
  (of_decide_eq_true (by kernel_rfl)) (by unfold Func.isWrapper; first | (rw [if_pos (by decide +kernel)]; kernel_rfl) | (rw [if_neg (by decide +kernel)]; exact ⟨rfl, rfl⟩))
  (fun os started H enc _ F => lifted os started H enc F)
theorem proved : Rows.SmbapTellsUptoSaid := over
#print axioms proved
end Go.Proofs.YtlfjioigkojjdaaGreat.lawSmbapTells
