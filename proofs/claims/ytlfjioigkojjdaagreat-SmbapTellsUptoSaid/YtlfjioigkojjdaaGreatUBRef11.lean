/- Part of the proof: Ref11. No condition. -/
import Derived.Test.YtlfjioigkojjdaaGreatUBRef12
import Derived.Test.YtlfjioigkojjdaaGreatUBFileP
set_option linter.unusedVariables false
set_option linter.unusedSimpArgs false
set_option maxRecDepth 100000
set_option maxHeartbeats 8000000
namespace Go.Bus
open Go Go.Proofs
def Cu.good (c : Cu) : Prop := c.e = 0 → c.s = false
theorem good_need {c : Cu} {ok : Bool} {j : Int} (hj : j ≠ 0) (h : c.good) : (c.need ok j).good := fun h0 => h (needE_ok hj h0).1
theorem good_bytes {c : Cu} {n : Int} (h : c.good) : (c.bytes n).2.good := by
 unfold Cu.bytes; split
 · intro h0; have := (needE_ok (by decide) h0).2; cases this
 · exact h
theorem good_words {c : Cu} {n : Int} (h : c.good) : (c.words n).2.good := by
 unfold Cu.words; split
 · exact good_bytes h
 · exact good_bytes h
theorem good_byte {c : Cu} (h : c.good) : c.byte.2.good := good_bytes h
theorem good_word {c : Cu} (h : c.good) : c.word.2.good := good_words h
theorem good_head {c : Cu} (h : c.good) : (headS c).2.good :=
 good_need (by decide) (good_word (good_need (by decide) (good_word (good_need (by decide) (good_word (good_need (by decide) (good_byte h)))))))
def OneGood (one : Int → Cu → RecD × Cu × Int) : Prop := ∀ sum c, c.good → (one sum c).2.1.good
theorem askedF_good : OneGood askedF := fun sum c h => good_need (by decide) (good_head h)
theorem toldF_good : OneGood toldF := fun sum c h => good_words (good_need (by decide) (good_byte (good_need (by decide) (good_byte h))))
theorem writtenF_good : OneGood writtenF := fun sum c h => good_words (good_need (by decide) (good_head h))
theorem byte_short {c c' : Cu} {a : UInt8} (hs : c.s = false) (hl : 0 < c.r.length) (h : c.byte = (a, c')) : c'.s = false := by
 have h1 : (c.bytes 1).2 = c' := congrArg Prod.snd h
 rw [← h1]
 have hb : ¬ c.bad 1 = true := by unfold Cu.bad; simp [hs]; omega
 unfold Cu.bytes; rw [if_neg hb]; exact hs
theorem pos_ne (n : Nat) : decide ((0 : Int) < n) = !decide ((n : Int) = 0) := by
 by_cases h : n = 0
 · subst h; rfl
 · have h1 : (0 : Int) < n := by omega
   have h2 : ¬ (n : Int) = 0 := by omega
   rw [decide_eq_true h1, decide_eq_false h2]; rfl
theorem need_true {c c' : Cu} {j : Int} (h : c.need true j = c') : c' = c := by
 rw [← h]; show (⟨c.r, c.s, needE c.e true j⟩ : Cu) = c
 unfold needE; rw [if_neg (by simp)]
theorem rHead_ct (B n k p : Nat) (A : Option Addr) (l : List UInt8) (s : Bool) (e : Int) (hs : s = false) (hpos : 0 < (l.drop p).length) (hp : p ≤ n ∧ n ≤ 35184372088832) : Ct PG 176 [.pointer (some ⟨B, 0, none⟩)] [rcub B A n k p s e] [row 1 A n k (bytesV l)]
 (fun v S' T' => ∃ x p1 s1 e1, headS ⟨l.drop p, s, e⟩ = (x, ⟨l.drop p1, s1, e1⟩) ∧ (p1 ≤ n ∧ n ≤ 35184372088832) ∧ x.words = [] ∧ v = .agg (recCells x {}).toArray ∧ S' = [rcub B A n k p1 s1 e1] ∧ T' = []) := by
 refine Ct_of Tryz.func176 rfl 42 rfl (Nat.le_of_ble_eq_true rfl) fun w0 M N => ?_
 refine GC_seq ?_
 refine GC_region ?_
 refine GL_alloc rfl z76 (fun b2 => ?_)
 refine GL_nil ?_
 refine GC_seq ?_
 refine GC_region ?_
 refine GL_v rfl (rv_mv (v := .pointer _) vw) ?_
 refine GL_call rfl cb111 (rByte_k B n k p A l s e hp) rfl pB sR ?_
 rintro _ _ _ ⟨q, p1, s1, e1, hc1, hp1, rfl, rfl, rfl⟩
 simp only [List.cons_append, List.nil_append]
 have hs1 := byte_short hs hpos hc1
 simp only at hs1
 refine GL_v rfl (rv_as (v := b8 q) vw) ?_
 refine GL_nil ?_
 refine GC_seq ?_
 refine GC_region ?_
 refine GL_v rfl (rv_mv (v := .pointer _) vw) ?_
 refine GL_v rfl (rv_mv (v := .pointer _) vw) ?_
 refine GL_v rfl (rv_nil vw) ?_
 refine GL_v rfl (rv_fa fa113_2 vw) ?_
 refine GL_v rfl (rv_ld Tryz.underlying4 rfl vw) ?_
 refine GL_v rfl (rv_not vw) ?_
 refine GL_call rfl cb112 (rNeed_k B n k p1 A l s1 e1 (!s1) 5) rfl pB .nil ?_
 rintro _ _ _ ⟨e2, hc2, rfl, rfl, rfl⟩
 simp only [List.cons_append, List.nil_append]
 have he2 : e2 = e1 := by
  rw [hs1] at hc2
  exact congrArg Cu.e (need_true hc2)
 refine GL_nil ?_
 refine GC_seq ?_
 refine GC_region ?_
 refine GL_v rfl (rv_mv (v := .pointer _) vw) ?_
 refine GL_v rfl (rv_mv (v := b8 q) vw) ?_
 refine GL_v rfl (rv_eql vw vw) ?_
 refine GL_call rfl cb112 (rNeed_k B n k p1 A l s1 e2 (decide ((q.toNat : Int) = 6)) 9) rfl pB .nil ?_
 rintro _ _ _ ⟨e3, hc3, rfl, rfl, rfl⟩
 simp only [List.cons_append, List.nil_append]
 rw [he2] at hc3
 refine GL_nil ?_
 refine GC_seq ?_
 refine GC_region ?_
 refine GL_v rfl (rv_mv (v := .pointer _) vw) ?_
 refine GL_call rfl cb114 (rWord_k B n k p1 A l s1 e3 hp1) rfl pB sR ?_
 rintro _ _ _ ⟨f, p4, s4, e4, hc4, hp4, rfl, rfl, rfl⟩
 simp only [List.cons_append, List.nil_append]
 refine GL_v rfl (rv_as (v := w16 f) vw) ?_
 refine GL_nil ?_
 refine GC_seq ?_
 refine GC_region ?_
 refine GL_v rfl (rv_mv (v := .pointer _) vw) ?_
 refine GL_v rfl (rv_mv (v := w16 f) vw) ?_
 refine GL_v rfl (rv_gtr vw vw) ?_
 refine GL_call rfl cb112 (rNeed_k B n k p4 A l s4 e4 (decide ((0 : Int) < f.toNat)) 6) rfl pB .nil ?_
 rintro _ _ _ ⟨e5, hc5, rfl, rfl, rfl⟩
 simp only [List.cons_append, List.nil_append]
 rw [pos_ne] at hc5
 refine GL_nil ?_
 refine GC_seq ?_
 refine GC_region ?_
 refine GL_v rfl (rv_mv (v := .pointer _) vw) ?_
 refine GL_call rfl cb114 (rWord_k B n k p4 A l s4 e5 hp4) rfl pB sR ?_
 rintro _ _ _ ⟨r, p6, s6, e6, hc6, hp6, rfl, rfl, rfl⟩
 simp only [List.cons_append, List.nil_append]
 refine GL_v rfl (rv_as (v := w16 r) vw) ?_
 refine GL_nil ?_
 refine GC_seq ?_
 refine GC_region ?_
 refine GL_v rfl (rv_mv (v := .pointer _) vw) ?_
 refine GL_v rfl (rv_mv (v := w16 r) vw) ?_
 refine GL_v rfl (rv_leq vw vw) ?_
 refine GL_call rfl cb112 (rNeed_k B n k p6 A l s6 e6 (decide ((r.toNat : Int) ≤ 9999)) 7) rfl pB .nil ?_
 rintro _ _ _ ⟨e7, hc7, rfl, rfl, rfl⟩
 simp only [List.cons_append, List.nil_append]
 refine GL_nil ?_
 refine GC_seq ?_
 refine GC_region ?_
 refine GL_v rfl (rv_mv (v := .pointer _) vw) ?_
 refine GL_call rfl cb114 (rWord_k B n k p6 A l s6 e7 hp6) rfl pB sR ?_
 rintro _ _ _ ⟨m, p8, s8, e8, hc8, hp8, rfl, rfl, rfl⟩
 simp only [List.cons_append, List.nil_append]
 refine GL_v rfl (rv_as (v := w16 m) vw) ?_
 refine GL_nil ?_
 refine GC_seq ?_
 refine GC_region ?_
 refine GL_v rfl (rv_mv (v := .pointer _) vw) ?_
 refine GL_v rfl (rv_mv (v := w16 m) vw) ?_
 refine GL_v rfl (rv_gtr vw vw) ?_
 refine GL_call rfl cb112 (rNeed_k B n k p8 A l s8 e8 (decide ((0 : Int) < m.toNat)) 5) rfl pB .nil ?_
 rintro _ _ _ ⟨e9, hc9, rfl, rfl, rfl⟩
 simp only [List.cons_append, List.nil_append]
 rw [pos_ne] at hc9
 refine GL_nil ?_
 refine GC_seq ?_
 refine GC_region ?_
 refine GL_v rfl (rv_mv (v := w16 f) vw) ?_
 refine GL_v rfl (rv_mv (v := w16 r) vw) ?_
 refine GL_v rfl (rv_mv (v := w16 m) vw) ?_
 refine GL_v rfl (rv_bld (z' := recCells ⟨f, r, m, []⟩ {}) z76 l76 (fun _ => rfl)) ?_
 refine GL_stA (l' := recCells ⟨f, r, m, []⟩ {}) rfl rfl c76 (recCells_one _ _) (by rfl) ?_
 refine GL_nil ?_
 refine GC_ret ?_
 exact finS (.inr rfl) rfl rfl inferInstance a76 rfl (pB (B := B)) sb ⟨⟨f, r, m, []⟩, p8, s8, e9, by simp only [headS, hc1, hc2, hc3, hc4, hc5, hc6, hc7, hc8, hc9], hp8, rfl, rfl, rfl, rfl⟩
def partsQ (one : Int → Cu → RecD × Cu × Int) (b : List UInt8) : List RecD × Cu := partsF one (b.length + 1) 0 ⟨b, false, 0⟩ []
theorem parts_next {one : Int → Cu → RecD × Cu × Int} {Q : List RecD × Cu} {c c1 : Cu} {sum sum1 : Int} {l : List RecD} {x : RecD} {f : Nat} (h1 : one sum c = (x, c1, sum1)) (hpos : 0 < c.r.length ∧ c.e = 0) (hf : c.r.length < f) (hlt : c1.r.length < c.r.length) (h : partsF one f sum c l = Q) :
 (c1.e = 0 → ∃ f, c1.r.length < f ∧ partsF one f sum1 c1 (l ++ [x]) = Q) ∧ (c1.e ≠ 0 → Q.2.e = c1.e) := by
 cases f with
 | zero => omega
 | succ f =>
  rw [partsF_step hpos, h1] at h
  refine ⟨fun h0 => ⟨f, by omega, ?_⟩, fun h0 => ?_⟩
  · rw [if_neg (by simp [h0])] at h; exact h
  · rw [if_pos h0] at h; rw [← h]
theorem rules_one {dir : Int} {code : UInt8} {may : Int → Bool} {one : Int → Cu → RecD × Cu × Int} (h : rulesS dir code = some (may, one)) : (code.toNat = 20 ∧ dir = 0 ∧ one = askedF) ∨ (code.toNat = 20 ∧ dir ≠ 0 ∧ one = toldF) ∨ (code.toNat = 21 ∧ one = writtenF) := by
 unfold rulesS at h
 split at h
 · rename_i q; cases h; exact .inl ⟨q.1, q.2, rfl⟩
 · rename_i q
   split at h
   · rename_i q2; cases h; exact .inr (.inl ⟨q2, fun e => q ⟨q2, e⟩, rfl⟩)
   · split at h
     · rename_i q3; cases h; exact .inr (.inr ⟨q3, rfl⟩)
     · cases h
theorem rules_good {dir : Int} {code : UInt8} {may : Int → Bool} {one : Int → Cu → RecD × Cu × Int} (h : rulesS dir code = some (may, one)) : OneGood one := by
 rcases rules_one h with ⟨_, _, rfl⟩ | ⟨_, _, rfl⟩ | ⟨_, rfl⟩
 · exact askedF_good
 · exact toldF_good
 · exact writtenF_good
theorem rParts_ct (dir : Int) (code : UInt8) (may : Int → Bool) (one : Int → Cu → RecD × Cu × Int) (hd : dir = 0 ∨ dir = 1) (hr : rulesS dir code = some (may, one)) (A : Option Addr) (n k : Nat) (b : List UInt8) (hn : n ≤ 1000) : Ct PG 123 [.int .i64 dir, b8 code, .slice A n k] [] [row 1 A n k (bytesV b)]
 (fun v S' T' => ∃ l hs Ao no ko, v = .tuple #[.slice Ao no ko, .int .i64 (withinS (partsQ one b).2.e)] ∧ ((partsQ one b).2.e = 0 → l = (partsQ one b).1) ∧ hs.length = l.length ∧ S' = [] ∧ T' = [row 4 Ao no ko (recsV l hs), bun (hs.length = l.length) (recRows l hs)]) := by
 refine Ct_of Tryz.func123 rfl 108 rfl (Nat.le_of_ble_eq_true rfl) fun w0 M N => ?_
 refine GC_row A fun hrow => ?_
 have hbl : b.length = n := by have := hrow.1; simpa [bytesV] using this
 have hcases := rules_one hr
 have hok := rulesS_ok hr
 have hgood := rules_good hr
 obtain ⟨Q, hQ⟩ : ∃ Q, partsQ one b = Q := ⟨_, rfl⟩
 rw [hQ]
 refine GC_seq ?_
 refine GC_region ?_
 refine GL_v rfl (rv_as (v := .slice _ _ _) vw) ?_
 refine GL_v rfl (rv_as (v := .int .i64 _) vw) ?_
 refine GL_nil ?_
 refine GC_seq ?_
 refine GC_region ?_
 refine GL_v rfl (rv_mv (v := .slice _ _ _) vw) ?_
 refine GL_v rfl (rv_bld (z' := [.slice _ _ _, .int .i64 0, .bool false, .int .i64 0]) z113 l113 (fun _ => rfl)) ?_
 refine GL_boxA rfl rfl (fun b16 => ?_)
 refine GL_v rfl (rv_as (v := .pointer _) vw) ?_
 refine GL_nil ?_
 refine GC_seq ?_
 refine GC_region ?_
 refine GL_v rfl (rv_as (v := .slice _ _ _) vw) ?_
 refine GL_nil ?_
 refine GC_seq ?_
 refine GC_region ?_
 refine GL_v rfl (rv_as (v := .int .i64 _) vw) ?_
 refine GL_nil ?_
 refine GC_shift .nil (nil_own (t := 76) (sz := 4)) ?_
 refine GC_shift .nil (bun_nil (p := ([] : List Hd).length = ([] : List RecD).length) rfl) ?_
 refine GC_dropT (T' := [row 1 A n k (bytesV b), bun (([] : List Hd).length = ([] : List RecD).length) []]) sb ?_
 refine GC_seq ?_
 refine GC_block ?_
 refine GC_loop (fun (i : Nat) E S T => ∃ p s e sum l hs Ao ko, i = (b.drop p).length ∧ p ≤ n ∧ (⟨b.drop p, s, e⟩ : Cu).good ∧ l.length + (b.drop p).length ≤ n ∧ hs.length = l.length ∧ (e = 0 → 0 ≤ sum ∧ sum ≤ 1000) ∧ (e = 0 → ∃ f, (b.drop p).length < f ∧ partsF one f sum ⟨b.drop p, s, e⟩ l = Q) ∧ (e ≠ 0 → Q.2.e = e) ∧ At E [(0, .int .i64 dir), (1, b8 code), (8, .pointer (some ⟨b16, 0, none⟩)), (9, .slice Ao l.length ko), (10, .int .i64 sum)] ∧ S = [own 76 4 Ao l.length ko (recsV l hs), rcub b16 A n k p s e] ∧ T = [row 1 A n k (bytesV b), bun (hs.length = l.length) (recRows l hs)]) (fun i => i) (b.drop 0).length ⟨0, false, 0, 0, [], [], none, 0, rfl, Nat.zero_le _, fun _ => rfl, by simp; omega, rfl, by omega, fun _ => ⟨_, by simp, hQ⟩, fun h => absurd rfl h, ⟨rfl, rfl, rfl, rfl, rfl, trivial⟩, rfl, rfl⟩ ?_
 rintro i E S T ⟨p, s, e, sum, l, hs, Ao, ko, rfl, hp, hg, hcnt, hlen, hsum, hpart, herr, hE, rfl, rfl⟩
 obtain ⟨E0, rfl⟩ := hE.ex
 have hp' : p ≤ n ∧ n ≤ 35184372088832 := ⟨hp, by omega⟩
 refine GC_seq ?_
 refine GC_seq ?_
 refine GC_region ?_
 refine GL_v rfl (rv_mv (v := .pointer _) vw) ?_
 refine GL_callD rfl cb121 (rLeft_k b16 n k p A b s e hp') rfl pB sR ?_
 refine GL_v rfl (rv_gtr vw vw) ?_
 refine GL_v rfl (rv_mv (v := .bool _) vw) ?_
 refine GL_g rfl rfl gvt (rv_mv (v := .pointer _) vw) ?_
 refine GL_g rfl rfl gvt (rv_nil vwg) ?_
 refine GL_g rfl rfl gvt (rv_fa fa113_3 vwg) ?_
 refine GL_g rfl rfl gvt (rv_ld Tryz.underlying31 rfl vwg) ?_
 refine GL_g rfl rfl gvt (rv_eql vwg vw) ?_
 refine GL_v rfl (rv_and vw vwg) ?_
 refine GL_nil ?_
 refine GC_cond rfl (fun h0 => ?_) (fun h0 => ?_)
 ·
  have hpe : 0 < (b.drop p).length ∧ e = 0 := by have := h0; simp at this ⊢; omega
  have hs0 : s = false := hg hpe.2
  have hsm := hsum hpe.2
  obtain ⟨f, hf, hpf⟩ := hpart hpe.2
  have hlt := (hok sum ⟨b.drop p, s, e⟩ hpe.1).1
  have hsm2 := (hok sum ⟨b.drop p, s, e⟩ hpe.1).2 hsm
  have hg2 := hgood sum ⟨b.drop p, s, e⟩ hg
  clear hpart herr hsum
  refine GC_skip ?_
  refine GC_block ?_
  refine GC_seq ?_
  refine GC_region ?_
  refine GL_v rfl (rv_bld (z' := [.int .u16 0, .int .u16 0, .int .u16 0, .slice none 0 0]) z76 l76 (fun _ => rfl)) ?_
  refine GL_alloc rfl z76 (fun b11 => ?_)
  refine GL_stA rfl rfl c76 (by simp [Value.oneCell']) (by rfl) ?_
  refine GL_nil ?_
  refine GC_seq ?_
  refine GC_seq ?_
  refine GC_region ?_
  refine GL_v rfl (rv_mv (v := .int .u8 _) vw) ?_
  refine GL_v rfl (rv_eql vw vw) ?_
  refine GL_v rfl (rv_mv (v := .bool _) vw) ?_
  refine GL_g rfl rfl gvt (rv_mv (v := .int .i64 _) vw) ?_
  refine GL_g rfl rfl gvt (rv_eql vwg vw) ?_
  refine GL_v rfl (rv_and vw vwg) ?_
  refine GL_nil ?_
  refine GC_cutM (fun E S T => ∃ x h p1 s1 e1 sum1, one sum ⟨b.drop p, s, e⟩ = (x, ⟨b.drop p1, s1, e1⟩, sum1) ∧ (p1 ≤ n ∧ n ≤ 35184372088832) ∧ At E [(0, .int .i64 dir), (1, b8 code), (8, .pointer (some ⟨b16, 0, none⟩)), (9, .slice Ao l.length ko), (10, .int .i64 sum1), (11, .pointer (some ⟨b11, 0, none⟩))] ∧ S = [blk b11 (recCells x h) 76, own 76 4 Ao l.length ko (recsV l hs), rcub b16 A n k p1 s1 e1] ∧ T = [row 1 h.A h.n h.k (wordsV x.words), row 1 A n k (bytesV b), bun (hs.length = l.length) (recRows l hs)]) ?_ ?_
  ·
   refine GC_cond rfl (fun h1 => ?_) (fun h1 => ?_)
   ·
    have hone : one = toldF := by
     have q := h1; simp at q
     rcases hcases with ⟨q1, q2, q3⟩ | ⟨q1, q2, q3⟩ | ⟨q1, q3⟩
     · omega
     · exact q3
     · omega
    refine GC_seq ?_
    refine GC_region ?_
    refine GL_v rfl (rv_mv (v := .pointer _) vw) ?_
    refine GL_call rfl cb111 (rByte_k b16 n k p A b s e hp') rfl pB sR ?_
    rintro _ _ _ ⟨q, p2, s2, e2, hc2, hp2, rfl, rfl, rfl⟩
    simp only [List.cons_append, List.nil_append]
    have hq := q.toNat_lt
    refine GL_v rfl (rv_cnv (r := (q.toNat : Int)) Tryz.underlying5 Tryz.underlying3 vw (fun _ => IntWalk.i64_in _ (by omega))) ?_
    refine GL_v rfl (rv_as (v := .int .i64 _) vw) ?_
    refine GL_nil ?_
    refine GC_seq ?_
    refine GC_region ?_
    refine GL_v rfl (rv_mv (v := .pointer _) vw) ?_
    refine GL_v rfl (rv_mv (v := .int .i64 _) vw) ?_
    refine GL_v rfl (rv_rem (r := (q.toNat : Int) % 2) vw vw (fun _ => by decide) (fun _ => Int.tmod_eq_emod_of_nonneg (by omega))) ?_
    refine GL_v rfl (rv_eql vw vw) ?_
    refine GL_v rfl (rv_mv (v := .bool _) vw) ?_
    refine GL_g rfl rfl gvt (rv_mv (v := .int .i64 _) vw) ?_
    refine GL_g rfl rfl gvt (rv_geq vwg vw) ?_
    refine GL_v rfl (rv_and vw vwg) ?_
    refine GL_v rfl (rv_mv (v := .bool _) vw) ?_
    refine GL_g rfl rfl gvt (rv_mv (v := .int .i64 _) vw) ?_
    refine GL_g rfl rfl gvt (rv_mv (v := .pointer _) vw) ?_
    refine GL_callG2 rfl rfl gvt cb121 (fun _ => rLeft_k b16 n k p2 A b s2 e2 hp2) (fun q => congrArg (· :: []) (vwg q)) (pB (B := b16)) (fun _ => sR) ?_
    simp only [List.cons_append, List.nil_append]
    refine GL_g rfl rfl gvt (rv_leq vwg vwg) ?_
    refine GL_v rfl (rv_and vw vwg) ?_
    refine GL_call rfl cb112 (rNeed_k b16 n k p2 A b s2 e2 (decide ((q.toNat : Int) % 2 = 1) && decide ((3 : Int) ≤ q.toNat) && decide ((q.toNat : Int) ≤ (b.drop p2).length)) 5) rfl pB .nil ?_
    rintro _ _ _ ⟨e3, hc3, rfl, rfl, rfl⟩
    simp only [List.cons_append, List.nil_append]
    refine GL_nil ?_
    refine GC_seq ?_
    refine GC_region ?_
    refine GL_v rfl (rv_mv (v := .pointer _) vw) ?_
    refine GL_call rfl cb111 (rByte_k b16 n k p2 A b s2 e3 hp2) rfl pB sR ?_
    rintro _ _ _ ⟨kd, p4, s4, e4, hc4, hp4, rfl, rfl, rfl⟩
    simp only [List.cons_append, List.nil_append]
    refine GL_v rfl (rv_as (v := b8 kd) vw) ?_
    refine GL_nil ?_
    refine GC_seq ?_
    refine GC_region ?_
    refine GL_v rfl (rv_mv (v := .pointer _) vw) ?_
    refine GL_v rfl (rv_mv (v := b8 kd) vw) ?_
    refine GL_v rfl (rv_eql vw vw) ?_
    refine GL_call rfl cb112 (rNeed_k b16 n k p4 A b s4 e4 (decide ((kd.toNat : Int) = 6)) 9) rfl pB .nil ?_
    rintro _ _ _ ⟨e5, hc5, rfl, rfl, rfl⟩
    simp only [List.cons_append, List.nil_append]
    refine GL_nil ?_
    refine GC_region ?_
    refine GL_v rfl (rv_mv (v := .pointer _) vw) ?_
    refine GL_v rfl (rv_mv (v := .int .i64 _) vw) ?_
    refine GL_v rfl (rv_sub (r := (q.toNat : Int) - 1) vw vw (fun _ => IntWalk.i64_in _ (by omega))) ?_
    refine GL_v rfl (rv_quo (r := ((q.toNat : Int) - 1).tdiv 2) vw vw (fun _ => by decide) (fun _ => IntWalk.i64_in _ (by
     rcases Nat.eq_zero_or_pos q.toNat with h | h
     · rw [h]; decide
     · rw [Int.tdiv_eq_ediv_of_nonneg (by omega)]; omega))) ?_
    refine GL_call rfl cb118 (rWords_k b16 n k p4 A b s4 e5 (((q.toNat : Int) - 1).tdiv 2) hp4) rfl pB sR ?_
    rintro _ _ _ ⟨w, p6, s6, e6, Ax6, nx6, kx6, hc6, hp6, rfl, rfl, rfl⟩
    simp only [List.cons_append, List.nil_append]
    refine GL_v rfl (rv_fa fa76_3 vw) ?_
    refine GL_st (u := .slice _ _ _) rfl rfl c25 rfl ?_
    refine GL_nil ?_
    show Weak _ _ _ _
    exact weak (.cons (.there .here) (.cons (.there .here) (.cons .here .nil))) sb ⟨{ words := w }, ⟨Ax6, nx6, kx6⟩, p6, s6, e6, sum, by rw [hone]; simp only [toldF, hc2, hc3, hc4, hc5, hc6], hp6, ⟨rfl, rfl, rfl, rfl, rfl, rfl, trivial⟩, rfl, rfl⟩
   ·
    have hnt : ¬ (code.toNat = 20 ∧ dir = 1) := by have q := h1; simp at q; omega
    refine GC_seq ?_
    refine GC_region ?_
    refine GL_v rfl (rv_mv (v := .pointer _) vw) ?_
    refine GL_call rfl cb176 (rHead_ct b16 n k p A b s e hs0 hpe.1 hp') rfl pB sR ?_
    rintro _ _ _ ⟨x, p1, s1, e1, hh, hp1, hxw, rfl, rfl, rfl⟩
    simp only [List.cons_append, List.nil_append]
    refine GL_shift .nil (nil_row (sz := 1)) ?_
    have hxc := x.count.toNat_lt
    refine GL_stA (l' := recCells x {}) rfl rfl c76 (recCells_one _ _) (by rfl) ?_
    simp only [recCells]
    refine GL_nil ?_
    refine GC_seq ?_
    refine GC_region ?_
    refine GL_v rfl (rv_mv (v := .int .u8 _) vw) ?_
    refine GL_v rfl (rv_eql vw vw) ?_
    refine GL_nil ?_
    refine GC_cond rfl (fun h2 => ?_) (fun h2 => ?_)
    ·
     have hone : one = writtenF := by
      have q := h2; simp at q
      rcases hcases with ⟨q1, q2, q3⟩ | ⟨q1, q2, q3⟩ | ⟨q1, q3⟩
      · omega
      · omega
      · exact q3
     refine GC_seq ?_
     refine GC_draw 9 ([blk b11 [w16 x.file, w16 x.record, w16 x.count, .slice none 0 0] 76]) mixed ?_
     refine GA_v (i := 0) rfl rfl rfl (by kernel_rfl) (rv_mv (v := .pointer _) vw) ?_
     refine GA_v (i := 1) rfl rfl rfl (by kernel_rfl) (rv_fa fa76_2 vw) ?_
     refine GA_v (i := 2) rfl rfl rfl (by kernel_rfl) (rv_ld Tryz.underlying24 rfl vw) ?_
     refine GA_v (i := 3) rfl rfl rfl (by kernel_rfl) (rv_cnv (r := (x.count.toNat : Int)) Tryz.underlying24 Tryz.underlying3 vw (fun _ => IntWalk.i64_in _ (by omega))) ?_
     refine GA_v (i := 4) rfl rfl rfl (by kernel_rfl) (rv_mul (r := 2 * (x.count.toNat : Int)) vw vw (fun _ => IntWalk.i64_in _ (by omega))) ?_
     refine GA_v (i := 5) rfl rfl rfl (by kernel_rfl) (rv_mv (v := .pointer _) vw) ?_
     refine GA_one 6 rfl rfl (by kernel_rfl) ?_
     refine GL_callD rfl cb121 (rLeft_k b16 n k p1 A b s1 e1 hp1) rfl pB sR ?_
     refine GL_nil ⟨inferInstance, ?_⟩
     refine GA_v (i := 7) rfl rfl rfl (by kernel_rfl) (rv_leq vw vw) ?_
     refine GA_one 8 rfl rfl (by kernel_rfl) ?_
     refine GL_call rfl cb112 (rNeed_k b16 n k p1 A b s1 e1 (decide (2 * (x.count.toNat : Int) ≤ (b.drop p1).length)) 5) rfl pB .nil ?_
     rintro _ _ _ ⟨e8, hc8, rfl, rfl, rfl⟩
     simp only [List.cons_append, List.nil_append]
     refine GL_nil ⟨inferInstance, ?_⟩
     refine GA_nil (by kernel_rfl) ?_
     refine GC_region ?_
     refine GL_v rfl (rv_mv (v := .pointer _) vw) ?_
     refine GL_v rfl (rv_fa fa76_2 vw) ?_
     refine GL_v rfl (rv_ld Tryz.underlying24 rfl vw) ?_
     refine GL_v rfl (rv_cnv (r := (x.count.toNat : Int)) Tryz.underlying24 Tryz.underlying3 vw (fun _ => IntWalk.i64_in _ (by omega))) ?_
     refine GL_call rfl cb118 (rWords_k b16 n k p1 A b s1 e8 (x.count.toNat : Int) hp1) rfl pB sR ?_
     rintro _ _ _ ⟨w, p9, s9, e9, Ax9, nx9, kx9, hc9, hp9, rfl, rfl, rfl⟩
     simp only [List.cons_append, List.nil_append]
     refine GL_v rfl (rv_fa fa76_3 vw) ?_
     refine GL_st (u := .slice _ _ _) rfl rfl c25 rfl ?_
     refine GL_nil ?_
     show Weak _ _ _ _
     exact weak (.cons (.there .here) (.cons (.there .here) (.cons .here .nil))) sb ⟨{ x with words := w }, ⟨Ax9, nx9, kx9⟩, p9, s9, e9, sum, by rw [hone]; simp only [writtenF, hh, hc8, hc9], hp9, ⟨rfl, rfl, rfl, rfl, rfl, rfl, trivial⟩, rfl, rfl⟩
    ·
     have hone : one = askedF := by
      have q := h2; simp at q
      rcases hcases with ⟨q1, q2, q3⟩ | ⟨q1, q2, q3⟩ | ⟨q1, q3⟩
      · exact q3
      · omega
      · omega
     refine GC_seq ?_
     refine GC_region ?_
     refine GL_v rfl (rv_mv (v := .int .i64 _) vw) ?_
     refine GL_v rfl (rv_add (r := sum + 2) vw vw (fun _ => IntWalk.i64_in _ (by omega))) ?_
     refine GL_v rfl (rv_fa fa76_2 vw) ?_
     refine GL_v rfl (rv_ld Tryz.underlying24 rfl vw) ?_
     refine GL_v rfl (rv_cnv (r := (x.count.toNat : Int)) Tryz.underlying24 Tryz.underlying3 vw (fun _ => IntWalk.i64_in _ (by omega))) ?_
     refine GL_v rfl (rv_mul (r := 2 * (x.count.toNat : Int)) vw vw (fun _ => IntWalk.i64_in _ (by omega))) ?_
     refine GL_v rfl (rv_add (r := sum + (2 + 2 * (x.count.toNat : Int))) vw vw (fun _ => by rw [IntWalk.i64_in _ (by omega)]; omega)) ?_
     refine GL_v rfl (rv_as (v := .int .i64 _) vw) ?_
     refine GL_nil ?_
     refine GC_region ?_
     refine GL_v rfl (rv_mv (v := .pointer _) vw) ?_
     refine GL_v rfl (rv_mv (v := .int .i64 _) vw) ?_
     refine GL_v rfl (rv_leq vw vw) ?_
     refine GL_call rfl cb112 (rNeed_k b16 n k p1 A b s1 e1 (decide (sum + (2 + 2 * (x.count.toNat : Int)) ≤ 245)) 5) rfl pB .nil ?_
     rintro _ _ _ ⟨e10, hc10, rfl, rfl, rfl⟩
     simp only [List.cons_append, List.nil_append]
     refine GL_nil ?_
     show Weak _ _ _ _
     exact weak (S' := [blk b11 (recCells x {}) 76, own 76 4 Ao l.length ko (recsV l hs), rcub b16 A n k p1 s1 e10]) (T' := [row 1 none 0 0 [], row 1 A n k (bytesV b), bun (hs.length = l.length) (recRows l hs)]) (.cons (.there .here) (.cons (.there .here) (.cons .here .nil))) sb ⟨x, {}, p1, s1, e10, _, by rw [hone]; simp only [askedF, hh, hc10], hp1, ⟨rfl, rfl, rfl, rfl, rfl, rfl, trivial⟩, rfl, by rw [hxw]; rfl⟩
  ·
   rintro E S T ⟨S1, r1, T1, hS, hT, hM⟩
   refine GC_drop hS (GC_dropT hT ?_)
   clear hS hT
   revert hM
   rintro ⟨x, h, p1, s1, e1, sum1, hone, hp1, hE, rfl, rfl⟩
   obtain ⟨E1, rfl⟩ := hE.ex
   rw [hone] at hlt hsm2 hg2
   simp only at hlt hsm2 hg2
   obtain ⟨hn1, hn2⟩ := parts_next hone hpe hf hlt hpf
   refine GC_region ?_
   refine GL_v rfl (rv_mv (v := .slice _ _ _) vw) ?_
   refine GL_v rfl (rv_ldA (l := recCells x h) a76 vw rfl) ?_
   refine GL_bs (l := recCells x h) rfl el27 z76 rfl rfl rfl (fun b96 => ?_)
   refine GL_app (m := 1) rfl el27 rfl rfl pW rfl (recCells_one _ _) (by omega) (by simp [maxLen]; omega) (fun A9 k9 => ?_)
   rw [← recsV_snoc l hs x h hlen]
   refine GL_shift .nil (bun_snocM (hs.length = l.length) (recRows l hs) (row 1 h.A h.n h.k (wordsV x.words)) (p2 := (hs ++ [h]).length = (l ++ [x]).length) (by simp [hlen]) (recRows_snoc l hs x h hlen)) ?_
   refine GL_dropT (T' := [row 1 A n k (bytesV b), bun ((hs ++ [h]).length = (l ++ [x]).length) (recRows (l ++ [x]) (hs ++ [h]))]) sb ?_
   refine GL_drop (S' := [own 76 4 A9 (l.length + 1) k9 (recsV (l ++ [x]) (hs ++ [h])), rcub b16 A n k p1 s1 e1]) (.cons .here (.cons (.there (.there .here)) .nil)) ?_
   have hll : l.length + 1 = (l ++ [x]).length := by simp
   rw [hll]
   refine GL_v rfl (rv_as (v := .slice _ _ _) vw) ?_
   refine GL_nil ?_
   exact ⟨_, ⟨p1, s1, e1, sum1, l ++ [x], hs ++ [h], A9, k9, rfl, hp1.1, hg2, (by rw [← hll]; have := hlt; have := hcnt; omega), by simp [hlen], fun z0 => hsm2 z0, hn1, hn2, ⟨rfl, rfl, rfl, rfl, rfl, trivial⟩, rfl, rfl⟩, hlt⟩
 ·
  have hex : e = 0 → ¬ 0 < (b.drop p).length := fun z0 => by
   have q := h0; rw [z0] at q; simp at q ⊢; omega
  have hQe : Q.2.e = e := by
   by_cases z0 : e = 0
   · obtain ⟨f, hf, hpf⟩ := hpart z0
     rw [partsF_end (fun q => hex z0 q.1)] at hpf
     rw [← hpf]
   · exact herr z0
  have hQl : Q.2.e = 0 → l = Q.1 := fun z0 => by
   obtain ⟨f, hf, hpf⟩ := hpart (hQe.symm.trans z0)
   rw [partsF_end (fun q => hex (hQe.symm.trans z0) q.1)] at hpf
   rw [← hpf]
  rw [hQe] at hQl ⊢
  refine GC_shift (.cons (.there .here) .nil) own_toRow ?_
  refine GC_exit ?_
  refine GC_seq ?_
  refine GC_seq ?_
  refine GC_region ?_
  refine GL_v rfl (rv_mv (v := .pointer _) vw) ?_
  refine GL_v rfl (rv_nil vw) ?_
  refine GL_v rfl (rv_fa fa113_3 vw) ?_
  refine GL_v rfl (rv_ld Tryz.underlying31 rfl vw) ?_
  refine GL_v rfl (rv_eql vw vw) ?_
  refine GL_nil ?_
  refine GC_cond rfl (fun h3 => ?_) (fun h3 => ?_)
  ·
   have he2 : e = 2 := by have q := h3; simpa using q
   have hw : withinS e = 5 := by unfold withinS; rw [if_pos he2]
   rw [hw]
   refine GC_seq ?_
   refine GC_region ?_
   refine GL_v rfl (rv_as (v := .slice _ _ _) vw) ?_
   refine GL_v rfl (rv_as (v := .int .i64 _) vw) ?_
   refine GL_nil ?_
   refine GC_shift .nil (nil_row (sz := 4)) ?_
   refine GC_shift .nil (bun_nil (p := ([] : List Hd).length = ([] : List RecD).length) rfl) ?_
   refine GC_ret ?_
   exact fin2 (T' := [row 4 none 0 0 [], bun (([] : List Hd).length = ([] : List RecD).length) []]) (.inr rfl) rfl rfl rfl .nil sb ⟨[], [], none, 0, 0, rfl, fun h0 => absurd (he2.symm.trans h0) (by decide), rfl, rfl, rfl⟩
  ·
   have he2 : ¬ e = 2 := by have q := h3; simpa using q
   have hw : withinS e = e := by unfold withinS; rw [if_neg he2]
   rw [hw]
   refine GC_skip ?_
   refine GC_seq ?_
   refine GC_draw 7 ([rcub b16 A n k p s e]) mixed ?_
   refine GA_v (i := 0) rfl rfl rfl (by kernel_rfl) (rv_mv (v := .slice _ _ _) vw) ?_
   refine GA_v (i := 1) rfl rfl rfl (by kernel_rfl) (rv_mv (v := .pointer _) vw) ?_
   refine GA_v (i := 2) rfl rfl rfl (by kernel_rfl) (rv_nil vw) ?_
   refine GA_v (i := 3) rfl rfl rfl (by kernel_rfl) (rv_fa fa113_3 vw) ?_
   refine GA_v (i := 4) rfl rfl rfl (by kernel_rfl) (rv_ld Tryz.underlying31 rfl vw) ?_
   refine GA_v (i := 5) rfl rfl rfl (by kernel_rfl) (rv_as (v := .slice _ _ _) vw) ?_
   refine GA_v (i := 6) rfl rfl rfl (by kernel_rfl) (rv_as (v := .int .i64 _) vw) ?_
   refine GA_nil (by kernel_rfl) ?_
   refine GC_ret ?_
   exact fin2 (.inr rfl) rfl rfl rfl .nil sb ⟨l, hs, Ao, _, ko, rfl, hQl, hlen, rfl, rfl⟩
theorem byte_cons (a : UInt8) (r : List UInt8) : (⟨a :: r, false, 0⟩ : Cu).byte = (a, ⟨r, false, 0⟩) := by
 have hb : ¬ (⟨a :: r, false, 0⟩ : Cu).bad 1 = true := by simp [Cu.bad]; omega
 unfold Cu.byte Cu.bytes; rw [if_neg hb]; rfl
section
variable {dir : Int} {code : UInt8} {may : Int → Bool} {one : Int → Cu → RecD × Cu × Int} (hd : ¬ (dir ≠ 0 ∧ dir ≠ 1)) (hr : rulesS dir code = some (may, one))
include hd hr
theorem P11_nil : P11 dir code [] = ({}, 2) := by
 unfold P11; rw [if_neg hd, hr]
 have hb : (⟨[], false, 0⟩ : Cu).byte = (0, ⟨[], true, 2⟩) := rfl
 have hn : ∀ ok, (⟨[], true, 2⟩ : Cu).need ok 5 = ⟨[], true, 2⟩ := fun ok => by simp [Cu.need, needE]
 have hb2 : ∀ j, (⟨[], true, 2⟩ : Cu).bytes j = ([], ⟨[], true, 2⟩) := fun j => by simp [Cu.bytes, Cu.bad, Cu.need, needE]
 simp only [hb, hn, hb2]
 exact finish_err (by simp [Cu.need, needE])
theorem P11_cons (a : UInt8) (r : List UInt8) : P11 dir code (a :: r) = if may a.toNat = false then ({}, 5) else if r.length < a.toNat then ({}, 2) else if (partsQ one (r.take a.toNat)).2.e ≠ 0 then ({}, withinS (partsQ one (r.take a.toNat)).2.e) else if a.toNat < r.length then ({}, 3) else ({ code := code, recs := (partsQ one (r.take a.toNat)).1 }, 0) := by
 unfold P11; rw [if_neg hd, hr]
 simp only [byte_cons]
 by_cases hm : may a.toNat = false
 · rw [if_pos hm, hm]
   have h1 : (⟨r, false, 0⟩ : Cu).need false 5 = ⟨r, false, 5⟩ := by simp [Cu.need, needE]
   rw [h1]
   have h2 : ((⟨r, false, 5⟩ : Cu).bytes a.toNat).2.e = 5 := by unfold Cu.bytes; split <;> simp [Cu.need, needE]
   rw [finish_err (by rw [need_stays (by rw [h2]; decide), h2]; decide), need_stays (by rw [h2]; decide), h2]
 · have hm' : may a.toNat = true := by simpa using hm
   rw [if_neg hm, hm']
   have h1 : (⟨r, false, 0⟩ : Cu).need true 5 = ⟨r, false, 0⟩ := need_true rfl
   rw [h1]
   by_cases hl : r.length < a.toNat
   · rw [if_pos hl]
     have h2 : (⟨r, false, 0⟩ : Cu).bytes a.toNat = ([], ⟨[], true, 2⟩) := by unfold Cu.bytes; rw [if_pos (by simp [Cu.bad]; omega)]; rfl
     rw [h2]
     exact finish_err (by simp [Cu.need, needE])
   · rw [if_neg hl]
     have h2 : (⟨r, false, 0⟩ : Cu).bytes a.toNat = (r.take a.toNat, ⟨r.drop a.toNat, false, 0⟩) := by unfold Cu.bytes; rw [if_neg (by simp [Cu.bad]; omega)]; rfl
     rw [h2]
     simp only
     rw [show partsF one ((r.take a.toNat).length + 1) 0 ⟨r.take a.toNat, false, 0⟩ [] = partsQ one (r.take a.toNat) from rfl]
     by_cases hq : (partsQ one (r.take a.toNat)).2.e = 0
     · rw [if_neg (by simp [hq]), hq]
       have h3 : (⟨r.drop a.toNat, false, 0⟩ : Cu).need (decide ((0 : Int) = 0)) (withinS 0) = ⟨r.drop a.toNat, false, 0⟩ := need_true rfl
       rw [h3]
       by_cases hlt : a.toNat < r.length
       · rw [if_pos hlt]
         have h4 : (⟨r.drop a.toNat, false, 0⟩ : Cu).fin.e = 3 := by
          show needE 0 (decide ((r.drop a.toNat).length = 0)) 3 = 3
          rw [decide_eq_false (by rw [List.length_drop]; omega)]; rfl
         unfold finish; simp only [h4]; rw [if_neg (by decide)]
       · rw [if_neg hlt]
         have h4 : (⟨r.drop a.toNat, false, 0⟩ : Cu).fin.e = 0 := by
          show needE 0 (decide ((r.drop a.toNat).length = 0)) 3 = 0
          rw [decide_eq_true (by rw [List.length_drop]; omega)]; rfl
         unfold finish; simp only [h4]; rw [if_pos trivial]
     · rw [if_pos hq]
       have hw : withinS (partsQ one (r.take a.toNat)).2.e ≠ 0 := by unfold withinS; split <;> first | decide | exact hq
       have h3 : ((⟨r.drop a.toNat, false, 0⟩ : Cu).need (decide ((partsQ one (r.take a.toNat)).2.e = 0)) (withinS (partsQ one (r.take a.toNat)).2.e)).e = withinS (partsQ one (r.take a.toNat)).2.e := by
        rw [decide_eq_false hq]; simp [Cu.need, needE]
       rw [finish_err (by rw [h3]; exact hw), h3]
end
theorem rules_may {dir : Int} {code : UInt8} (h : code.toNat = 20 ∨ code.toNat = 21) : ∃ may one, rulesS dir code = some (may, one) ∧ ∀ n, may n = if code.toNat = 20 ∧ dir = 0 then (decide (7 ≤ n) && decide (n ≤ 245) && decide (n % 7 = 0)) else if code.toNat = 20 then (decide (4 ≤ n) && decide (n ≤ 245)) else (decide (9 ≤ n) && decide (n ≤ 251)) := by
 unfold rulesS
 by_cases h1 : code.toNat = 20 ∧ dir = 0
 · exact ⟨_, _, if_pos h1, fun n => by rw [if_pos h1]⟩
 · by_cases h2 : code.toNat = 20
   · exact ⟨_, _, by rw [if_neg h1, if_pos h2], fun n => by rw [if_neg h1, if_pos h2]⟩
   · exact ⟨_, _, by rw [if_neg h1, if_neg h2, if_pos (by omega)], fun n => by rw [if_neg h1, if_neg h2]⟩
theorem rP11_ct (dir : Int) (code : UInt8) (A : Option Addr) (n k : Nat) (b : List UInt8) (hn : n ≤ 35184372088832) : Ct PG 61 [.int .i64 dir, b8 code, .slice A n k] [] [row 1 A n k (bytesV b)] (MsgOut (P11 dir code b)) := by
 refine Ct_of Tryz.func61 rfl 101 rfl (Nat.le_of_ble_eq_true rfl) fun w0 M N => ?_
 refine GC_row A fun hrow => ?_
 have hbl : b.length = n := by have := hrow.1; simpa [bytesV] using this
 obtain ⟨pp, hpp⟩ : ∃ pp, P11 dir code b = pp := ⟨_, rfl⟩
 rw [hpp]
 refine GC_seq ?_
 refine GC_region ?_
 refine GL_alloc rfl z30 (fun b6 => ?_)
 refine GL_v rfl (rv_as (v := .int .i64 _) vw) ?_
 refine GL_nil ?_
 refine GC_seq ?_
 refine GC_seq ?_
 refine GC_region ?_
 refine GL_v rfl (rv_mv (v := .int .i64 _) vw) ?_
 refine GL_v rfl (rv_neq vw vw) ?_
 refine GL_v rfl (rv_mv (v := .bool _) vw) ?_
 refine GL_g rfl rfl gvt (rv_mv (v := .int .i64 _) vw) ?_
 refine GL_g rfl rfl gvt (rv_neq vwg vw) ?_
 refine GL_v rfl (rv_and vw vwg) ?_
 refine GL_nil ?_
 refine GC_cond rfl (fun h0 => ?_) (fun h0 => ?_)
 ·
  have hd : dir ≠ 0 ∧ dir ≠ 1 := by have := h0; simpa using this
  have he : P11 dir code b = ({}, 1) := if_pos hd
  obtain rfl := hpp.symm.trans he
  refine GC_seq ?_
  refine GC_region ?_
  refine GL_v rfl (rv_bld (z' := [.int .u8 0, .int .u8 0, .int .u16 0, .int .u16 0, .int .u16 0, .int .u16 0, .int .u16 0, .int .u16 0, .int .u16 0, .int .u16 0, .int .u16 0, .int .u16 0, .slice none 0 0, .slice none 0 0, .slice none 0 0, .slice none 0 0, .int .u8 0, .int .u8 0, .int .u8 0, .int .u8 0, .int .u8 0, .slice none 0 0]) z30 l30 (fun _ => rfl)) ?_
  refine GL_stA rfl rfl c30 (by simp [Value.oneCell']) (by rfl) ?_
  refine GL_v rfl (rv_as (v := .int .i64 _) vw) ?_
  refine GL_nil ?_
  refine GC_shift .nil (msg0 {}) ?_
  refine GC_ret ?_
  exact finA (T' := [msgR { m := {} }]) (.inr rfl) rfl rfl rfl inferInstance a30 rfl .nil sb ⟨{ m := {} }, rfl, rfl, rfl, rfl⟩
 ·
  have hd : ¬ (dir ≠ 0 ∧ dir ≠ 1) := by have := h0; simpa using this
  refine GC_skip ?_
  refine GC_seq ?_
  refine GC_seq ?_
  refine GC_region ?_
  refine GL_v rfl (rv_mv (v := .int .u8 _) vw) ?_
  refine GL_v rfl (rv_neq vw vw) ?_
  refine GL_v rfl (rv_mv (v := .bool _) vw) ?_
  refine GL_g rfl rfl gvt (rv_mv (v := .int .u8 _) vw) ?_
  refine GL_g rfl rfl gvt (rv_neq vwg vw) ?_
  refine GL_v rfl (rv_and vw vwg) ?_
  refine GL_nil ?_
  refine GC_cond rfl (fun h1 => ?_) (fun h1 => ?_)
  ·
   have g : ¬ (code.toNat = 20 ∨ code.toNat = 21) := by have := h1; simp at this; omega
   have hf : rulesS dir code = none := by unfold rulesS; rw [if_neg (by omega), if_neg (by omega), if_neg (by omega)]
   have he : P11 dir code b = ({}, 4) := by unfold P11; rw [if_neg hd, hf]
   obtain rfl := hpp.symm.trans he
   refine GC_seq ?_
   refine GC_region ?_
   refine GL_v rfl (rv_bld (z' := [.int .u8 0, .int .u8 0, .int .u16 0, .int .u16 0, .int .u16 0, .int .u16 0, .int .u16 0, .int .u16 0, .int .u16 0, .int .u16 0, .int .u16 0, .int .u16 0, .slice none 0 0, .slice none 0 0, .slice none 0 0, .slice none 0 0, .int .u8 0, .int .u8 0, .int .u8 0, .int .u8 0, .int .u8 0, .slice none 0 0]) z30 l30 (fun _ => rfl)) ?_
   refine GL_stA rfl rfl c30 (by simp [Value.oneCell']) (by rfl) ?_
   refine GL_v rfl (rv_as (v := .int .i64 _) vw) ?_
   refine GL_nil ?_
   refine GC_shift .nil (msg0 {}) ?_
   refine GC_ret ?_
   exact finA (T' := [msgR { m := {} }]) (.inr rfl) rfl rfl rfl inferInstance a30 rfl .nil sb ⟨{ m := {} }, rfl, rfl, rfl, rfl⟩
  ·
   have g : code.toNat = 20 ∨ code.toNat = 21 := by have := h1; simp at this; omega
   have hrm := @rules_may dir code g
   obtain ⟨may, one, hr, hmay⟩ := hrm
   refine GC_skip ?_
   refine GC_seq ?_
   refine GC_seq ?_
   refine GC_region ?_
   refine GL_v rfl (rv_mv (v := .slice _ _ _) vw) ?_
   refine GL_v rfl (rv_len el22 vw) ?_
   refine GL_v rfl (rv_eql vw vw) ?_
   refine GL_nil ?_
   refine GC_cond rfl (fun h2 => ?_) (fun h2 => ?_)
   ·
    obtain rfl : b = [] := List.eq_nil_of_length_eq_zero (by have := h2; simp at this; omega)
    obtain rfl := hpp.symm.trans (P11_nil hd hr)
    refine GC_seq ?_
    refine GC_region ?_
    refine GL_v rfl (rv_bld (z' := [.int .u8 0, .int .u8 0, .int .u16 0, .int .u16 0, .int .u16 0, .int .u16 0, .int .u16 0, .int .u16 0, .int .u16 0, .int .u16 0, .int .u16 0, .int .u16 0, .slice none 0 0, .slice none 0 0, .slice none 0 0, .slice none 0 0, .int .u8 0, .int .u8 0, .int .u8 0, .int .u8 0, .int .u8 0, .slice none 0 0]) z30 l30 (fun _ => rfl)) ?_
    refine GL_stA rfl rfl c30 (by simp [Value.oneCell']) (by rfl) ?_
    refine GL_v rfl (rv_as (v := .int .i64 _) vw) ?_
    refine GL_nil ?_
    refine GC_shift .nil (msg0 {}) ?_
    refine GC_ret ?_
    exact finA (T' := [msgR { m := {} }]) (.inr rfl) rfl rfl rfl inferInstance a30 rfl .nil sb ⟨{ m := {} }, rfl, rfl, rfl, rfl⟩
   ·
    obtain ⟨a, r, rfl⟩ : ∃ a r, b = a :: r := by
     cases b with
     | nil => have := h2; simp at this hbl; omega
     | cons a r => exact ⟨a, r, rfl⟩
    have hA : A ≠ none := hrow.2.2.2.2 (by simp at hbl; omega) (by decide)
    have ha := a.toNat_lt
    rw [P11_cons hd hr] at hpp
    have hrl : r.length + 1 = n := by simpa using hbl
    refine GC_skip ?_
    refine GC_seq ?_
    refine GC_region ?_
    refine GL_v rfl (rv_mv (v := .slice _ _ _) vw) ?_
    refine GL_v rfl (rv_ix (i := 0) el22 vw vw (fun _ => rfl) (fun _ => by omega) (fun _ => hA)) ?_
    refine GL_v rfl (rv_ldE (v := b8 a) Tryz.underlying5 rfl vw (fun _ => rfl)) ?_
    refine GL_v rfl (rv_cnv (r := (a.toNat : Int)) Tryz.underlying5 Tryz.underlying3 vw (fun _ => IntWalk.i64_in _ (by omega))) ?_
    refine GL_v rfl (rv_as (v := .int .i64 _) vw) ?_
    refine GL_nil ?_
    refine GC_seq ?_
    refine GC_region ?_
    refine GL_v rfl (rv_mv (v := .int .i64 _) vw) ?_
    refine GL_v rfl (rv_geq vw vw) ?_
    refine GL_v rfl (rv_mv (v := .bool _) vw) ?_
    refine GL_g rfl rfl gvt (rv_mv (v := .int .i64 _) vw) ?_
    refine GL_g rfl rfl gvt (rv_leq vwg vw) ?_
    refine GL_v rfl (rv_and vw vwg) ?_
    refine GL_v rfl (rv_as (v := .bool _) vw) ?_
    refine GL_nil ?_
    refine GC_seq ?_
    refine GC_seq ?_
    refine GC_region ?_
    refine GL_v rfl (rv_mv (v := .int .u8 _) vw) ?_
    refine GL_v rfl (rv_eql vw vw) ?_
    refine GL_v rfl (rv_mv (v := .bool _) vw) ?_
    refine GL_g rfl rfl gvt (rv_mv (v := .int .i64 _) vw) ?_
    refine GL_g rfl rfl gvt (rv_eql vwg vw) ?_
    refine GL_v rfl (rv_and vw vwg) ?_
    refine GL_nil ?_
    refine GC_cutJ (fun E S T => ∃ bb : Bool, bb = (if code.toNat = 20 ∧ dir = 0 then may a.toNat else (decide ((9 : Int) ≤ a.toNat) && decide ((a.toNat : Int) ≤ 251))) ∧ At E [(0, .int .i64 dir), (1, b8 code), (2, .slice A n k), (6, .pointer (some ⟨b6, 0, none⟩)), (8, .int .i64 a.toNat), (9, .bool bb)] ∧ S = [blk b6 (MsgX.cells { m := {} }) 30] ∧ T = [row 1 A n k (bytesV (a :: r))]) ?_ ?_
    ·
     refine GC_cond rfl (fun h3 => ?_) (fun h3 => ?_)
     ·
      have g20 : code.toNat = 20 ∧ dir = 0 := by have := h3; simp at this; omega
      refine GC_region ?_
      refine GL_v rfl (rv_mv (v := .int .i64 _) vw) ?_
      refine GL_v rfl (rv_geq vw vw) ?_
      refine GL_v rfl (rv_mv (v := .bool _) vw) ?_
      refine GL_g rfl rfl gvt (rv_mv (v := .int .i64 _) vw) ?_
      refine GL_g rfl rfl gvt (rv_leq vwg vw) ?_
      refine GL_v rfl (rv_and vw vwg) ?_
      refine GL_v rfl (rv_mv (v := .bool _) vw) ?_
      refine GL_g rfl rfl gvt (rv_mv (v := .int .i64 _) vw) ?_
      refine GL_g rfl rfl gvt (rv_rem (r := (a.toNat : Int) % 7) vwg vw (fun _ => by decide) (fun _ => Int.tmod_eq_emod_of_nonneg (by omega))) ?_
      refine GL_g rfl rfl gvt (rv_eql vwg vw) ?_
      refine GL_v rfl (rv_and vw vwg) ?_
      refine GL_v rfl (rv_as (v := .bool _) vw) ?_
      refine GL_nil ?_
      exact ⟨_, by rw [if_pos g20, hmay, if_pos g20], ⟨rfl, rfl, rfl, rfl, rfl, rfl, trivial⟩, rfl, rfl⟩
     ·
      have g20 : ¬ (code.toNat = 20 ∧ dir = 0) := by have := h3; simp at this; omega
      refine GC_skip ?_
      exact ⟨_, by rw [if_neg g20], ⟨rfl, rfl, rfl, rfl, rfl, rfl, trivial⟩, rfl, rfl⟩
    ·
     intro E S1 T1
     rintro ⟨bb, hbb, hE, rfl, rfl⟩
     obtain ⟨E0, rfl⟩ := hE.ex
     refine GC_seq ?_
     refine GC_seq ?_
     refine GC_region ?_
     refine GL_v rfl (rv_mv (v := .int .u8 _) vw) ?_
     refine GL_v rfl (rv_eql vw vw) ?_
     refine GL_v rfl (rv_mv (v := .bool _) vw) ?_
     refine GL_g rfl rfl gvt (rv_mv (v := .int .i64 _) vw) ?_
     refine GL_g rfl rfl gvt (rv_eql vwg vw) ?_
     refine GL_v rfl (rv_and vw vwg) ?_
     refine GL_nil ?_
     refine GC_cutJ (fun E S T => ∃ bb : Bool, bb = may a.toNat ∧ At E [(0, .int .i64 dir), (1, b8 code), (2, .slice A n k), (6, .pointer (some ⟨b6, 0, none⟩)), (8, .int .i64 a.toNat), (9, .bool bb)] ∧ S = [blk b6 (MsgX.cells { m := {} }) 30] ∧ T = [row 1 A n k (bytesV (a :: r))]) ?_ ?_
     ·
      refine GC_cond rfl (fun h4 => ?_) (fun h4 => ?_)
      ·
       have g201 : code.toNat = 20 ∧ dir = 1 := by have := h4; simp at this; omega
       refine GC_region ?_
       refine GL_v rfl (rv_mv (v := .int .i64 _) vw) ?_
       refine GL_v rfl (rv_geq vw vw) ?_
       refine GL_v rfl (rv_mv (v := .bool _) vw) ?_
       refine GL_g rfl rfl gvt (rv_mv (v := .int .i64 _) vw) ?_
       refine GL_g rfl rfl gvt (rv_leq vwg vw) ?_
       refine GL_v rfl (rv_and vw vwg) ?_
       refine GL_v rfl (rv_as (v := .bool _) vw) ?_
       refine GL_nil ?_
       exact ⟨_, by rw [hmay, if_neg (by omega), if_pos g201.1], ⟨rfl, rfl, rfl, rfl, rfl, rfl, trivial⟩, rfl, rfl⟩
      ·
       have g201 : ¬ (code.toNat = 20 ∧ dir = 1) := by have := h4; simp at this; omega
       refine GC_skip ?_
       exact ⟨_, by
        rw [hbb]
        by_cases q : code.toNat = 20 ∧ dir = 0
        · rw [if_pos q]
        · rw [if_neg q, hmay, if_neg q, if_neg (by omega)], ⟨rfl, rfl, rfl, rfl, rfl, rfl, trivial⟩, rfl, rfl⟩
     ·
      intro E S1 T1
      rintro ⟨b1, hb1, hE, rfl, rfl⟩
      obtain ⟨E1, rfl⟩ := hE.ex
      refine GC_seq ?_
      refine GC_seq ?_
      refine GC_region ?_
      refine GL_v rfl (rv_mv (v := .bool _) vw) ?_
      refine GL_v rfl (rv_not vw) ?_
      refine GL_nil ?_
      refine GC_cond rfl (fun h5 => ?_) (fun h5 => ?_)
      ·
       have hm : may a.toNat = false := by have q := h5; rw [← hb1]; simpa using q
       rw [if_pos hm] at hpp
       obtain rfl := hpp
       refine GC_seq ?_
       refine GC_region ?_
       refine GL_v rfl (rv_bld (z' := [.int .u8 0, .int .u8 0, .int .u16 0, .int .u16 0, .int .u16 0, .int .u16 0, .int .u16 0, .int .u16 0, .int .u16 0, .int .u16 0, .int .u16 0, .int .u16 0, .slice none 0 0, .slice none 0 0, .slice none 0 0, .slice none 0 0, .int .u8 0, .int .u8 0, .int .u8 0, .int .u8 0, .int .u8 0, .slice none 0 0]) z30 l30 (fun _ => rfl)) ?_
       refine GL_stA rfl rfl c30 (by simp [Value.oneCell']) (by rfl) ?_
       refine GL_v rfl (rv_as (v := .int .i64 _) vw) ?_
       refine GL_nil ?_
       refine GC_shift .nil (msg0 {}) ?_
       refine GC_ret ?_
       exact finA (T' := [msgR { m := {} }]) (.inr rfl) rfl rfl rfl inferInstance a30 rfl .nil sb ⟨{ m := {} }, rfl, rfl, rfl, rfl⟩
      ·
       have hm : ¬ may a.toNat = false := by have q := h5; rw [← hb1]; simpa using q
       rw [if_neg hm] at hpp
       refine GC_skip ?_
       refine GC_seq ?_
       refine GC_seq ?_
       refine GC_region ?_
       refine GL_v rfl (rv_mv (v := .slice _ _ _) vw) ?_
       refine GL_v rfl (rv_len el22 vw) ?_
       refine GL_v rfl (rv_mv (v := .int .i64 _) vw) ?_
       refine GL_v rfl (rv_add (r := ((a.toNat + 1 : Nat) : Int)) vw vw (fun _ => by rw [IntWalk.i64_in _ (by omega)]; omega)) ?_
       refine GL_v rfl (rv_lss vw vw) ?_
       refine GL_nil ?_
       refine GC_cond rfl (fun h6 => ?_) (fun h6 => ?_)
       ·
        have hl : r.length < a.toNat := by have := h6; simp at this; omega
        rw [if_pos hl] at hpp
        obtain rfl := hpp
        refine GC_seq ?_
        refine GC_region ?_
        refine GL_v rfl (rv_bld (z' := [.int .u8 0, .int .u8 0, .int .u16 0, .int .u16 0, .int .u16 0, .int .u16 0, .int .u16 0, .int .u16 0, .int .u16 0, .int .u16 0, .int .u16 0, .int .u16 0, .slice none 0 0, .slice none 0 0, .slice none 0 0, .slice none 0 0, .int .u8 0, .int .u8 0, .int .u8 0, .int .u8 0, .int .u8 0, .slice none 0 0]) z30 l30 (fun _ => rfl)) ?_
        refine GL_stA rfl rfl c30 (by simp [Value.oneCell']) (by rfl) ?_
        refine GL_v rfl (rv_as (v := .int .i64 _) vw) ?_
        refine GL_nil ?_
        refine GC_shift .nil (msg0 {}) ?_
        refine GC_ret ?_
        exact finA (T' := [msgR { m := {} }]) (.inr rfl) rfl rfl rfl inferInstance a30 rfl .nil sb ⟨{ m := {} }, rfl, rfl, rfl, rfl⟩
       ·
        have hl : ¬ r.length < a.toNat := by have := h6; simp at this; omega
        rw [if_neg hl] at hpp
        have hnk := hrow.2.1
        refine GC_shift .nil (row_cut (l := 1) (h := a.toNat + 1) (by simp : row 1 A n k (bytesV (a :: r)) ∈ _) (by omega) (by omega) (by decide)) ?_
        have e2 : ((bytesV (a :: r)).drop (1 * 1)).take ((a.toNat + 1 - 1) * 1) = bytesV (r.take a.toNat) := by simp [bytesV, List.map_take]
        rw [e2]
        refine GC_skip ?_
        refine GC_seq ?_
        refine GC_region ?_
        refine GL_v rfl (rv_mv (v := .int .i64 _) vw) ?_
        refine GL_v rfl (rv_mv (v := b8 code) vw) ?_
        refine GL_v rfl (rv_mv (v := .slice _ _ _) vw) ?_
        refine GL_v rfl (rv_mv (v := .int .i64 _) vw) ?_
        refine GL_v rfl (rv_add (r := ((a.toNat + 1 : Nat) : Int)) vw vw (fun _ => by rw [IntWalk.i64_in _ (by omega)]; omega)) ?_
        refine GL_v rfl (rv_slB (l := 1) (h := a.toNat + 1) el22 vw vw vw (fun _ => rfl) (fun _ => rfl) (fun _ => ⟨by omega, by omega⟩)) ?_
        refine GL_call rfl cb123 (rParts_ct dir code may one (by omega) hr (cut A k 1 1) (a.toNat + 1 - 1) (k - 1) (r.take a.toNat) (by omega)) rfl .nil sR ?_
        rintro _ _ _ ⟨l, hs, Ao, no, ko, rfl, hQ, hlen, rfl, rfl⟩
        simp only [List.cons_append, List.nil_append]
        obtain ⟨Q, hQe⟩ : ∃ Q, partsQ one (r.take a.toNat) = Q := ⟨_, rfl⟩
        rw [hQe] at hQ hpp ⊢
        have hw0 : withinS Q.2.e = 0 ↔ Q.2.e = 0 := by unfold withinS; split <;> omega
        obtain ⟨we, hwe⟩ : ∃ we, withinS Q.2.e = we := ⟨_, rfl⟩
        rw [hwe] at hw0 hpp ⊢
        refine GL_v rfl (rv_mv (v := .tuple [.slice Ao no ko, .int .i64 we].toArray) vw) ?_
        refine GL_v rfl (rv_ext vw rfl) ?_
        refine GL_v rfl (rv_ext vw rfl) ?_
        refine GL_v rfl (rv_as (v := .slice _ _ _) vw) ?_
        refine GL_v rfl (rv_as (v := .int .i64 _) vw) ?_
        refine GL_nil ?_
        refine GC_seq ?_
        refine GC_seq ?_
        refine GC_region ?_
        refine GL_v rfl (rv_mv (v := .int .i64 _) vw) ?_
        refine GL_v rfl (rv_neq vw vw) ?_
        refine GL_nil ?_
        refine GC_cond rfl (fun h7 => ?_) (fun h7 => ?_)
        ·
         have hq : Q.2.e ≠ 0 := by have q := h7; simp at q; exact fun z => q (hw0.2 z)
         rw [if_pos hq] at hpp
         obtain rfl := hpp
         refine GC_seq ?_
         refine GC_region ?_
         refine GL_v rfl (rv_bld (z' := [.int .u8 0, .int .u8 0, .int .u16 0, .int .u16 0, .int .u16 0, .int .u16 0, .int .u16 0, .int .u16 0, .int .u16 0, .int .u16 0, .int .u16 0, .int .u16 0, .slice none 0 0, .slice none 0 0, .slice none 0 0, .slice none 0 0, .int .u8 0, .int .u8 0, .int .u8 0, .int .u8 0, .int .u8 0, .slice none 0 0]) z30 l30 (fun _ => rfl)) ?_
         refine GL_v rfl (rv_mv (v := .int .i64 _) vw) ?_
         refine GL_stA rfl rfl c30 (by simp [Value.oneCell']) (by rfl) ?_
         refine GL_v rfl (rv_as (v := .int .i64 _) vw) ?_
         refine GL_nil ?_
         refine GC_shift .nil (msg0 {}) ?_
         refine GC_ret ?_
         exact finA (T' := [msgR { m := {} }]) (.inr rfl) rfl rfl rfl inferInstance a30 rfl .nil sb ⟨{ m := {} }, rfl, rfl, rfl, rfl⟩
        ·
         have hq : Q.2.e = 0 := by have q := h7; simp at q; exact hw0.1 q
         rw [if_neg (by simp [hq])] at hpp
         have hlQ := hQ hq
         refine GC_skip ?_
         refine GC_seq ?_
         refine GC_seq ?_
         refine GC_region ?_
         refine GL_v rfl (rv_mv (v := .slice _ _ _) vw) ?_
         refine GL_v rfl (rv_len el22 vw) ?_
         refine GL_v rfl (rv_mv (v := .int .i64 _) vw) ?_
         refine GL_v rfl (rv_add (r := ((a.toNat + 1 : Nat) : Int)) vw vw (fun _ => by rw [IntWalk.i64_in _ (by omega)]; omega)) ?_
         refine GL_v rfl (rv_gtr vw vw) ?_
         refine GL_nil ?_
         refine GC_cond rfl (fun h8 => ?_) (fun h8 => ?_)
         ·
          have hl2 : a.toNat < r.length := by have := h8; simp at this; omega
          rw [if_pos hl2] at hpp
          obtain rfl := hpp
          refine GC_seq ?_
          refine GC_region ?_
          refine GL_v rfl (rv_bld (z' := [.int .u8 0, .int .u8 0, .int .u16 0, .int .u16 0, .int .u16 0, .int .u16 0, .int .u16 0, .int .u16 0, .int .u16 0, .int .u16 0, .int .u16 0, .int .u16 0, .slice none 0 0, .slice none 0 0, .slice none 0 0, .slice none 0 0, .int .u8 0, .int .u8 0, .int .u8 0, .int .u8 0, .int .u8 0, .slice none 0 0]) z30 l30 (fun _ => rfl)) ?_
          refine GL_stA rfl rfl c30 (by simp [Value.oneCell']) (by rfl) ?_
          refine GL_v rfl (rv_as (v := .int .i64 _) vw) ?_
          refine GL_nil ?_
          refine GC_shift .nil (msg0 {}) ?_
          refine GC_ret ?_
          exact finA (T' := [msgR { m := {} }]) (.inr rfl) rfl rfl rfl inferInstance a30 rfl .nil sb ⟨{ m := {} }, rfl, rfl, rfl, rfl⟩
         ·
          have hl2 : ¬ a.toNat < r.length := by have := h8; simp at this; omega
          rw [if_neg hl2, ← hlQ] at hpp
          obtain rfl := hpp
          refine GC_shift .nil (msgRecs { code := code, recs := l } ⟨Ao, no, ko⟩ hs hlen (by simp) (fun R hR => inT_bun (p := hs.length = l.length) (L := recRows l hs) (by simp) hR)) ?_
          refine GC_skip ?_
          refine GC_seq ?_
          refine GC_region ?_
          refine GL_v rfl (rv_mv (v := b8 code) vw) ?_
          refine GL_v rfl (rv_mv (v := .slice _ _ _) vw) ?_
          refine GL_v rfl (rv_bld (z' := MsgX.cells { m := { code := code, recs := l }, r := ⟨Ao, no, ko⟩, rw := hs }) z30 l30 (fun _ => rfl)) ?_
          refine GL_stA (l' := MsgX.cells { m := { code := code, recs := l }, r := ⟨Ao, no, ko⟩, rw := hs }) rfl rfl c30 (MsgX.cells_one _) (by rfl) ?_
          refine GL_v rfl (rv_as (v := .int .i64 _) vw) ?_
          refine GL_nil ?_
          refine GC_ret ?_
          exact finA (T' := [msgR { m := { code := code, recs := l }, r := ⟨Ao, no, ko⟩, rw := hs }]) (.inr rfl) rfl rfl rfl inferInstance a30 rfl .nil sb ⟨{ m := { code := code, recs := l }, r := ⟨Ao, no, ko⟩, rw := hs }, rfl, rfl, rfl, rfl⟩
end Go.Bus
