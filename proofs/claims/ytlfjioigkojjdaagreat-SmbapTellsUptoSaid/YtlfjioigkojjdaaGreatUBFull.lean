/- Part of the proof: Full. No condition. -/
import Derived.Test.YtlfjioigkojjdaaGreatUBFiles
import Derived.Test.YtlfjioigkojjdaaGreatUBRange
import Derived.Test.YtlfjioigkojjdaaGreatUBPuref
set_option linter.unusedVariables false
set_option linter.unusedSimpArgs false
set_option maxRecDepth 100000
set_option maxHeartbeats 4000000
namespace Go.Bus
open Go Go.Proofs
class InsA (R : Res) (r : outParam (List Res)) (L : List Res) : Prop where
 out : Ins R r L
instance (priority := 1000) insA0 {R : Res} {L : List Res} : InsA R L (R :: L) := ⟨.here⟩
instance (priority := 900) insA1 {R x : Res} {r L : List Res} [h : InsA R r L] : InsA R (x :: r) (x :: L) := ⟨.there h.out⟩
class PullA (s : List Res) (r : outParam (List Res)) (L : List Res) : Prop where
 out : Pull L s r
instance pullA0 {L : List Res} : PullA [] L L := ⟨.nil⟩
instance pullA1 {R : Res} {s r L L' : List Res} [h : InsA R L' L] [h2 : PullA s r L'] : PullA (R :: s) r L := ⟨.cons h.out h2.out⟩
theorem pA {s r L : List Res} [h : PullA s r L] : Pull L s r := h.out
def mrc (code : UInt8) (Ao : Option Addr) (no ko : Nat) : List Value := [b8 code, .int .u8 0, .int .u16 0, .int .u16 0, .int .u16 0, .int .u16 0, .int .u16 0, .int .u16 0, .int .u16 0, .int .u16 0, .int .u16 0, .int .u16 0, .slice none 0 0, .slice none 0 0, .slice none 0 0, .slice Ao no ko, .int .u8 0, .int .u8 0, .int .u8 0, .int .u8 0, .int .u8 0, .slice none 0 0]
theorem full_ct (B : Nat) (fv : Value) (h1 : fv.oneCell' = true) : Ct PG 168 [.pointer (some ⟨B, 0, none⟩), fv] [] []
 (fun v S' T' => ∃ b2 b3, v = .func (.func 215) [].toArray [.pointer (some ⟨b2, 0, none⟩), .pointer (some ⟨b3, 0, none⟩)].toArray ∧ S' = [] ∧ T' = [blk b2 [.pointer (some ⟨B, 0, none⟩)] 80, blk b3 [fv] 158]) := by
 refine Ct_of Tryz.func168 rfl 6 rfl (Nat.le_of_ble_eq_true rfl) fun w0 M N => ?_
 refine GC_seq ?_
 refine GC_region ?_
 refine GL_box1 (u := .pointer _) rfl rfl rfl (fun b2 => ?_)
 refine GL_box1 (u := fv) rfl rfl h1 (fun b3 => ?_)
 refine GL_v rfl (rv_as (v := .nilFunc) vw) ?_
 refine GL_nil ?_
 refine GC_seq ?_
 refine GC_region ?_
 refine GL_v rfl (rv_mfE (la := []) (lb := [.pointer (some ⟨b2, 0, none⟩), .pointer (some ⟨b3, 0, none⟩)]) rfl rfl) ?_
 refine GL_v rfl (rv_as (v := .func _ _ _) vw) ?_
 refine GL_nil ?_
 refine GC_shift (pB (B := b3)) blk_toT ?_
 refine GC_shift (pB (B := b2)) blk_toT ?_
 refine GC_ret ?_
 exact fin1 (.inr rfl) rfl rfl .nil sb ⟨b2, b3, rfl, rfl, rfl⟩
abbrev JS (rdy X : Res) (Bm : Nat) (code : UInt8) (Ao : Option Addr) (ko : Nat) (l : List RecD) (hs : List Hd) : List Res := [rdy, blk Bm (mrc code Ao l.length ko) 30, own 76 4 Ao l.length ko (recsV l hs)]
def YOut (rdy X : Res) (Bm : Nat) (code : UInt8) (l : List RecD) (hs : List Hd) (v : Value) (S' T' : List Res) : Prop := v = .bool true ∧ ∃ A' k', S' = JS rdy X Bm code A' k' l hs ∧ T' = [bun (hs.length = l.length) (recRows l hs)]
def FullOut (rdy X : Res) (Bm Bk Bs : Nat) (code : UInt8) (p : List RecD × Cu) (v : Value) (S' T' : List Res) : Prop := ∃ l hs r s e A n k Ao ko sum, p = (l, ⟨r, s, e⟩) ∧ hs.length = l.length ∧ l.length ≤ 255 ∧ n ≤ 35184372088832 ∧ S' = [rdy, X, blk Bm (mrc code Ao l.length ko) 30, own 76 4 Ao l.length ko (recsV l hs), cub Bk A n k s e, blk Bs [.int .i64 sum] 3] ∧ T' = [bun (hs.length = l.length) (recRows l hs), row 1 A n k (bytesV r)]
theorem full1_ct (L b2 b3 Bk Bs Bm n0 k0 : Nat) (A0 : Option Addr) (r0 : List UInt8) (code : UInt8) (one : Int → Cu → RecD × Cu × Int) (f : FuncId) (caps : List Value) (hcb : Cb PG f)
 (hct : ∀ B n k A r s e sum, 0 ≤ sum ∧ sum ≤ 1000000 → n ≤ 35184372088832 → Ct PG f (.pointer (some ⟨B, 0, none⟩) :: caps) [cub B A n k s e, blk Bs [.int .i64 sum] 3] [row 1 A n k (bytesV r)] (OneOut B Bs (one sum ⟨r, s, e⟩)))
 (hok : OneOk one) (rdy X : Res) (hr0 : r0.length ≤ 255) (hn0 : n0 ≤ 35184372088832)
 (YC : ∀ l hs x h Ao ko, l.length < 256 → hs.length = l.length → YCt PG L [.agg (recCells x h).toArray] (JS rdy X Bm code Ao ko l hs) [bun (hs.length = l.length) (recRows l hs), row 1 h.A h.n h.k (wordsV x.words)] (YOut rdy X Bm code (l ++ [x]) (hs ++ [h]))) :
 Ct PG 215 [.func (.yield L) #[] #[], .pointer (some ⟨b2, 0, none⟩), .pointer (some ⟨b3, 0, none⟩)]
  [rdy, X, blk Bm (mrc code none 0 0) 30, own 76 4 none 0 0 [], cub Bk A0 n0 k0 false 0, blk Bs [.int .i64 0] 3]
  [bun (([] : List Hd).length = ([] : List RecD).length) [], blk b2 [.pointer (some ⟨Bk, 0, none⟩)] 80, blk b3 [.func (.func f) [].toArray caps.toArray] 158, row 1 A0 n0 k0 (bytesV r0)]
  (FullOut rdy X Bm Bk Bs code (partsF one (r0.length + 1) 0 ⟨r0, false, 0⟩ [])) := by
 refine Ct_of Tryz.func215 rfl 25 rfl (Nat.le_of_ble_eq_true rfl) fun w0 M N => ?_
 obtain ⟨p, hp⟩ : ∃ p, partsF one (r0.length + 1) 0 ⟨r0, false, 0⟩ [] = p := ⟨_, rfl⟩
 rw [hp]
 refine GC_block ?_
 refine GC_loop (fun (m : Nat) E S T => ∃ l hs r s e A n k Ao ko sum fu, m = r.length ∧ p = partsF one (fu + 1) sum ⟨r, s, e⟩ l ∧ r.length ≤ fu ∧ (0 ≤ sum ∧ sum ≤ 1000) ∧ l.length + r.length ≤ 255 ∧ hs.length = l.length ∧ n ≤ 35184372088832 ∧ At E [(0, .func (.yield L) #[] #[]), (1, .pointer (some ⟨b2, 0, none⟩)), (2, .pointer (some ⟨b3, 0, none⟩))] ∧ S = [rdy, X, blk Bm (mrc code Ao l.length ko) 30, own 76 4 Ao l.length ko (recsV l hs), cub Bk A n k s e, blk Bs [.int .i64 sum] 3] ∧ T = [bun (hs.length = l.length) (recRows l hs), blk b2 [.pointer (some ⟨Bk, 0, none⟩)] 80, blk b3 [.func (.func f) [].toArray caps.toArray] 158, row 1 A n k (bytesV r)]) (fun m => m) r0.length ⟨[], [], r0, false, 0, A0, n0, k0, none, 0, 0, r0.length, rfl, hp.symm, Nat.le_refl _, ⟨by decide, by decide⟩, by simpa using hr0, rfl, hn0, ⟨rfl, rfl, rfl, trivial⟩, rfl, rfl⟩ ?_
 rintro m E S T ⟨l, hs, r, s, e, A, n, k, Ao, ko, sum, fu, rfl, hpf, hfu, hsum, hlr, hlen, hn, hE, rfl, rfl⟩
 obtain ⟨E0, rfl⟩ := hE.ex
 refine GC_seq ?_
 refine GC_seq ?_
 refine GC_region ?_
 refine GL_v rfl (rv_ld Tryz.underlying80 rfl vw) ?_
 refine GL_callD rfl cb76 (Left_k Bk n k A r s e) rfl pB sR ?_
 refine GL_v rfl (rv_gtr vw vw) ?_
 refine GL_v rfl (rv_mv (v := .bool _) vw) ?_
 refine GL_g rfl rfl gvt (rv_ld Tryz.underlying80 rfl vw) ?_
 refine GL_callG2 rfl rfl gvt cb160 (fun _ => Err_ct Bk n k A s e) (fun q => congrArg (· :: []) (vwg q)) (pB (B := Bk)) (fun _ => .nil) ?_
 simp only [List.cons_append, List.nil_append]
 refine GL_g rfl rfl gvt (rv_eql vwg vw) ?_
 refine GL_v rfl (rv_and vw vwg) ?_
 refine GL_nil ?_
 refine GC_cond rfl (fun h0 => ?_) (fun h0 => ?_)
 ·
  have hgo : 0 < r.length ∧ e = 0 := by have := h0; simp at this; exact ⟨by omega, this.2⟩
  obtain ⟨hless, hsum2⟩ := hok sum ⟨r, s, e⟩ hgo.1
  rw [partsF_step hgo] at hpf
  refine GC_skip ?_
  refine GC_block ?_
  refine GC_seq ?_
  refine GC_region ?_
  refine GL_v rfl (rv_ld (v := .func (.func f) [].toArray caps.toArray) Tryz.underlying158 rfl vw) ?_
  refine GL_v rfl (rv_ld Tryz.underlying80 rfl vw) ?_
  refine GL_callC rfl rfl hcb rfl (hct Bk n k A r s e sum ⟨hsum.1, by omega⟩ hn) (pB2 (B := Bk) (B2 := Bs)) sR ?_
  rintro _ _ _ ⟨x, h, r1, s1, e1, A1, n1, k1, sum1, hone, hn1, rfl, rfl, rfl⟩
  simp only [List.cons_append, List.nil_append]
  rw [hone] at hless hsum2 hpf
  simp only at hless hsum2 hpf
  refine GL_alloc rfl z76 (fun b4 => ?_)
  refine GL_stA (l' := recCells x h) rfl rfl c76 (recCells_one _ _) (by rfl) ?_
  refine GL_nil ?_
  refine GC_seq ?_
  refine GC_regionW ?_
  refine GLW_step rfl ?_
  refine GL_v rfl (rv_ld Tryz.underlying80 rfl vw) ?_
  refine GL_nil ?_
  refine GLW_step rfl ?_
  refine GL_callD rfl cb160 (Err_ct Bk n1 k1 A1 s1 e1) rfl (pB (B := Bk)) .nil ?_
  refine GL_nil ?_
  refine GLW_step rfl ?_
  refine GL_v rfl (rv_neq vw vw) ?_
  refine GL_nil ?_
  refine GLW_step rfl ?_
  refine GL_v rfl (rv_mv (v := .bool _) vw) ?_
  refine GL_nil ?_
  refine GLW_step rfl ?_
  refine GL_g rfl rfl gvf (rv_mv (v := .func _ _ _) vw) ?_
  refine GL_nil ?_
  refine GLW_step rfl ?_
  refine GL_g rfl rfl gvf (rv_ldA (l := recCells x h) a76 vw rfl) ?_
  refine GL_nil ?_
  refine GLW_yield rfl rfl gvf (fun q => vwg q) (fun q => congrArg (· :: []) (vwg q)) (fun _ => YC l hs x h Ao ko (by omega) hlen) pA sb ?_ ?_
  · rintro hg _ _ _ ⟨rfl, A', k', rfl, rfl⟩
    simp only [List.cons_append, List.nil_append]
    have he : e1 = 0 := by simpa using hg
    rw [if_neg (by simp [he])] at hpf
    refine GLW_step rfl ?_
    refine GL_g rfl rfl gvf (rv_not vw) ?_
    refine GL_nil ?_
    refine GLW_step rfl ?_
    refine GL_v rfl (rv_or vw vwg) ?_
    refine GL_nil ?_
    refine GLW_nil ?_
    refine GC_no (congrArg Value.bool (by simp [he])) ?_
    refine GC_drop (S' := [rdy, X, blk Bm (mrc code A' (l ++ [x]).length k') 30, own 76 4 A' (l ++ [x]).length k' (recsV (l ++ [x]) (hs ++ [h])), cub Bk A1 n1 k1 s1 e1, blk Bs [.int .i64 sum1] 3]) pA ?_
    refine GC_dropT (T' := [bun ((hs ++ [h]).length = (l ++ [x]).length) (recRows (l ++ [x]) (hs ++ [h])), blk b2 [.pointer (some ⟨Bk, 0, none⟩)] 80, blk b3 [.func (.func f) [].toArray caps.toArray] 158, row 1 A1 n1 k1 (bytesV r1)]) sb ?_
    refine GC_skip ?_
    obtain ⟨fu, rfl⟩ : ∃ q, fu = q + 1 := ⟨fu - 1, by omega⟩
    exact ⟨r1.length, ⟨l ++ [x], hs ++ [h], r1, s1, e1, A1, n1, k1, A', k', sum1, fu, rfl, hpf, by omega, hsum2 hsum he, by simp; omega, by simp [hlen], hn1, ⟨rfl, rfl, rfl, trivial⟩, rfl, rfl⟩, hless⟩
  · intro hg
    have he : ¬ e1 = 0 := by simpa using hg
    rw [if_pos (by simpa using he)] at hpf
    refine GLW_step rfl ?_
    refine GL_g rfl rfl gvf (rv_not (b := true) (fun q => by rw [hg] at q; cases q)) ?_
    refine GL_nil ?_
    refine GLW_step rfl ?_
    refine GL_v rfl (rv_or vw vwg) ?_
    refine GL_nil ?_
    refine GLW_nil ?_
    refine GC_yes (congrArg Value.bool (by simp [he])) ?_
    refine GC_ret ?_
    exact fin0 (.inr rfl) rfl pA sb ⟨l, hs, r1, s1, e1, A1, n1, k1, Ao, ko, sum1, hpf, hlen, by omega, hn1, rfl, rfl⟩
 ·
  have hno : ¬ (0 < r.length ∧ e = 0) := by have := h0; simp at this; rintro ⟨q1, q2⟩; exact this (by omega) q2
  rw [partsF_end hno] at hpf
  refine GC_exit ?_
  exact fin0 (.inl rfl) rfl pA sb ⟨l, hs, r, s, e, A, n, k, Ao, ko, sum, hpf, hlen, by omega, hn, rfl, rfl⟩
end Go.Bus
