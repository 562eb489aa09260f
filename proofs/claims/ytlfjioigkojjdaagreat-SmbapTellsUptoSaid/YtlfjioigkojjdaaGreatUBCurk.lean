/- Part of the proof: Curk. No condition. -/
import Derived.Test.YtlfjioigkojjdaaGreatUBSpec
import Derived.Test.YtlfjioigkojjdaaGreatUBSame
set_option linter.unusedVariables false
namespace Go.Bus
open Go Go.Proofs
theorem Ct.monoW {P : Program} {f : FuncId} {args : List Value} {S T : List Res} {R R2 : Value → List Res → List Res → Prop} (h : Ct P f args S T R) (hR : ∀ v S' T' w w', Sat w S T → Sat w' S' T' → R v S' T' → R2 v S' T') : Ct P f args S T R2 :=
 ⟨fun w hs => (h.out w hs).mono (by rintro e w' ⟨v, S', T', rfl, hr, ht⟩; exact ⟨v, S', T', rfl, hR v S' T' w w' hs ht.sat hr, ht⟩)⟩
abbrev cub (B : Nat) (A : Option Addr) (n k : Nat) (s : Bool) (e : Int) : Res := blk B [.slice A n k, .bool s, .int .i64 e] 129
theorem len_of {w : World} {S T : List Res} {A : Option Addr} {n k : Nat} {l : List UInt8} (hs : Sat w S T) (h : row 1 A n k (bytesV l) ∈ T) : l.length = n := by
 have := (row_f (hs.okT _ h)).1; simpa [bytesV] using this
theorem Word_k (B n k : Nat) (A : Option Addr) (r : List UInt8) (s : Bool) (e : Int) (hn : n ≤ 35184372088832) : Ct PG 73 [.pointer (some ⟨B, 0, none⟩)] [cub B A n k s e] [row 1 A n k (bytesV r)]
 (fun v S' T' => ∃ a r1 s1 e1 A1 n1 k1, Cu.word ⟨r, s, e⟩ = (a, ⟨r1, s1, e1⟩) ∧ n1 ≤ 35184372088832 ∧ v = w16 a ∧ S' = [cub B A1 n1 k1 s1 e1] ∧ T' = [row 1 A1 n1 k1 (bytesV r1)]) := by
 refine (Word_ct B n k A r s e (by omega)).monoW ?_
 rintro _ _ _ w w' h1 h2 ⟨rfl, A1, n1, k1, rfl, rfl⟩
 have := len_of h1 (List.mem_cons_self ..)
 have := len_of h2 (List.mem_cons_self ..)
 have h3 := (⟨r, s, e⟩ : Cu).word_rest
 simp only at h3
 exact ⟨_, _, _, _, A1, n1, k1, rfl, by omega, rfl, rfl, rfl⟩
theorem Byte_k (B n k : Nat) (A : Option Addr) (r : List UInt8) (s : Bool) (e : Int) (hn : n ≤ 35184372088832) : Ct PG 74 [.pointer (some ⟨B, 0, none⟩)] [cub B A n k s e] [row 1 A n k (bytesV r)]
 (fun v S' T' => ∃ a r1 s1 e1 A1 n1 k1, Cu.byte ⟨r, s, e⟩ = (a, ⟨r1, s1, e1⟩) ∧ n1 ≤ 35184372088832 ∧ v = b8 a ∧ S' = [cub B A1 n1 k1 s1 e1] ∧ T' = [row 1 A1 n1 k1 (bytesV r1)]) := by
 refine (Byte_ct B n k A r s e (by omega)).monoW ?_
 rintro _ _ _ w w' h1 h2 ⟨rfl, A1, n1, k1, rfl, rfl⟩
 have := len_of h1 (List.mem_cons_self ..)
 have := len_of h2 (List.mem_cons_self ..)
 have h3 := (⟨r, s, e⟩ : Cu).byte_rest
 simp only at h3
 exact ⟨_, _, _, _, A1, n1, k1, rfl, by omega, rfl, rfl, rfl⟩
theorem Bytes_k (B n k : Nat) (A : Option Addr) (r : List UInt8) (s : Bool) (e : Int) (j : Int) (hn : n ≤ 35184372088832) : Ct PG 75 [.pointer (some ⟨B, 0, none⟩), .int .i64 j] [cub B A n k s e] [row 1 A n k (bytesV r)]
 (fun v S' T' => ∃ a r1 s1 e1 A1 n1 k1 A2 n2 k2, Cu.bytes ⟨r, s, e⟩ j = (a, ⟨r1, s1, e1⟩) ∧ n1 ≤ 35184372088832 ∧ n2 ≤ 35184372088832 ∧ v = .slice A2 n2 k2 ∧ S' = [cub B A1 n1 k1 s1 e1] ∧ T' = [row 1 A1 n1 k1 (bytesV r1), row 1 A2 n2 k2 (bytesV a)]) := by
 refine (Bytes_ct B n k A r s e j (by omega)).monoW ?_
 rintro _ _ _ w w' h1 h2 ⟨A1, n1, k1, A2, n2, k2, rfl, rfl, rfl⟩
 have := len_of h1 (List.mem_cons_self ..)
 have := len_of h2 (List.mem_cons_self ..)
 have := len_of h2 (List.mem_cons_of_mem _ (List.mem_cons_self ..))
 have h3 := (⟨r, s, e⟩ : Cu).bytes_rest j
 have h4 := (⟨r, s, e⟩ : Cu).bytes_le j
 simp only at h3 h4
 exact ⟨_, _, _, _, A1, n1, k1, A2, n2, k2, rfl, by omega, by omega, rfl, rfl, rfl⟩
theorem Words_k (B n k : Nat) (A : Option Addr) (r : List UInt8) (s : Bool) (e : Int) (j : Int) (hn : n ≤ 35184372088832) : Ct PG 132 [.pointer (some ⟨B, 0, none⟩), .int .i64 j] [cub B A n k s e] [row 1 A n k (bytesV r)]
 (fun v S' T' => ∃ a r1 s1 e1 A1 n1 k1 A2 n2 k2, Cu.words ⟨r, s, e⟩ j = (a, ⟨r1, s1, e1⟩) ∧ n1 ≤ 35184372088832 ∧ v = .slice A2 n2 k2 ∧ S' = [cub B A1 n1 k1 s1 e1] ∧ T' = [row 1 A1 n1 k1 (bytesV r1), row 1 A2 n2 k2 (wordsV a)]) := by
 refine (Words_ct B n k A r s e j (by omega)).monoW ?_
 rintro _ _ _ w w' h1 h2 ⟨A1, n1, k1, A2, n2, k2, rfl, rfl, rfl⟩
 have := len_of h1 (List.mem_cons_self ..)
 have := len_of h2 (List.mem_cons_self ..)
 have h3 := (⟨r, s, e⟩ : Cu).words_rest j
 simp only at h3
 exact ⟨_, _, _, _, A1, n1, k1, A2, n2, k2, rfl, by omega, rfl, rfl, rfl⟩
theorem New_k (A : Option Addr) (n k : Nat) (l : List UInt8) (hn : n ≤ 35184372088832) : Ct PG 72 [.slice A n k] [] [row 1 A n k (bytesV l)]
 (fun v S' T' => ∃ B A1 n1 k1, n1 ≤ 35184372088832 ∧ v = .pointer (some ⟨B, 0, none⟩) ∧ S' = [cub B A1 n1 k1 false 0] ∧ T' = [row 1 A1 n1 k1 (bytesV l)]) := by
 refine (New_ct A n k l (by omega)).monoW ?_
 rintro _ _ _ w w' h1 h2 ⟨B, rfl, A1, n1, k1, rfl, rfl⟩
 have h5 : l.length = n := len_of h1 (List.mem_cons_self ..)
 have h6 : l.length = n1 := len_of h2 (List.mem_cons_self ..)
 exact ⟨B, A1, n1, k1, by omega, rfl, rfl, rfl⟩
theorem Need_k (B n k : Nat) (A : Option Addr) (r : List UInt8) (s : Bool) (e : Int) (ok : Bool) (j : Int) : Ct PG 133 [.pointer (some ⟨B, 0, none⟩), .bool ok, .int .i64 j] [cub B A n k s e] []
 (fun v S' T' => ∃ e1, Cu.need ⟨r, s, e⟩ ok j = ⟨r, s, e1⟩ ∧ v = .tuple #[] ∧ S' = [cub B A n k s e1] ∧ T' = []) := by
 refine (Need_ct B n k A s e ok j).monoW ?_
 rintro _ _ _ w w' h1 h2 ⟨rfl, rfl, rfl⟩
 exact ⟨_, rfl, rfl, rfl, rfl⟩
theorem End_k (B n k : Nat) (A : Option Addr) (r : List UInt8) (s : Bool) (e : Int) : Ct PG 159 [.pointer (some ⟨B, 0, none⟩)] [cub B A n k s e] [row 1 A n k (bytesV r)]
 (fun v S' T' => ∃ e1, Cu.fin ⟨r, s, e⟩ = ⟨r, s, e1⟩ ∧ v = .tuple #[] ∧ S' = [cub B A n k s e1] ∧ T' = []) :=
 ⟨fun w hs => by
  have h5 : r.length = n := len_of hs (List.mem_cons_self ..)
  refine ((End_ct B n k A s e).out w (hs.subT (by simp))).mono ?_
  rintro en w' ⟨v, S', T', rfl, ⟨rfl, rfl, rfl⟩, ht⟩
  refine ⟨_, _, _, rfl, ⟨_, rfl, rfl, ?_, rfl⟩, ⟨ht.go, ht.sat, ht.own, fun _ h => absurd h (by simp)⟩⟩
  rw [← h5]
  have : decide (((r.length : Nat) : Int) = 0) = decide (r.length = 0) := by congr 1; apply propext; omega
  rw [this]⟩
theorem Left_k (B n k : Nat) (A : Option Addr) (r : List UInt8) (s : Bool) (e : Int) : CtD PG 76 [.pointer (some ⟨B, 0, none⟩)] [cub B A n k s e] [row 1 A n k (bytesV r)] (.int .i64 r.length) [cub B A n k s e] [] :=
 ⟨fun w hs => by
  have h5 : r.length = n := len_of hs (List.mem_cons_self ..)
  refine ((Left_ct B n k A s e).out w (hs.subT (by simp))).mono ?_
  rintro en w' ⟨v, S', T', rfl, ⟨rfl, rfl, rfl⟩, ht⟩
  refine ⟨_, _, _, rfl, ⟨?_, rfl, rfl⟩, ⟨ht.go, ht.sat, ht.own, fun _ h => absurd h (by simp)⟩⟩
  rw [h5]⟩
theorem blk_toT {T : List Res} {B : Nat} {l : List Value} {t : TypeId} : Shift [blk B l t] T [] [blk B l t] := seeT (fun _ h => h) (fun _ h => h)
end Go.Bus
