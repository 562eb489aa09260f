/- Part of the proof: Stream. No condition. -/
import Derived.Test.YtlfjioigkojjdaaGreatUBPlainb
set_option linter.unusedVariables false
set_option linter.unusedSimpArgs false
namespace Go.Bus
open Go Go.Proofs
structure EventD where
 e : Int := 0
 f : FrameD := {}
deriving DecidableEq
def evOf (p : FrameD × Int) : EventD := ⟨p.2, p.1⟩
structure Sr where
 held : List UInt8 := []
 off : Bool := false
deriving DecidableEq
structure Sm where
 held : List UInt8 := []
 skip : Nat := 0
deriving DecidableEq
def sizeN (h : List UInt8) : Nat := 256 * at8 h 4 + at8 h 5
def sm1 (dir : Int) (s : Sm) (c : UInt8) : List EventD × Sm :=
 if 0 < s.skip then ([], ⟨s.held, s.skip - 1⟩)
 else if (s.held ++ [c]).length < 6 then ([], ⟨s.held ++ [c], s.skip⟩)
 else if 254 < sizeN (s.held ++ [c]) then ([⟨3, {}⟩], ⟨[], sizeN (s.held ++ [c])⟩)
 else if sizeN (s.held ++ [c]) < 2 then ([⟨5, {}⟩], ⟨[], sizeN (s.held ++ [c])⟩)
 else if (s.held ++ [c]).length = 6 + sizeN (s.held ++ [c]) then ([evOf (P17 dir (s.held ++ [c]))], ⟨[], s.skip⟩)
 else ([], ⟨s.held ++ [c], s.skip⟩)
def smF (dir : Int) : Sm → List UInt8 → List EventD × Sm
 | s, [] => ([], s)
 | s, c :: l => ((sm1 dir s c).1 ++ (smF dir (sm1 dir s c).2 l).1, (smF dir (sm1 dir s c).2 l).2)
theorem smF_append (dir : Int) : ∀ (a b : List UInt8) (s : Sm), smF dir s (a ++ b) = ((smF dir s a).1 ++ (smF dir (smF dir s a).2 b).1, (smF dir (smF dir s a).2 b).2)
 | [], b, s => by simp [smF]
 | c :: a, b, s => by simp [smF, smF_append dir a b]
def of21 (dir : Int) : Nat → List UInt8 → List EventD × Nat
 | 0, b => ([], b.length)
 | f + 1, b =>
  if b.length < 6 then ([], b.length)
  else if 6 + sizeN b < 8 ∨ 260 < 6 + sizeN b then (⟨if 6 + sizeN b < 8 then 5 else 3, {}⟩ :: (of21 dir f (b.drop (6 + sizeN b))).1, (of21 dir f (b.drop (6 + sizeN b))).2)
  else if b.length < 6 + sizeN b then ([], b.length)
  else (evOf (P17 dir (b.take (6 + sizeN b))) :: (of21 dir f (b.drop (6 + sizeN b))).1, (of21 dir f (b.drop (6 + sizeN b))).2)
theorem sm_few (dir : Int) : ∀ (l h : List UInt8), (h ++ l).length < 6 → smF dir ⟨h, 0⟩ l = ([], ⟨h ++ l, 0⟩)
 | [], h, _ => by simp [smF]
 | c :: l, h, hl => by
  have : sm1 dir ⟨h, 0⟩ c = ([], ⟨h ++ [c], 0⟩) := by
   unfold sm1; rw [if_neg (by simp), if_pos (by simp at hl ⊢; omega)]
  simp only [smF, this]
  rw [sm_few dir l (h ++ [c]) (by simp at hl ⊢; omega)]; simp
theorem sm_skip (dir : Int) : ∀ (l : List UInt8) (k : Nat), (smF dir ⟨[], k⟩ l).1 = (smF dir ⟨[], 0⟩ (l.drop k)).1 ∧ (smF dir ⟨[], k⟩ l).2.held = (smF dir ⟨[], 0⟩ (l.drop k)).2.held
 | [], k => by simp [smF]
 | c :: l, 0 => by simp
 | c :: l, k + 1 => by
  have : sm1 dir ⟨[], k + 1⟩ c = ([], ⟨[], k⟩) := by unfold sm1; rw [if_pos (by simp)]; rfl
  simp only [smF, this, List.drop_succ_cons, List.nil_append]
  exact sm_skip dir l k
theorem sizeN_append {h l : List UInt8} (hl : 6 ≤ h.length) : sizeN (h ++ l) = sizeN h := by
 unfold sizeN at8
 simp only [List.getD_eq_getElem?_getD]
 rw [List.getElem?_append_left (by omega), List.getElem?_append_left (by omega)]
theorem sm_more (dir : Int) : ∀ (l h : List UInt8), 6 ≤ h.length → 2 ≤ sizeN h → sizeN h ≤ 254 → h.length < 6 + sizeN h →
 smF dir ⟨h, 0⟩ l = if (h ++ l).length < 6 + sizeN h then ([], ⟨h ++ l, 0⟩) else (evOf (P17 dir ((h ++ l).take (6 + sizeN h))) :: (smF dir ⟨[], 0⟩ ((h ++ l).drop (6 + sizeN h))).1, (smF dir ⟨[], 0⟩ ((h ++ l).drop (6 + sizeN h))).2)
 | [], h, h1, h2, h3, h4 => by rw [if_pos (by simpa using h4)]; simp [smF]
 | c :: l, h, h1, h2, h3, h4 => by
  have hs : sizeN (h ++ [c]) = sizeN h := sizeN_append h1
  by_cases he : h.length + 1 = 6 + sizeN h
  · have : sm1 dir ⟨h, 0⟩ c = ([evOf (P17 dir (h ++ [c]))], ⟨[], 0⟩) := by
     unfold sm1; rw [if_neg (by simp), if_neg (by simp; omega), if_neg (by simp only; omega), if_neg (by simp only; omega), if_pos (by simp only [hs]; simpa using he)]
    simp only [smF, this]
    rw [if_neg (by simp; omega)]
    have e1 : h ++ c :: l = (h ++ [c]) ++ l := by simp
    rw [e1, List.take_left' (by simpa using he), List.drop_left' (by simpa using he)]
    simp
  · have : sm1 dir ⟨h, 0⟩ c = ([], ⟨h ++ [c], 0⟩) := by
     unfold sm1; rw [if_neg (by simp), if_neg (by simp; omega), if_neg (by simp only; omega), if_neg (by simp only; omega), if_neg (by simp only [hs]; simpa using he)]
    simp only [smF, this]
    rw [sm_more dir l (h ++ [c]) (by simp; omega) (by omega) (by omega) (by simp; omega), hs]
    simp
theorem sm_of (dir : Int) : ∀ (f : Nat) (b : List UInt8), b.length ≤ f → (smF dir ⟨[], 0⟩ b).1 = (of21 dir f b).1 ∧ (smF dir ⟨[], 0⟩ b).2.held.length = (of21 dir f b).2
 | 0, b, hb => by
  have : b = [] := List.eq_nil_of_length_eq_zero (by omega)
  subst this; simp [smF, of21]
 | f + 1, b, hb => by
  unfold of21
  by_cases h6 : b.length < 6
  · rw [if_pos h6, sm_few dir b [] (by simpa using h6)]; simp
  · rw [if_neg h6]
    have hsz : sizeN (b.take 6) = sizeN b := by
     have := sizeN_append (h := b.take 6) (l := b.drop 6) (by simp; omega)
     rw [List.take_append_drop] at this; exact this.symm
    have hb5 : b = b.take 5 ++ (b.getD 5 0 :: b.drop 6) := by
     rw [List.getD_eq_getElem?_getD, List.getElem?_eq_getElem (by omega), Option.getD_some]
     have := List.take_append_drop 5 b
     rw [List.drop_eq_getElem_cons (by omega)] at this
     exact this.symm
    have h56 : b.take 5 ++ [b.getD 5 0] = b.take 6 := by
     rw [List.getD_eq_getElem?_getD, List.getElem?_eq_getElem (by omega), Option.getD_some]
     exact (take_snoc b 5 (by omega)).symm
    have hrun : smF dir ⟨[], 0⟩ b = ((sm1 dir ⟨b.take 5, 0⟩ (b.getD 5 0)).1 ++ (smF dir (sm1 dir ⟨b.take 5, 0⟩ (b.getD 5 0)).2 (b.drop 6)).1, (smF dir (sm1 dir ⟨b.take 5, 0⟩ (b.getD 5 0)).2 (b.drop 6)).2) := by
     conv => lhs; rw [hb5]
     rw [smF_append, sm_few dir (b.take 5) [] (by simp; omega)]
     simp [smF]
    have hlen6 : (b.take 6).length = 6 := by simp; omega
    by_cases hbad : 6 + sizeN b < 8 ∨ 260 < 6 + sizeN b
    · rw [if_pos hbad, hrun]
      have hst : sm1 dir ⟨b.take 5, 0⟩ (b.getD 5 0) = ([⟨if 6 + sizeN b < 8 then 5 else 3, {}⟩], ⟨[], sizeN b⟩) := by
       unfold sm1
       simp only [h56, hsz, hlen6]
       rw [if_neg (by omega), if_neg (by omega)]
       by_cases h : 254 < sizeN b
       · rw [if_pos h, if_neg (by omega)]
       · rw [if_neg h, if_pos (by omega), if_pos (by omega)]
      rw [hst]
      obtain ⟨q1, q2⟩ := sm_skip dir (b.drop 6) (sizeN b)
      obtain ⟨q3, q4⟩ := sm_of dir f (b.drop (6 + sizeN b)) (by simp; omega)
      simp only [List.drop_drop] at q1 q2
      simp only [q1, q2, q3, q4]
      simp
    · rw [if_neg hbad, hrun]
      have hst : sm1 dir ⟨b.take 5, 0⟩ (b.getD 5 0) = ([], ⟨b.take 6, 0⟩) := by
       unfold sm1
       simp only [h56, hsz, hlen6]
       rw [if_neg (by omega), if_neg (by omega), if_neg (by omega), if_neg (by omega), if_neg (by omega)]
      rw [hst]
      simp only [List.nil_append]
      rw [sm_more dir (b.drop 6) (b.take 6) (by omega) (by omega) (by omega) (by omega), hsz, List.take_append_drop]
      by_cases hl : b.length < 6 + sizeN b
      · rw [if_pos hl, if_pos hl]; simp
      · rw [if_neg hl, if_neg hl]
        obtain ⟨q3, q4⟩ := sm_of dir f (b.drop (6 + sizeN b)) (by simp; omega)
        simp only [q3, q4]; simp
end Go.Bus
