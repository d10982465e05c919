/- The proof kit, twelfth part: the order of texts; sorted lists of texts. -/
import Derived.Test.YtkoklfagmbaapaaK1
namespace Go.Proofs.Ytkoklfagmbaapaa
open Go.RowKit

/-! ### The order of texts -/
theorem bl_irrefl : ∀ l : List UInt8, Op.bytesLess l l = false
  | [] => rfl
  | a :: l => by simp [Op.bytesLess, bl_irrefl l]
theorem bl_trans : ∀ a b c : List UInt8, Op.bytesLess a b = true → Op.bytesLess b c = true → Op.bytesLess a c = true
  | _, [], _, h, _ => by simp [Op.bytesLess] at h
  | _, _ :: _, [], _, h => by simp [Op.bytesLess] at h
  | [], _ :: _, _ :: _, _, _ => rfl
  | a :: x, b :: y, c :: z, h1, h2 => by
    simp only [Op.bytesLess, Bool.or_eq_true, Bool.and_eq_true, decide_eq_true_eq, beq_iff_eq] at *
    rcases h1 with h1 | ⟨rfl, h1⟩
    · rcases h2 with h2 | ⟨rfl, h2⟩
      · exact .inl (UInt8.lt_trans h1 h2)
      · exact .inl h1
    · rcases h2 with h2 | ⟨rfl, h2⟩
      · exact .inl h2
      · exact .inr ⟨rfl, bl_trans x y z h1 h2⟩
theorem bl_total : ∀ a b : List UInt8, Op.bytesLess a b = false → Op.bytesLess b a = false → a = b
  | [], [], _, _ => rfl
  | [], _ :: _, h, _ => by simp [Op.bytesLess] at h
  | _ :: _, [], _, h => by simp [Op.bytesLess] at h
  | a :: x, b :: y, h1, h2 => by
    simp only [Op.bytesLess, Bool.or_eq_false_iff, Bool.and_eq_false_iff, decide_eq_false_iff_not, beq_eq_false_iff_ne] at *
    have e : a = b := UInt8.le_antisymm (UInt8.not_lt.1 h2.1) (UInt8.not_lt.1 h1.1)
    subst e
    rw [bl_total x y (h1.2.resolve_left (by simp)) (h2.2.resolve_left (by simp))]
def nlt (a b : ByteArray) : Bool := Op.bytesLess a.data.toList b.data.toList
theorem nlt_irrefl (a : ByteArray) : nlt a a = false := bl_irrefl _
theorem nlt_trans {a b c : ByteArray} (h1 : nlt a b = true) (h2 : nlt b c = true) : nlt a c = true := bl_trans _ _ _ h1 h2
theorem nlt_total {a b : ByteArray} (h1 : nlt a b = false) (h2 : nlt b a = false) : a = b := by
  have := bl_total _ _ h1 h2
  cases a; cases b
  exact congrArg ByteArray.mk (Array.ext' this)
theorem nlt_ne {a b : ByteArray} (h : nlt a b = true) : a ≠ b := fun e => by subst e; rw [nlt_irrefl] at h; cases h
theorem nlt_asymm {a b : ByteArray} (h : nlt a b = true) : nlt b a = false := by
  cases h' : nlt b a with
  | false => rfl
  | true => have := nlt_trans h h'; rw [nlt_irrefl] at this; cases this
/-- a is not above b, b not above c: a is not above c. -/
theorem nle_trans {a b c : ByteArray} (h1 : nlt b a = false) (h2 : nlt c b = false) : nlt c a = false := by
  cases h : nlt c a with
  | false => rfl
  | true =>
    cases h3 : nlt a b with
    | true => rw [nlt_trans h h3] at h2; cases h2
    | false => rw [nlt_total h3 h1] at h; rw [h] at h2; cases h2


/-! ### Sorted lists of texts -/
def Srts (l : List ByteArray) : Prop := l.Pairwise fun a b => nlt a b = true
def Wks (l : List ByteArray) : Prop := l.Pairwise fun a b => nlt b a = false
theorem srts_unique : ∀ {a b : List ByteArray}, Srts a → Srts b → a.Perm b → a = b
  | [], b, _, _, p => by rw [List.nil_perm.1 p]
  | x :: a, [], _, _, p => by have := p.length_eq; simp at this
  | x :: a, y :: b, ha, hb, p => by
    obtain ⟨ha1, ha2⟩ := List.pairwise_cons.1 ha
    obtain ⟨hb1, hb2⟩ := List.pairwise_cons.1 hb
    have e : x = y := by
      rcases List.mem_cons.1 (p.mem_iff.1 (List.mem_cons_self ..)) with h | h
      · exact h
      · rcases List.mem_cons.1 (p.mem_iff.2 (List.mem_cons_self ..)) with h' | h'
        · exact h'.symm
        · have := nlt_asymm (hb1 x h)
          rw [ha1 y h'] at this
          cases this
    subst e
    rw [srts_unique ha2 hb2 (List.Perm.cons_inv p)]
theorem wks_srts {l : List ByteArray} (h : Wks l) (hn : l.Nodup) : Srts l := by
  refine (List.Pairwise.and h hn).imp fun {a b} hab => ?_
  cases h' : nlt a b with
  | true => rfl
  | false => exact absurd (nlt_total h' hab.1) hab.2
theorem wks_insert {q r : List ByteArray} {t : ByteArray} (h : Wks (q ++ r)) (hq : ∀ y ∈ q, nlt t y = false) (hr : ∀ y ∈ r, nlt t y = true) : Wks (q ++ t :: r) := by
  unfold Wks at *
  rw [List.pairwise_append] at h ⊢
  refine ⟨h.1, List.pairwise_cons.2 ⟨fun y hy => nlt_asymm (hr y hy), h.2.1⟩, fun a ha b hb => ?_⟩
  rcases List.mem_cons.1 hb with rfl | hb
  · exact hq a ha
  · exact h.2.2 a ha b hb
end Go.Proofs.Ytkoklfagmbaapaa
