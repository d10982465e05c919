/- The plain law of sorting tags by their names: the sorted list is one alone. -/
import Derived.Test.YthbjjfpikfmmnaaD8
import Derived.Lib.Bytealg
namespace Go.Proofs.Ythbjjfpikfmmnaa
open Go.RowKit

/-! ### The order of texts -/
theorem bl_irrefl : ∀ l : List UInt8, Op.bytesLess l l = false
  | [] => rfl
  | a :: l => by simp [Op.bytesLess, bl_irrefl l]
theorem bl_trans : ∀ a b c : List UInt8, Op.bytesLess a b = true → Op.bytesLess b c = true → Op.bytesLess a c = true
  | _, [], _, h, _ => by simp [Op.bytesLess] at h
  | _, _ :: _, [], _, h => by simp [Op.bytesLess] at h
  | [], _ :: _, _ :: _, _, _ => rfl
  | a :: x, b :: y, c :: z, h1, h2 => by
    simp only [Op.bytesLess, Bool.or_eq_true, Bool.and_eq_true, decide_eq_true_eq, beq_iff_eq] at *
    rcases h1 with h1 | ⟨rfl, h1⟩
    · rcases h2 with h2 | ⟨rfl, h2⟩
      · exact .inl (UInt8.lt_trans h1 h2)
      · exact .inl h1
    · rcases h2 with h2 | ⟨rfl, h2⟩
      · exact .inl h2
      · exact .inr ⟨rfl, bl_trans x y z h1 h2⟩
theorem bl_total : ∀ a b : List UInt8, Op.bytesLess a b = false → Op.bytesLess b a = false → a = b
  | [], [], _, _ => rfl
  | [], _ :: _, h, _ => by simp [Op.bytesLess] at h
  | _ :: _, [], _, h => by simp [Op.bytesLess] at h
  | a :: x, b :: y, h1, h2 => by
    simp only [Op.bytesLess, Bool.or_eq_false_iff, Bool.and_eq_false_iff, decide_eq_false_iff_not, beq_eq_false_iff_ne] at *
    have e : a = b := UInt8.le_antisymm (UInt8.not_lt.1 h2.1) (UInt8.not_lt.1 h1.1)
    subst e
    rw [bl_total x y (h1.2.resolve_left (by simp)) (h2.2.resolve_left (by simp))]
theorem cmp_less : ∀ a b : List UInt8, decide (Lib.compareBytes a b < 0) = Op.bytesLess a b
  | [], [] => rfl
  | [], _ :: _ => rfl
  | _ :: _, [] => rfl
  | a :: x, b :: y => by
    unfold Lib.compareBytes Op.bytesLess
    by_cases h : a < b
    · simp [h]
    · by_cases h' : b < a
      · have : a ≠ b := fun e => by subst e; exact h h'
        simp [h, h', this]
      · have : a = b := UInt8.le_antisymm (UInt8.not_lt.1 h') (UInt8.not_lt.1 h)
        subst this
        simp [cmp_less x y]

def nlt (a b : ByteArray) : Bool := Op.bytesLess a.data.toList b.data.toList
theorem nlt_irrefl (a : ByteArray) : nlt a a = false := bl_irrefl _
theorem nlt_trans {a b c : ByteArray} (h1 : nlt a b = true) (h2 : nlt b c = true) : nlt a c = true := bl_trans _ _ _ h1 h2
theorem nlt_total {a b : ByteArray} (h1 : nlt a b = false) (h2 : nlt b a = false) : a = b := by
  have := bl_total _ _ h1 h2
  cases a; cases b
  exact congrArg ByteArray.mk (Array.ext' this)
theorem nlt_ne {a b : ByteArray} (h : nlt a b = true) : a ≠ b := fun e => by subst e; rw [nlt_irrefl] at h; cases h
theorem nlt_asymm {a b : ByteArray} (h : nlt a b = true) : nlt b a = false := by
  cases h' : nlt b a with
  | false => rfl
  | true => have := nlt_trans h h'; rw [nlt_irrefl] at this; cases this
/-- a is not above b, b not above c: a is not above c. -/
theorem nle_trans {a b c : ByteArray} (h1 : nlt b a = false) (h2 : nlt c b = false) : nlt c a = false := by
  cases h : nlt c a with
  | false => rfl
  | true =>
    cases h3 : nlt a b with
    | true => rw [nlt_trans h h3] at h2; cases h2
    | false => rw [nlt_total h3 h1] at h; rw [h] at h2; cases h2

/-! ### Sorted lists -/
def Srt (l : List Tg) : Prop := l.Pairwise fun a b => nlt a.1 b.1 = true
def Wk (l : List Tg) : Prop := l.Pairwise fun a b => nlt b.1 a.1 = false
def names (l : List Tg) : List ByteArray := l.map Prod.fst

theorem srt_unique : ∀ {a b : List Tg}, Srt a → Srt b → a.Perm b → a = b
  | [], b, _, _, p => by rw [List.nil_perm.1 p]
  | x :: a, [], _, _, p => by have := p.length_eq; simp at this
  | x :: a, y :: b, ha, hb, p => by
    obtain ⟨ha1, ha2⟩ := List.pairwise_cons.1 ha
    obtain ⟨hb1, hb2⟩ := List.pairwise_cons.1 hb
    have e : x = y := by
      rcases List.mem_cons.1 (p.mem_iff.1 (List.mem_cons_self ..)) with h | h
      · exact h
      · rcases List.mem_cons.1 (p.mem_iff.2 (List.mem_cons_self ..)) with h' | h'
        · exact h'.symm
        · have := nlt_asymm (hb1 x h)
          rw [ha1 y h'] at this
          cases this
    subst e
    rw [srt_unique ha2 hb2 (List.Perm.cons_inv p)]
theorem srt_nodup {l : List Tg} (h : Srt l) : (names l).Nodup := by
  unfold names List.Nodup
  rw [List.pairwise_map]
  exact h.imp fun h => nlt_ne h
theorem srt_snoc {l : List Tg} {p x : Tg} (h : Srt (l ++ [p])) (hp : nlt p.1 x.1 = true) : Srt (l ++ [p] ++ [x]) := by
  unfold Srt at *
  rw [List.pairwise_append]
  refine ⟨h, List.pairwise_singleton _ _, fun a ha b hb => ?_⟩
  rw [List.mem_singleton] at hb
  subst hb
  rcases List.mem_append.1 ha with ha | ha
  · exact nlt_trans ((List.pairwise_append.1 h).2.2 a ha p (List.mem_singleton.2 rfl)) hp
  · rw [List.mem_singleton] at ha; subst ha; exact hp

/-- The one list of these tags in order, if their names differ. -/
def ins (t : Tg) : List Tg → List Tg
  | [] => [t]
  | x :: l => if nlt x.1 t.1 then x :: ins t l else t :: x :: l
def isort (l : List Tg) : List Tg := l.foldl (fun o t => ins t o) []
theorem isort_snoc (l : List Tg) (t : Tg) : isort (l ++ [t]) = ins t (isort l) := by simp [isort]
theorem ins_perm (t : Tg) : ∀ l, (ins t l).Perm (t :: l)
  | [] => List.Perm.refl _
  | x :: l => by
    unfold ins; split
    · exact ((ins_perm t l).cons x).trans (List.Perm.swap ..)
    · exact List.Perm.refl _
theorem isort_perm (l : List Tg) : (isort l).Perm l := by
  have : ∀ k, (isort (l.take k)).Perm (l.take k) := by
    intro k
    induction k with
    | zero => simp [isort]
    | succ k ih =>
      cases h : l[k]? with
      | none => rwa [List.take_add_one, h, Option.toList_none, List.append_nil]
      | some t =>
        rw [take_snoc l k t h, isort_snoc]
        exact (ins_perm t _).trans ((ih.cons t).trans (List.perm_append_singleton t _).symm)
  have := this l.length
  rwa [List.take_of_length_le (Nat.le_refl _)] at this
theorem ins_srt (t : Tg) : ∀ {l : List Tg}, Srt l → (∀ x ∈ l, x.1 ≠ t.1) → Srt (ins t l)
  | [], _, _ => List.pairwise_singleton _ _
  | x :: l, h, hn => by
    obtain ⟨h1, h2⟩ := List.pairwise_cons.1 h
    unfold ins; split
    · rename_i hx
      refine List.pairwise_cons.2 ⟨fun y hy => ?_, ins_srt t h2 fun y hy => hn y (List.mem_cons_of_mem _ hy)⟩
      rcases List.mem_cons.1 ((ins_perm t l).mem_iff.1 hy) with rfl | hy
      · exact hx
      · exact h1 y hy
    · rename_i hx
      have hx' : nlt x.1 t.1 = false := by simpa using hx
      have htx : nlt t.1 x.1 = true := by
        cases h : nlt t.1 x.1 with
        | true => rfl
        | false => exact absurd (nlt_total hx' h) (hn x (List.mem_cons_self ..))
      refine List.pairwise_cons.2 ⟨fun y hy => ?_, h⟩
      rcases List.mem_cons.1 hy with rfl | hy
      · exact htx
      · exact nlt_trans htx (h1 y hy)
/-- Where the scan stops is where the tag belongs. -/
theorem ins_split (t : Tg) : ∀ (l : List Tg) (k : Nat), (∀ x ∈ l.take k, nlt x.1 t.1 = true) → (∀ x, l[k]? = some x → nlt x.1 t.1 = false) → ins t l = l.take k ++ t :: l.drop k
  | [], k, _, _ => by simp [ins]
  | x :: l, 0, _, h => by
    have := h x rfl
    simp [ins, this]
  | x :: l, k + 1, h1, h2 => by
    have := h1 x (by simp)
    simp only [ins, this, if_true, List.take_succ_cons, List.cons_append, List.drop_succ_cons]
    rw [ins_split t l k (fun y hy => h1 y (by simp [hy])) (fun y hy => h2 y (by simpa using hy))]
theorem isort_srt (l : List Tg) (h : (names l).Nodup) : Srt (isort l) := by
  have : ∀ k, Srt (isort (l.take k)) := by
    intro k
    induction k with
    | zero => exact List.Pairwise.nil
    | succ k ih =>
      cases hk : l[k]? with
      | none => rwa [List.take_add_one, hk, Option.toList_none, List.append_nil]
      | some t =>
        rw [take_snoc l k t hk, isort_snoc]
        refine ins_srt t ih fun x hx e => ?_
        have hx' := (isort_perm _).mem_iff.1 hx
        have hs : (l.take (k + 1)).Sublist l := List.take_sublist _ _
        rw [take_snoc l k t hk] at hs
        have hnd := (hs.map Prod.fst).nodup h
        rw [List.map_append, List.nodup_append] at hnd
        exact hnd.2.2 x.1 (List.mem_map_of_mem hx') t.1 (by simp) e
  have := this l.length
  rwa [List.take_of_length_le (Nat.le_refl _)] at this
theorem srt_isort {l out : List Tg} (h : Srt out) (hp : out.Perm l) : (names l).Nodup ∧ out = isort l := by
  have hn : (names l).Nodup := (hp.map Prod.fst).nodup_iff.1 (srt_nodup h)
  exact ⟨hn, srt_unique h (isort_srt l hn) (hp.trans (isort_perm l).symm)⟩

/-! ### What Sort answers -/
def sortErr (l : List Tg) : Int :=
  if l.length = 0 ∨ 8 < l.length then 5 else
  match l.find? fun t => validE t ≠ 0 with
  | some t => validE t
  | none => if (names l).Nodup then 0 else 5
def sortOut (l : List Tg) : List Tg := if sortErr l = 0 then isort l else []
theorem sortErr_bad {l : List Tg} (h0 : ¬ (l.length = 0 ∨ 8 < l.length)) (i : Nat) (t : Tg) (hi : l[i]? = some t) (hv : ∀ x ∈ l.take i, validE x = 0) (ht : validE t ≠ 0) : sortErr l = validE t := by
  have : l.find? (fun t => validE t ≠ 0) = some t := by
    have hs : l = l.take i ++ t :: l.drop (i + 1) := by
      obtain ⟨hlt, he⟩ := List.getElem?_eq_some_iff.1 hi
      rw [← he, ← List.drop_eq_getElem_cons hlt, List.take_append_drop]
    rw [hs, List.find?_append]
    have hn : (l.take i).find? (fun t => validE t ≠ 0) = none := by
      rw [List.find?_eq_none]
      intro x hx
      simp [hv x hx]
    rw [hn]
    simp [ht]
  rw [sortErr, if_neg h0, this]
theorem sortErr_all {l : List Tg} (h0 : ¬ (l.length = 0 ∨ 8 < l.length)) (hv : ∀ x ∈ l, validE x = 0) : sortErr l = if (names l).Nodup then 0 else 5 := by
  have : l.find? (fun t => validE t ≠ 0) = none := by
    rw [List.find?_eq_none]
    intro x hx
    simp [hv x hx]
  rw [sortErr, if_neg h0, this]
theorem validE_bounds (t : Tg) : 0 ≤ validE t ∧ validE t ≤ 5 := by
  unfold validE; split
  · omega
  split
  · split <;> omega
  · omega
end Go.Proofs.Ythbjjfpikfmmnaa
