/- The law FrameSpoilt: the call returns true. -/
import Derived.Test.YthbjjfpikfmmnaaF9
namespace Go.Proofs.Ythbjjfpikfmmnaa
open Go.RowKit

/-! ### What is decoded without an error does not depend on what follows -/
theorem rd_app : ∀ (l m : List Nat) (i acc : Nat), (rd l i acc).2.2 = 0 → rd (l ++ m) i acc = rd l i acc
  | [], m, i, acc, h => by
    simp only [rd] at h
    split at h <;> cases h
  | b :: l, m, i, acc, h => by
    simp only [List.cons_append, rd] at h ⊢
    split at h
    · cases h
    split at h
    · cases h
    split at h
    · rename_i h1 h2 h3
      rw [if_neg h1, if_neg h2, if_pos h3, if_neg h1, if_neg h2, if_pos h3]
      exact rd_app l m _ _ h
    · rename_i h1 h2 h3
      rw [if_neg h1, if_neg h2, if_neg h3]
      rw [if_neg h1, if_neg h2, if_neg h3]
theorem numF_err {all : List Nat} {most : Nat} {over : Int} {s : Nat × Int} (h : s.2 ≠ 0) : numF all most over s = (0, s) := by rw [numF, if_pos h]
theorem textF_err {all : List Nat} {s : Nat × Int} (h : s.2 ≠ 0) : (textF all s).2 = s := by
  unfold textF
  rw [numF_err h]
  dsimp only
  rw [if_pos h]
theorem tagsF_err {all : List Nat} : ∀ {n : Nat} {s : Nat × Int}, s.2 ≠ 0 → (tagsF all n s).2 = s
  | 0, s, h => rfl
  | n + 1, s, h => by
    rw [tagsF]
    dsimp only
    rw [textF_err (all := all) (s := s) h, textF_err (all := all) (s := s) h, tagsF_err h]
theorem numF_app {all : List Nat} (ys : List Nat) {most : Nat} {over : Int} {s : Nat × Int} (hov : over ≠ 0) (hs : s.1 ≤ all.length) (h : (numF all most over s).2.2 = 0) : numF (all ++ ys) most over s = numF all most over s := by
  unfold numF at h ⊢
  rw [List.drop_append_of_le_length hs]
  split at h
  · rename_i h1; exact absurd h h1
  rename_i h1
  split at h
  · rename_i h2; exact absurd h h2
  rename_i h2
  have h3 : readL (all.drop s.1 ++ ys) = readL (all.drop s.1) := rd_app _ _ _ _ (Classical.not_not.1 h2)
  rw [h3]
theorem textF_app {all : List Nat} (ys : List Nat) {s : Nat × Int} (hs : s.1 ≤ all.length) (h : (textF all s).2.2 = 0) : textF (all ++ ys) s = textF all s := by
  have hu := numF_used all 4096 4 s hs
  unfold textF at h ⊢
  dsimp only at h ⊢
  have h0 : (numF all 4096 4 s).2.2 = 0 := by
    refine Classical.byContradiction fun hn => ?_
    rw [if_pos hn] at h
    exact hn h
  rw [numF_app ys (by decide) hs h0]
  rw [if_neg (by simpa using h0)] at h
  split at h
  · cases h
  rename_i h1
  rw [if_neg (by simpa using h0), if_neg (by rw [List.length_append]; omega), if_neg (by simpa using h0), if_neg h1, List.drop_append_of_le_length hu, List.take_append_of_le_length (by rw [List.length_drop]; omega)]
theorem tagsF_app {all : List Nat} (ys : List Nat) : ∀ {n : Nat} {s : Nat × Int}, s.1 ≤ all.length → (tagsF all n s).2.2 = 0 → tagsF (all ++ ys) n s = tagsF all n s
  | 0, s, _, _ => rfl
  | n + 1, s, hs, h => by
    rw [tagsF] at h ⊢
    rw [tagsF]
    dsimp only at h ⊢
    have hu1 := textF_used all s hs
    have hu2 := textF_used all (textF all s).2 hu1
    have h2 : (textF all (textF all s).2).2.2 = 0 := Classical.byContradiction fun hn => by rw [tagsF_err hn] at h; exact hn h
    have h1 : (textF all s).2.2 = 0 := Classical.byContradiction fun hn => by rw [textF_err hn] at h2; exact hn h2
    rw [textF_app ys hs h1, textF_app ys hu1 h2, tagsF_app ys hu2 h]
theorem decF_app {xs : List Nat} (ys : List Nat) (h : (decF xs).2 = 0) : decF (xs ++ ys) = decF xs := by
  have hu1 := numF_used xs 1099511627776 1 (0, 0) (Nat.zero_le _)
  have hu2 := numF_used xs 18446744073709551615 1 _ hu1
  have hu3 := numF_used xs 8 5 _ hu2
  unfold decF at h ⊢
  dsimp only at h ⊢
  have h4 : (tagsF xs (numF xs 8 5 (numF xs 18446744073709551615 1 (numF xs 1099511627776 1 (0, 0)).2).2).1 (numF xs 8 5 (numF xs 18446744073709551615 1 (numF xs 1099511627776 1 (0, 0)).2).2).2).2.2 = 0 :=
    Classical.byContradiction fun hn => by rw [if_pos hn] at h; exact hn h
  have h3 : (numF xs 8 5 (numF xs 18446744073709551615 1 (numF xs 1099511627776 1 (0, 0)).2).2).2.2 = 0 :=
    Classical.byContradiction fun hn => by rw [tagsF_err hn] at h4; exact hn h4
  have h2 : (numF xs 18446744073709551615 1 (numF xs 1099511627776 1 (0, 0)).2).2.2 = 0 :=
    Classical.byContradiction fun hn => by rw [numF_err hn] at h3; exact hn h3
  have h1 : (numF xs 1099511627776 1 (0, 0)).2.2 = 0 :=
    Classical.byContradiction fun hn => by rw [numF_err (s := (numF xs 1099511627776 1 (0, 0)).2) hn] at h2; exact hn h2
  rw [numF_app ys (by decide) (Nat.zero_le _) h1, numF_app ys (by decide) hu1 h2, numF_app ys (by decide) hu2 h3, tagsF_app ys hu3 h4]

/-! ### A body that is cut -/
theorem decF_cut {x : Ev} (h : deckEv 50 x) {q : Nat} (hq : q < (evE x).1.length) : (decF ((evE x).1.take q)).2 ≠ 0 := by
  intro h0
  have h1 := decF_app ((evE x).1.drop q) h0
  rw [List.take_append_drop] at h1
  have h2 := evE_dec h []
  rw [List.append_nil, h1] at h2
  have h3 := decF_used ((evE x).1.take q)
  rw [h2, List.length_take] at h3
  dsimp only at h3
  omega
theorem inpsF_cut (most : Int) : ∀ (E : List Ev) (q : Nat), (∀ x ∈ E, deckEv 50 x) → q < (evsB E).length →
    ∃ (p : Nat) (rest : List Nat), p < E.length ∧ inpsF most E.length ((evsB E).take q) = ((E.map (inpE most)).take p, rest, false)
  | [], q, _, hq => by simp [evsB] at hq
  | x :: E, q, h, hq => by
    have hx := h x (List.mem_cons_self ..)
    have he : evsB (x :: E) = (evE x).1 ++ evsB E := by simp [evsB]
    rw [he] at hq ⊢
    rw [List.length_append] at hq
    rw [List.length_cons, inpsF]
    by_cases hl : q < (evE x).1.length
    · rw [List.take_append_of_le_length (by omega), if_pos (decF_cut hx hl)]
      exact ⟨0, _, by omega, rfl⟩
    · obtain ⟨p, rest, hp, hr⟩ := inpsF_cut most E (q - (evE x).1.length) (fun y hy => h y (List.mem_cons_of_mem _ hy)) (by omega)
      have h1 := evE_dec hx ((evsB E).take (q - (evE x).1.length))
      have h4 : ((x.2.2.1.toNat : Nat) : Int) = x.2.2.1 := by have := hx.2.2.1; omega
      have h5 : ((evE x).1 ++ evsB E).take q = (evE x).1 ++ (evsB E).take (q - (evE x).1.length) := by rw [List.take_append, List.take_of_length_le (by omega)]
      rw [h5, h1, if_neg (by simp)]
      dsimp only
      rw [List.drop_left, hr, h4]
      exact ⟨p + 1, rest, by omega, rfl⟩
theorem evsB_pos {E : List Ev} (h1 : 1 ≤ E.length) (h : ∀ x ∈ E, deckEv 50 x) : 1 ≤ (evsB E).length := by
  cases E with
  | nil => simp at h1
  | cons x E =>
    have h2 := evE_deck (h x (List.mem_cons_self ..))
    have h3 := venc_len x.2.2.2
    have h4 : (evE x).1.length ≥ 1 := by rw [h2]; simp only [List.length_append]; omega
    simp only [evsB, List.flatMap_cons, List.length_append]
    omega
theorem readF_cut (most : Int) {E : List Ev} {a : Nat} (h1 : 1 ≤ E.length) (h2 : E.length ≤ 12) (h : ∀ x ∈ E, deckEv 50 x) (ha : 1 ≤ a) (hl : a < (venc E.length ++ evsB E).length) :
    ∃ p, p < E.length ∧ readF ((venc E.length ++ evsB E).take a) most = (E.map (inpE most)).take p ++ List.replicate (E.length - p) badIn := by
  have hv := venc_small (x := E.length) (by omega)
  rw [List.length_append] at hl
  obtain ⟨p, rest, hp, hr⟩ := inpsF_cut most E (a - 1) h (by omega)
  have ht : (venc E.length ++ evsB E).take a = venc E.length ++ (evsB E).take (a - 1) := by rw [List.take_append, List.take_of_length_le (by omega), hv]
  refine ⟨p, hp, ?_⟩
  unfold readF
  rw [ht, readL_venc _ _ (by omega)]
  dsimp only
  rw [if_neg (by omega), List.drop_left, hr]
  dsimp only
  rw [if_neg (by simp), List.length_take, List.length_map, Nat.min_eq_left (by omega)]
end Go.Proofs.Ythbjjfpikfmmnaa
