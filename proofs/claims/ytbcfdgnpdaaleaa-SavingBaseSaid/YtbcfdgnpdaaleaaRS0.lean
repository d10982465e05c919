/- Orders by count: what holds of every order. -/
import Derived.Test.YtbcfdgnpdaaleaaR8
namespace Go.Proofs.Ytbcfdgnpdaaleaa
open Go.RowKit

structure OInv (n : Nat) (l : Ord) : Prop where
  asc : (l.map Prod.snd).Pairwise (· ≤ ·)
  nd : (ids l).Nodup
  rng : ∀ z ∈ ids l, 0 ≤ z ∧ z < n
  len : l.length ≤ n
  cnt : ∀ p ∈ l, p.2 ≤ 9223372036854775808
theorem flat_asc : ∀ {S : List Bk}, (S.map fun s => s.2.1).Pairwise (· < ·) → ((flat S).map Prod.snd).Pairwise (· ≤ ·)
  | [], _ => List.Pairwise.nil
  | s :: S, h => by
    rw [List.map_cons, List.pairwise_cons] at h
    rw [flat_cons, List.map_append, List.pairwise_append]
    refine ⟨?_, flat_asc h.2, ?_⟩
    · have : (bfl s).map Prod.snd = s.2.2.2.map fun _ => s.2.1 := by simp [bfl]
      rw [this, List.pairwise_map]
      exact List.pairwise_iff_getElem.2 fun _ _ _ _ _ => Nat.le_refl _
    · intro a ha b hb
      obtain ⟨p, hp, rfl⟩ := List.mem_map.1 ha
      obtain ⟨q, hq, rfl⟩ := List.mem_map.1 hb
      rw [bfl_cnt hp]
      obtain ⟨t, ht, e⟩ := flat_cnt hq
      rw [e]
      exact Nat.le_of_lt (h.1 _ (List.mem_map_of_mem ht))
theorem RkO.inv {b n : Nat} {l : Ord} {r : Res} (h : RkO b n l r) : OInv n l := by
  obtain ⟨S, rfl, hn1, hn2, B, pV, pl, rB, rs, rfl, hrB, hrs, hI⟩ := h
  refine ⟨flat_asc hI.asc, hI.nid, hI.rng, ?_, fun p hp => ?_⟩
  · have := range_len hI.nid hI.rng
    simpa [ids] using this
  · obtain ⟨s, hs, e⟩ := flat_cnt hp
    rw [e]
    exact hI.cnt s hs
theorem look_get {l : Ord} {i : Nat} {p : Int × Nat} (hnd : (ids l).Nodup) (h : l[i]? = some p) : look l p.1 = some p.2 := by
  induction l generalizing i with
  | nil => simp at h
  | cons q l ih =>
    simp only [ids, List.map_cons, List.nodup_cons] at hnd
    cases i with
    | zero => simp at h; subst h; rw [look, if_pos rfl]
    | succ i =>
      rw [List.getElem?_cons_succ] at h
      rw [look, if_neg (fun e => hnd.1 (by rw [e]; exact List.mem_map_of_mem (List.mem_of_getElem? h)))]
      exact ih hnd.2 h
theorem asc_get {l : Ord} {i : Nat} {p q : Int × Nat} (h : (l.map Prod.snd).Pairwise (· ≤ ·)) (h1 : l[i]? = some p) (h2 : l[i + 1]? = some q) : p.2 ≤ q.2 := by
  have hi : i + 1 < l.length := (List.getElem?_eq_some_iff.1 h2).1
  have := List.pairwise_iff_getElem.1 h i (i + 1) (by rw [List.length_map]; omega) (by rw [List.length_map]; omega) (Nat.lt_succ_self i)
  simp only [List.getElem_map] at this
  rw [List.getElem?_eq_getElem (by omega)] at h1 h2
  injection h1 with h1
  injection h2 with h2
  rw [h1, h2] at this
  exact this
theorem ids_get {l : Ord} {i : Nat} {p : Int × Nat} (h : l[i]? = some p) : (ids l)[i]? = some p.1 := by simp [ids, h]
end Go.Proofs.Ytbcfdgnpdaaleaa
