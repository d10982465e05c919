/- Tables with open places: the plain facts. -/
import Derived.Test.YtkoklfagmbaapaaK11
namespace Go.Proofs.Ytkoklfagmbaapaa
open Go.RowKit

/-! ### Places in a circle -/
def adv (N h i : Nat) : Nat := if h + i < N then h + i else h + i - N
def dst (N h p : Nat) : Nat := if h ≤ p then p - h else p + N - h
theorem adv_lt {N h i : Nat} (h1 : h < N) (h2 : i < N) : adv N h i < N := by unfold adv; split <;> omega
theorem dst_lt {N h p : Nat} (h1 : h < N) (h2 : p < N) : dst N h p < N := by unfold dst; split <;> omega
theorem adv_dst {N h p : Nat} (h1 : h < N) (h2 : p < N) : adv N h (dst N h p) = p := by unfold adv dst; split <;> split <;> omega
theorem dst_adv {N h i : Nat} (h1 : h < N) (h2 : i < N) : dst N h (adv N h i) = i := by unfold adv dst; split <;> split <;> omega
theorem adv_adv {N h i j : Nat} (h1 : h < N) (h2 : i + j < N) : adv N (adv N h i) j = adv N h (i + j) := by unfold adv; split <;> split <;> split <;> omega
theorem adv_zero {N h : Nat} (h1 : h < N) : adv N h 0 = h := by unfold adv; split <;> omega
theorem adv_ne {N h i : Nat} (h1 : h < N) (h2 : i < N) (h3 : 1 ≤ i) : adv N h i ≠ h := by unfold adv; split <;> omega
theorem adv_inj {N h i j : Nat} (h1 : h < N) (h2 : i < N) (h3 : j < N) (e : adv N h i = adv N h j) : i = j := by
  have := dst_adv h1 h2; rw [e, dst_adv h1 h3] at this; omega
theorem dst_self {N h : Nat} : dst N h h = 0 := by unfold dst; split <;> omega
theorem dst_pos {N h p : Nat} (h1 : h < N) (h2 : p < N) (h3 : p ≠ h) : 1 ≤ dst N h p := by unfold dst; split <;> omega
theorem dst_add {N h g p : Nat} (h1 : h < N) (h2 : g < N) (h3 : p < N) (h4 : dst N h g < dst N h p) : dst N h p = dst N h g + dst N g p := by
  unfold dst at *; split at h4 <;> split at h4 <;> (repeat' split) <;> omega
theorem adv_mod {N h i : Nat} (h1 : h < N) (h2 : i < N) : (h + i) % N = adv N h i := by
  unfold adv
  split
  · exact Nat.mod_eq_of_lt ‹_›
  · rw [Nat.mod_eq_sub_mod (by omega), Nat.mod_eq_of_lt (by omega)]
theorem dst_mod {N h p : Nat} (h1 : h < N) (h2 : p < N) : (p + N - h) % N = dst N h p := by
  unfold dst
  split
  · rw [Nat.mod_eq_sub_mod (by omega), show p + N - h - N = p - h by omega, Nat.mod_eq_of_lt (by omega)]
  · exact Nat.mod_eq_of_lt (by omega)
/-- What a test of distances is when it is read in whole numbers. -/
theorem dst_int {N h p : Nat} (h1 : h < N) (h2 : p < N) : ((p : Int) - h + N) % N = (dst N h p : Nat) := by
  rw [← dst_mod h1 h2, show ((p : Int) - h + N) = ((p + N - h : Nat) : Int) by omega]
  exact (Int.natCast_emod _ _).symm
theorem adv_int {N p : Nat} (h1 : p < N) (h2 : 1 < N) : ((p : Int) + 1) % N = (adv N p 1 : Nat) := by
  rw [← adv_mod h1 h2, Int.natCast_emod]
  rfl

/-! ### A table -/
section
variable {α : Type}
abbrev Cells (α : Type) := List (Option (ByteArray × α))
def ents (cs : Cells α) : List (ByteArray × α) := cs.filterMap id
def keys (l : List (ByteArray × α)) : List ByteArray := l.map Prod.fst
def Occ (cs : Cells α) (p : Nat) : Prop := ∃ x, cs[p]? = some (some x)
theorem ents_app (a b : Cells α) : ents (a ++ b) = ents a ++ ents b := by simp [ents]
theorem ents_some (x : ByteArray × α) (b : Cells α) : ents (some x :: b) = x :: ents b := rfl
theorem ents_none (b : Cells α) : ents (none :: b) = ents b := rfl
theorem ents_len (cs : Cells α) : (ents cs).length ≤ cs.length := List.length_filterMap_le ..
theorem mem_ents {cs : Cells α} {x : ByteArray × α} : x ∈ ents cs ↔ ∃ p : Nat, cs[p]? = some (some x) := by
  rw [ents, List.mem_filterMap]
  constructor
  · rintro ⟨a, ha, rfl⟩; exact List.mem_iff_getElem?.1 ha
  · rintro ⟨p, hp⟩; exact ⟨_, List.mem_iff_getElem?.2 ⟨p, hp⟩, rfl⟩
theorem split_at {β : Type} {cs : List β} {p : Nat} {a : β} (h : cs[p]? = some a) : ∃ A B, cs = A ++ a :: B ∧ A.length = p := by
  obtain ⟨hp, rfl⟩ := List.getElem?_eq_some_iff.1 h
  exact ⟨cs.take p, cs.drop (p + 1), by rw [← List.drop_eq_getElem_cons hp, List.take_append_drop], by rw [List.length_take]; omega⟩
theorem set_split {β : Type} {A B : List β} {a b : β} : (A ++ a :: B).set A.length b = A ++ b :: B := by simp
/-- A free place, as long as not all are used. -/
theorem free_place {cs : Cells α} (h : (ents cs).length < cs.length) : ∃ p, p < cs.length ∧ cs[p]? = some none := by
  induction cs with
  | nil => simp [ents] at h
  | cons o cs ih =>
    cases o with
    | none => exact ⟨0, by simp, rfl⟩
    | some x =>
      rw [ents_some, List.length_cons, List.length_cons] at h
      obtain ⟨p, h1, h2⟩ := ih (by omega)
      exact ⟨p + 1, by rw [List.length_cons]; omega, by rw [List.getElem?_cons_succ]; exact h2⟩
theorem ents_set_none {cs : Cells α} {p : Nat} {x : ByteArray × α} (h : cs[p]? = some (some x)) : (ents cs).Perm (x :: ents (cs.set p none)) := by
  obtain ⟨A, B, rfl, rfl⟩ := split_at h
  rw [set_split, ents_app, ents_some, ents_app, ents_none]
  exact List.perm_middle
theorem ents_set_some {cs : Cells α} {p : Nat} {x : ByteArray × α} (h : cs[p]? = some none) : (ents (cs.set p (some x))).Perm (x :: ents cs) := by
  obtain ⟨A, B, rfl, rfl⟩ := split_at h
  rw [set_split, ents_app, ents_some, ents_app, ents_none]
  exact List.perm_middle
theorem ents_set_over {cs : Cells α} {p : Nat} {x y : ByteArray × α} (h : cs[p]? = some (some y)) : (ents (cs.set p (some x))).Perm (x :: ents (cs.set p none)) := by
  obtain ⟨A, B, rfl, rfl⟩ := split_at h
  rw [set_split, set_split, ents_app, ents_some, ents_app, ents_none]
  exact List.perm_middle

/-- Each key is found from its home on. -/
structure TInv (hf : ByteArray → Nat) (N : Nat) (cs : Cells α) : Prop where
  len : cs.length = N
  nd : (keys (ents cs)).Nodup
  run : ∀ p k v, cs[p]? = some (some (k, v)) → ∀ i < dst N (hf k) p, Occ cs (adv N (hf k) i)
variable {hf : ByteArray → Nat} {N g j : Nat} {cs : Cells α}
theorem occ_lt {p : Nat} (h : Occ cs p) : p < cs.length := by obtain ⟨x, hx⟩ := h; exact (List.getElem?_eq_some_iff.1 hx).1
theorem TInv.new (N : Nat) : TInv hf N (List.replicate N (none : Option (ByteArray × α))) := by
  have : ents (List.replicate N (none : Option (ByteArray × α))) = [] := by
    induction N with
    | zero => rfl
    | succ N ih => rw [List.replicate_succ, ents_none, ih]
  refine ⟨List.length_replicate, by rw [this]; exact List.nodup_nil, fun p k v h => ?_⟩
  rw [List.getElem?_replicate] at h
  split at h <;> cases h
/-- A search that ends at a free place: the key is not there. -/
theorem TInv.absent (h : TInv hf N cs) {k : ByteArray} {i : Nat} (hk : hf k < N) (hi : i < N) (he : cs[adv N (hf k) i]? = some none) (hn : ∀ j < i, ∀ v, cs[adv N (hf k) j]? ≠ some (some (k, v))) : k ∉ keys (ents cs) := by
  intro hm
  obtain ⟨⟨k', v⟩, hx, rfl⟩ := List.mem_map.1 hm
  obtain ⟨p, hp⟩ := mem_ents.1 hx
  dsimp only at hk hi he hn
  have hpN : p < N := by rw [← h.len]; exact (List.getElem?_eq_some_iff.1 hp).1
  have hd := adv_dst hk hpN
  have hdl := dst_lt hk hpN
  rcases Nat.lt_trichotomy (dst N (hf k') p) i with hlt | heq | hgt
  · exact hn _ hlt v (by rw [hd]; exact hp)
  · rw [← heq, hd, hp] at he; cases he
  · obtain ⟨x, hx⟩ := h.run p k' v hp i hgt
    rw [he] at hx; cases hx
theorem keys_perm {a b : List (ByteArray × α)} (h : a.Perm b) : (keys a).Perm (keys b) := h.map _
theorem TInv.put (h : TInv hf N cs) {k : ByteArray} {v : α} {i : Nat} (hk : hf k < N) (hi : i < N) (he : cs[adv N (hf k) i]? = some none) (hn : k ∉ keys (ents cs)) (hr : ∀ j < i, Occ cs (adv N (hf k) j)) :
    TInv hf N (cs.set (adv N (hf k) i) (some (k, v))) := by
  have hlt : adv N (hf k) i < cs.length := (List.getElem?_eq_some_iff.1 he).1
  have hocc : ∀ q, Occ cs q → Occ (cs.set (adv N (hf k) i) (some (k, v))) q := fun q ⟨x, hx⟩ => by
    by_cases e : adv N (hf k) i = q
    · subst e; exact ⟨_, List.getElem?_set_self hlt⟩
    · exact ⟨x, by rw [List.getElem?_set_ne e]; exact hx⟩
  refine ⟨by rw [List.length_set]; exact h.len, ?_, fun p k' v' hp j hj => ?_⟩
  · exact (keys_perm (ents_set_some he)).nodup_iff.2 (List.nodup_cons.2 ⟨hn, h.nd⟩)
  · by_cases e : adv N (hf k) i = p
    · subst e
      rw [List.getElem?_set_self hlt] at hp
      injection hp with hp; injection hp with hp; injection hp with h1 h2
      subst h1
      rw [dst_adv hk hi] at hj
      exact hocc _ (hr j hj)
    · rw [List.getElem?_set_ne e] at hp
      exact hocc _ (h.run p k' v' hp j hj)
theorem TInv.over (h : TInv hf N cs) {k : ByteArray} {v v0 : α} {p : Nat} (hp : cs[p]? = some (some (k, v0))) : TInv hf N (cs.set p (some (k, v))) := by
  have hlt : p < cs.length := (List.getElem?_eq_some_iff.1 hp).1
  have hocc : ∀ q, Occ cs q → Occ (cs.set p (some (k, v))) q := fun q ⟨x, hx⟩ => by
    by_cases e : p = q
    · subst e; exact ⟨_, List.getElem?_set_self hlt⟩
    · exact ⟨x, by rw [List.getElem?_set_ne e]; exact hx⟩
  refine ⟨by rw [List.length_set]; exact h.len, ?_, fun p' k' v' hp' j hj => ?_⟩
  · have h1 := (keys_perm (ents_set_over (x := (k, v)) hp)).nodup_iff
    have h2 := (keys_perm (ents_set_none hp)).nodup_iff
    exact h1.2 (h2.1 h.nd)
  · by_cases e : p = p'
    · subst e
      rw [List.getElem?_set_self hlt] at hp'
      injection hp' with hp'; injection hp' with hp'; injection hp' with h1 h2
      subst h1
      exact hocc _ (h.run p _ v0 hp j hj)
    · rw [List.getElem?_set_ne e] at hp'
      exact hocc _ (h.run p' k' v' hp' j hj)

/-! ### Taking out: the gap g is filled from behind; the places g + 1 .. g + j - 1 are seen -/
structure GInv (hf : ByteArray → Nat) (N : Nat) (cs : Cells α) (g j : Nat) : Prop where
  len : cs.length = N
  occ : Occ cs g
  nd : (keys (ents (cs.set g none))).Nodup
  run : ∀ p k v, p ≠ g → cs[p]? = some (some (k, v)) → ∀ i < dst N (hf k) p, adv N (hf k) i = g ∨ Occ cs (adv N (hf k) i)
  seen : ∀ t, 1 ≤ t → t < j → ∀ k v, cs[adv N g t]? = some (some (k, v)) → dst N (hf k) (adv N g t) < t
theorem GInv.start (h : TInv hf N cs) {p : Nat} {x : ByteArray × α} (hp : cs[p]? = some (some x)) : GInv hf N cs p 1 :=
  ⟨h.len, ⟨x, hp⟩, (List.nodup_cons.1 ((keys_perm (ents_set_none hp)).nodup_iff.1 h.nd)).2, fun p' k v _ hp' i hi => .inr (h.run p' k v hp' i hi), fun t h1 h2 => by omega⟩
theorem GInv.done (h : GInv hf N cs g j) (hh : ∀ k, hf k < N) (h1 : 1 ≤ j) (hj : j < N) (he : cs[adv N g j]? = some none) : TInv hf N (cs.set g none) := by
  have hg : g < cs.length := occ_lt h.occ
  have hgN : g < N := h.len ▸ hg
  refine ⟨by rw [List.length_set]; exact h.len, h.nd, fun p k v hp i hi => ?_⟩
  have hpg : p ≠ g := fun e => by subst e; rw [List.getElem?_set_self hg] at hp; cases hp
  rw [List.getElem?_set_ne hpg.symm] at hp
  have hpN : p < N := by rw [← h.len]; exact (List.getElem?_eq_some_iff.1 hp).1
  have hk := hh k
  have hdp := dst_lt hk hpN
  have hne : adv N (hf k) i ≠ g := fun e => by
    have hi' : i = dst N (hf k) g := by rw [← e, dst_adv hk (by omega)]
    have hadd := dst_add hk hgN hpN (by omega)
    have ht1 := dst_pos hgN hpN hpg
    have htN := dst_lt hgN hpN
    rcases Nat.lt_trichotomy (dst N g p) j with hlt | heq | hgt
    · have := h.seen (dst N g p) ht1 hlt k v (by rw [adv_dst hgN hpN]; exact hp)
      rw [adv_dst hgN hpN] at this
      omega
    · rw [← heq, adv_dst hgN hpN, hp] at he; cases he
    · have hrun := h.run p k v hpg hp (i + j) (by omega)
      rw [← adv_adv hk (by omega), e] at hrun
      rcases hrun with hr | ⟨x, hx⟩
      · exact adv_ne hgN hj h1 hr
      · rw [he] at hx; cases hx
  rcases h.run p k v hpg hp i hi with e | ⟨x, hx⟩
  · exact absurd e hne
  · exact ⟨x, by rw [List.getElem?_set_ne hne.symm]; exact hx⟩
theorem GInv.pass (h : GInv hf N cs g j) {k : ByteArray} {v : α} (hx : cs[adv N g j]? = some (some (k, v))) (hd : dst N (hf k) (adv N g j) < j) : GInv hf N cs g (j + 1) :=
  ⟨h.len, h.occ, h.nd, h.run, fun t h1 h2 k' v' ht => by
    rcases Nat.lt_or_eq_of_le (Nat.le_of_lt_succ h2) with h2 | rfl
    · exact h.seen t h1 h2 k' v' ht
    · rw [hx] at ht; injection ht with ht; injection ht with ht; injection ht with e1 _; subst e1; exact hd⟩
theorem GInv.move (h : GInv hf N cs g j) (hh : ∀ k, hf k < N) (h1 : 1 ≤ j) (hj : j < N) {k : ByteArray} {v : α} (hx : cs[adv N g j]? = some (some (k, v))) (hd : j ≤ dst N (hf k) (adv N g j)) :
    GInv hf N (cs.set g (some (k, v))) (adv N g j) 1 ∧ (ents ((cs.set g (some (k, v))).set (adv N g j) none)).Perm (ents (cs.set g none)) := by
  have hg : g < cs.length := occ_lt h.occ
  have hgN : g < N := h.len ▸ hg
  have hnN := adv_lt hgN hj
  have hng := adv_ne hgN hj h1
  have hk := hh k
  have hocc : ∀ q, Occ cs q → Occ (cs.set g (some (k, v))) q := fun q ⟨x, hx⟩ => by
    by_cases e : g = q
    · subst e; exact ⟨_, List.getElem?_set_self hg⟩
    · exact ⟨x, by rw [List.getElem?_set_ne e]; exact hx⟩
  have hperm : (ents ((cs.set g (some (k, v))).set (adv N g j) none)).Perm (ents (cs.set g none)) := by
    have e1 : (cs.set g none)[adv N g j]? = some (some (k, v)) := by rw [List.getElem?_set_ne hng.symm]; exact hx
    have p1 := ents_set_none e1
    have e2 : ((cs.set g none).set (adv N g j) none)[g]? = some none := by rw [List.getElem?_set_ne hng, List.getElem?_set_self hg]
    have p2 := ents_set_some (x := (k, v)) e2
    have e3 : ((cs.set g none).set (adv N g j) none).set g (some (k, v)) = (cs.set g (some (k, v))).set (adv N g j) none := by
      rw [List.set_comm _ _ hng, List.set_set]
    rw [e3] at p2
    exact p2.trans p1.symm
  refine ⟨⟨by rw [List.length_set]; exact h.len, hocc _ ⟨_, hx⟩, (keys_perm hperm).nodup_iff.2 h.nd, fun p k' v' hpn hp i hi => ?_, fun t h1 h2 => by omega⟩, hperm⟩
  by_cases e : g = p
  · subst e
    rw [List.getElem?_set_self hg] at hp
    injection hp with hp; injection hp with hp; injection hp with e1 _
    subst e1
    -- the run of the moved key ends at the gap, within its old run
    have hdn := dst_lt hk hnN
    have hgd : dst N (hf k) g < dst N (hf k) (adv N g j) ∧ dst N (hf k) (adv N g j) = dst N (hf k) g + j := by
      have e2 : dst N g (adv N g j) = j := dst_adv hgN hj
      unfold dst at *
      split at hd <;> split at e2 <;> (repeat' split) <;> omega
    rcases h.run _ k v hng hx i (by omega) with e2 | ho
    · exfalso
      have := dst_adv hk (show i < N by omega)
      rw [e2] at this
      omega
    · exact .inr (hocc _ ho)
  · rw [List.getElem?_set_ne e] at hp
    rcases h.run p k' v' (Ne.symm e) hp i hi with e2 | ho
    · exact .inr ⟨_, by rw [e2]; exact List.getElem?_set_self hg⟩
    · exact .inr (hocc _ ho)
end
end Go.Proofs.Ytkoklfagmbaapaa
