/- Orders by count: what an insertion and a taking do to buckets, plain. -/
import Derived.Test.YtbcfdgnpdaaleaaR3
namespace Go.Proofs.Ytbcfdgnpdaaleaa
open Go.RowKit

theorem flat_cnt {S : List Bk} {p : Int × Nat} (h : p ∈ flat S) : ∃ s ∈ S, p.2 = s.2.1 := by
  simp only [flat, List.mem_flatMap, bfl, List.mem_map] at h
  obtain ⟨s, hs, q, _, rfl⟩ := h
  exact ⟨s, hs, rfl⟩
theorem bfl_cnt {s : Bk} {p : Int × Nat} (h : p ∈ bfl s) : p.2 = s.2.1 := by
  simp only [bfl, List.mem_map] at h
  obtain ⟨q, _, rfl⟩ := h
  rfl
theorem asc_split {A C : List Bk} {s : Bk} (h : ((A ++ s :: C).map fun s => s.2.1).Pairwise (· < ·)) : (∀ a ∈ A, a.2.1 < s.2.1) ∧ ∀ c ∈ C, s.2.1 < c.2.1 := by
  rw [List.map_append, List.map_cons, List.pairwise_append, List.pairwise_cons] at h
  refine ⟨fun a ha => h.2.2 _ (List.mem_map_of_mem ha) _ (List.mem_cons_self ..), fun c hc => h.2.1.1 _ (List.mem_map_of_mem hc)⟩

theorem RInv.add {n : Nat} {S S' : List Bk} {pl : List (Option (Nat × Nat))} {x bx y : Nat} (h : RInv n S pl) (hx : x < n) (hid : (x : Int) ∉ ids (flat S))
    (hasc : (S'.map fun s => s.2.1).Pairwise (· < ·)) (hne : ∀ s ∈ S', s.2.2.2 ≠ []) (hnd : (S'.map (·.1)).Nodup) (hndi : ∀ s ∈ S', (nodes s.2.2.2).Nodup) (hcnt : ∀ s ∈ S', s.2.1 ≤ 9223372036854775808)
    (hp : (ids (flat S')).Perm ((x : Int) :: ids (flat S))) (hm : ∀ s ∈ S', ∀ p ∈ s.2.2.2, (s.1 = bx ∧ p = (y, (x : Int))) ∨ ∃ s0 ∈ S, s0.1 = s.1 ∧ p ∈ s0.2.2.2) : RInv n S' (pl.set x (some (bx, y))) := by
  have hl := h.len
  refine ⟨by rw [List.length_set]; exact hl, hasc, hne, hnd, hndi, hp.nodup_iff.2 (List.nodup_cons.2 ⟨hid, h.nid⟩), fun z hz => ?_, fun s hs p hps => ?_, fun j hj hjn => ?_, hcnt⟩
  · rcases List.mem_cons.1 (hp.mem_iff.1 hz) with rfl | hz
    · omega
    · exact h.rng z hz
  · rcases hm s hs p hps with ⟨h1, rfl⟩ | ⟨s0, hs0, h1, h2⟩
    · rw [h1]
      show (pl.set x _)[(x : Int).toNat]? = _
      rw [Int.toNat_natCast, List.getElem?_set_self (by omega)]
    · have hi : p.2 ∈ ids (flat S) := ids_flat.2 ⟨s0, hs0, p.1, h2⟩
      have hr := h.rng _ hi
      have hne : x ≠ p.2.toNat := fun e => hid (by rw [show (x : Int) = p.2 by omega]; exact hi)
      rw [List.getElem?_set_ne hne, ← h1]
      exact h.at_ s0 hs0 p h2
  · rw [hp.mem_iff, List.mem_cons, not_or] at hjn
    rw [List.getElem?_set_ne (by omega)]
    exact h.no j hj hjn.2
theorem RInv.del {n : Nat} {S S' : List Bk} {pl : List (Option (Nat × Nat))} {x : Nat} (h : RInv n S pl)
    (hasc : (S'.map fun s => s.2.1).Pairwise (· < ·)) (hne : ∀ s ∈ S', s.2.2.2 ≠ []) (hnd : (S'.map (·.1)).Nodup) (hndi : ∀ s ∈ S', (nodes s.2.2.2).Nodup) (hcnt : ∀ s ∈ S', s.2.1 ≤ 9223372036854775808)
    (hp : (ids (flat S)).Perm ((x : Int) :: ids (flat S'))) (hm : ∀ s ∈ S', ∀ p ∈ s.2.2.2, ∃ s0 ∈ S, s0.1 = s.1 ∧ p ∈ s0.2.2.2) : RInv n S' (pl.set x none) := by
  have hl := h.len
  have hn := List.nodup_cons.1 (hp.nodup_iff.1 h.nid)
  refine ⟨by rw [List.length_set]; exact hl, hasc, hne, hnd, hndi, hn.2, fun z hz => h.rng z (hp.mem_iff.2 (List.mem_cons_of_mem _ hz)), fun s hs p hps => ?_, fun j hj hjn => ?_, hcnt⟩
  · obtain ⟨s0, hs0, h1, h2⟩ := hm s hs p hps
    have hi' : p.2 ∈ ids (flat S') := ids_flat.2 ⟨s, hs, p.1, hps⟩
    have hr := h.rng _ (hp.mem_iff.2 (List.mem_cons_of_mem _ hi'))
    have hne : x ≠ p.2.toNat := fun e => hn.1 (by rw [show (x : Int) = p.2 by omega]; exact hi')
    rw [List.getElem?_set_ne hne, ← h1]
    exact h.at_ s0 hs0 p h2
  · by_cases hjx : x = j
    · subst hjx; rw [List.getElem?_set_self (by omega)]
    · rw [List.getElem?_set_ne hjx]
      refine h.no j hj fun hji => ?_
      rcases List.mem_cons.1 (hp.mem_iff.1 hji) with e | e
      · omega
      · exact hjn e

/-- One more in a bucket. -/
def bpush (s : Bk) (y : Nat) (id : Int) : Bk := (s.1, s.2.1, s.2.2.1, s.2.2.2 ++ [(y, id)])
theorem flat_push (A C : List Bk) (s : Bk) (y : Nat) (id : Int) : flat (A ++ bpush s y id :: C) = (flat A ++ bfl s) ++ (id, s.2.1) :: flat C := by
  simp [flat_app, flat_cons, bfl, bpush]
theorem flat_mid (A C : List Bk) (s : Bk) : flat (A ++ s :: C) = (flat A ++ bfl s) ++ flat C := by simp [flat_app, flat_cons]
theorem perm_mid {A B : List Int} {x : Int} : (A ++ x :: B).Perm (x :: (A ++ B)) := List.perm_middle
theorem RInv.push {n : Nat} {A C : List Bk} {s : Bk} {pl : List (Option (Nat × Nat))} {x y : Nat} (h : RInv n (A ++ s :: C) pl) (hx : x < n) (hid : (x : Int) ∉ ids (flat (A ++ s :: C))) (hy : y ∉ nodes s.2.2.2) :
    RInv n (A ++ bpush s y x :: C) (pl.set x (some (s.1, y))) := by
  refine h.add hx hid ?_ ?_ ?_ ?_ ?_ ?_ ?_
  · have := h.asc; rw [List.map_append, List.map_cons] at this ⊢; exact this
  · intro t ht
    rcases List.mem_append.1 ht with ht | ht
    · exact h.ne t (List.mem_append_left _ ht)
    rcases List.mem_cons.1 ht with rfl | ht
    · simp [bpush]
    · exact h.ne t (List.mem_append_right _ (List.mem_cons_of_mem _ ht))
  · have := h.nd; rw [List.map_append, List.map_cons] at this ⊢; exact this
  · intro t ht
    rcases List.mem_append.1 ht with ht | ht
    · exact h.ndi t (List.mem_append_left _ ht)
    rcases List.mem_cons.1 ht with rfl | ht
    · have := h.ndi s (by simp)
      show ((s.2.2.2 ++ [(y, (x : Int))]).map Prod.fst).Nodup
      rw [List.map_append, List.nodup_append]
      exact ⟨this, by simp, by rintro a ha b hb rfl; simp at hb; subst hb; exact hy ha⟩
    · exact h.ndi t (List.mem_append_right _ (List.mem_cons_of_mem _ ht))
  · intro t ht
    rcases List.mem_append.1 ht with ht | ht
    · exact h.cnt t (List.mem_append_left _ ht)
    rcases List.mem_cons.1 ht with rfl | ht
    · exact h.cnt s (by simp)
    · exact h.cnt t (List.mem_append_right _ (List.mem_cons_of_mem _ ht))
  · rw [flat_push, flat_mid]
    simp only [ids, List.map_append, List.map_cons]
    exact perm_mid
  · intro t ht p hp
    rcases List.mem_append.1 ht with ht | ht
    · exact .inr ⟨t, List.mem_append_left _ ht, rfl, hp⟩
    rcases List.mem_cons.1 ht with rfl | ht
    · rcases List.mem_append.1 hp with hp | hp
      · exact .inr ⟨s, by simp, rfl, hp⟩
      · exact .inl ⟨rfl, List.mem_singleton.1 hp⟩
    · exact .inr ⟨t, List.mem_append_right _ (List.mem_cons_of_mem _ ht), rfl, hp⟩
theorem ins_push {A C : List Bk} {s : Bk} {y : Nat} {id : Int} (h : ((A ++ s :: C).map fun s => s.2.1).Pairwise (· < ·)) : ins (flat (A ++ s :: C)) id s.2.1 = flat (A ++ bpush s y id :: C) := by
  obtain ⟨h1, h2⟩ := asc_split h
  rw [flat_push, flat_mid]
  refine ins_at (fun p hp => ?_) fun p hp => ?_
  · rcases List.mem_append.1 hp with hp | hp
    · obtain ⟨t, ht, e⟩ := flat_cnt hp; have := h1 t ht; omega
    · rw [bfl_cnt hp]; exact Nat.le_refl _
  · obtain ⟨t, ht, e⟩ := flat_cnt hp; have := h2 t ht; omega

/-- A bucket of one. -/
theorem RInv.bucket {n : Nat} {A C : List Bk} {pl : List (Option (Nat × Nat))} {x y bx c k : Nat} (h : RInv n (A ++ C) pl) (hx : x < n) (hid : (x : Int) ∉ ids (flat (A ++ C))) (hb : bx ∉ (A ++ C).map (·.1)) (hA : ∀ s ∈ A, s.2.1 < c) (hC : ∀ s ∈ C, c < s.2.1) (hc : c ≤ 9223372036854775808) :
    RInv n (A ++ (bx, c, k, [(y, (x : Int))]) :: C) (pl.set x (some (bx, y))) := by
  refine h.add hx hid ?_ ?_ ?_ ?_ ?_ ?_ ?_
  · have := h.asc
    rw [List.map_append, List.pairwise_append] at this
    rw [List.map_append, List.map_cons, List.pairwise_append, List.pairwise_cons]
    refine ⟨this.1, ⟨fun a ha => ?_, this.2.1⟩, fun a ha b hb => ?_⟩
    · obtain ⟨s, hs, rfl⟩ := List.mem_map.1 ha; exact hC s hs
    · rcases List.mem_cons.1 hb with rfl | hb
      · obtain ⟨s, hs, rfl⟩ := List.mem_map.1 ha; exact hA s hs
      · exact this.2.2 a ha b hb
  · intro t ht
    rcases List.mem_append.1 ht with ht | ht
    · exact h.ne t (List.mem_append_left _ ht)
    rcases List.mem_cons.1 ht with rfl | ht
    · simp
    · exact h.ne t (List.mem_append_right _ ht)
  · have := h.nd
    rw [List.map_append] at this hb
    rw [List.map_append, List.map_cons]
    exact List.perm_middle.nodup_iff.2 (List.nodup_cons.2 ⟨hb, this⟩)
  · intro t ht
    rcases List.mem_append.1 ht with ht | ht
    · exact h.ndi t (List.mem_append_left _ ht)
    rcases List.mem_cons.1 ht with rfl | ht
    · simp
    · exact h.ndi t (List.mem_append_right _ ht)
  · intro t ht
    rcases List.mem_append.1 ht with ht | ht
    · exact h.cnt t (List.mem_append_left _ ht)
    rcases List.mem_cons.1 ht with rfl | ht
    · exact hc
    · exact h.cnt t (List.mem_append_right _ ht)
  · rw [flat_app, flat_cons, flat_app]
    simp only [ids, bfl, List.map_append, List.map_cons, List.map_nil, List.singleton_append]
    exact perm_mid
  · intro t ht p hp
    rcases List.mem_append.1 ht with ht | ht
    · exact .inr ⟨t, List.mem_append_left _ ht, rfl, hp⟩
    rcases List.mem_cons.1 ht with rfl | ht
    · exact .inl ⟨rfl, List.mem_singleton.1 hp⟩
    · exact .inr ⟨t, List.mem_append_right _ ht, rfl, hp⟩
theorem ins_bucket {A C : List Bk} {y bx c k : Nat} {id : Int} (hA : ∀ s ∈ A, s.2.1 < c) (hC : ∀ s ∈ C, c < s.2.1) : ins (flat (A ++ C)) id c = flat (A ++ (bx, c, k, [(y, id)]) :: C) := by
  rw [flat_app, flat_app, flat_cons]
  exact ins_at (fun p hp => by obtain ⟨t, ht, e⟩ := flat_cnt hp; have := hA t ht; omega) fun p hp => by obtain ⟨t, ht, e⟩ := flat_cnt hp; exact e ▸ hC t ht

/-- One is taken. -/
def btake (s : Bk) (I J : List (Nat × Int)) : Bk := (s.1, s.2.1, s.2.2.1, I ++ J)
theorem flat_take (A C : List Bk) (s : Bk) (I J : List (Nat × Int)) (y : Nat) (id : Int) (hs : s.2.2.2 = I ++ (y, id) :: J) :
    flat (A ++ s :: C) = (flat A ++ I.map fun p => (p.2, s.2.1)) ++ (id, s.2.1) :: ((J.map fun p => (p.2, s.2.1)) ++ flat C) := by
  simp [flat_app, flat_cons, bfl, hs]
theorem flat_took (A C : List Bk) (s : Bk) (I J : List (Nat × Int)) : flat (A ++ btake s I J :: C) = (flat A ++ I.map fun p => (p.2, s.2.1)) ++ ((J.map fun p => (p.2, s.2.1)) ++ flat C) := by
  simp [flat_app, flat_cons, bfl, btake]
theorem RInv.take {n : Nat} {A C : List Bk} {s : Bk} {pl : List (Option (Nat × Nat))} {I J : List (Nat × Int)} {x y : Nat} (h : RInv n (A ++ s :: C) pl) (hs : s.2.2.2 = I ++ (y, (x : Int)) :: J) (hIJ : I ++ J ≠ []) :
    RInv n (A ++ btake s I J :: C) (pl.set x none) := by
  refine h.del ?_ ?_ ?_ ?_ ?_ ?_ ?_
  · have := h.asc; rw [List.map_append, List.map_cons] at this ⊢; exact this
  · intro t ht
    rcases List.mem_append.1 ht with ht | ht
    · exact h.ne t (List.mem_append_left _ ht)
    rcases List.mem_cons.1 ht with rfl | ht
    · exact hIJ
    · exact h.ne t (List.mem_append_right _ (List.mem_cons_of_mem _ ht))
  · have := h.nd; rw [List.map_append, List.map_cons] at this ⊢; exact this
  · intro t ht
    rcases List.mem_append.1 ht with ht | ht
    · exact h.ndi t (List.mem_append_left _ ht)
    rcases List.mem_cons.1 ht with rfl | ht
    · have := h.ndi s (by simp)
      rw [hs, nodes_split] at this
      show ((I ++ J).map Prod.fst).Nodup
      rw [List.map_append]
      exact (List.nodup_cons.1 (List.perm_middle.nodup_iff.1 this)).2
    · exact h.ndi t (List.mem_append_right _ (List.mem_cons_of_mem _ ht))
  · intro t ht
    rcases List.mem_append.1 ht with ht | ht
    · exact h.cnt t (List.mem_append_left _ ht)
    rcases List.mem_cons.1 ht with rfl | ht
    · exact h.cnt s (by simp)
    · exact h.cnt t (List.mem_append_right _ (List.mem_cons_of_mem _ ht))
  · rw [flat_take _ _ _ _ _ _ _ hs, flat_took]
    simp only [ids, List.map_append, List.map_cons]
    exact perm_mid
  · intro t ht p hp
    rcases List.mem_append.1 ht with ht | ht
    · exact ⟨t, List.mem_append_left _ ht, rfl, hp⟩
    rcases List.mem_cons.1 ht with rfl | ht
    · refine ⟨s, by simp, rfl, ?_⟩
      rw [hs]
      rcases List.mem_append.1 hp with hp | hp
      · exact List.mem_append_left _ hp
      · exact List.mem_append_right _ (List.mem_cons_of_mem _ hp)
    · exact ⟨t, List.mem_append_right _ (List.mem_cons_of_mem _ ht), rfl, hp⟩
theorem RInv.gone {n : Nat} {A C : List Bk} {s : Bk} {pl : List (Option (Nat × Nat))} {x y : Nat} (h : RInv n (A ++ s :: C) pl) (hs : s.2.2.2 = [(y, (x : Int))]) : RInv n (A ++ C) (pl.set x none) := by
  have hsub : (A ++ C).Sublist (A ++ s :: C) := List.Sublist.append_left (List.sublist_cons_self ..) _
  refine h.del (h.asc.sublist (hsub.map _)) (fun t ht => h.ne t (hsub.subset ht)) (h.nd.sublist (hsub.map _)) (fun t ht => h.ndi t (hsub.subset ht)) (fun t ht => h.cnt t (hsub.subset ht)) ?_ (fun t ht p hp => ⟨t, hsub.subset ht, rfl, hp⟩)
  rw [flat_take _ _ _ [] [] y x hs, flat_app]
  simp only [ids, List.map_append, List.map_cons, List.map_nil, List.nil_append, List.append_nil]
  exact perm_mid
theorem rem_take {n : Nat} {A C : List Bk} {s : Bk} {pl : List (Option (Nat × Nat))} {I J : List (Nat × Int)} {y : Nat} {id : Int} (h : RInv n (A ++ s :: C) pl) (hs : s.2.2.2 = I ++ (y, id) :: J) :
    rem (flat (A ++ s :: C)) id = flat (A ++ btake s I J :: C) ∧ look (flat (A ++ s :: C)) id = some s.2.1 := by
  have h1 := h.nid
  rw [flat_take _ _ _ _ _ _ _ hs, ids_app] at h1
  have h2 : id ∉ ids (flat A ++ I.map fun p => (p.2, s.2.1)) := fun hi => (List.nodup_append.1 h1).2.2 id hi id (List.mem_cons_self ..) rfl
  rw [flat_take _ _ _ _ _ _ _ hs, flat_took]
  exact ⟨rem_at h2, look_at h2⟩
theorem flat_gone (A C : List Bk) (s : Bk) : flat (A ++ btake s [] [] :: C) = flat (A ++ C) := by simp [flat_app, flat_cons, bfl, btake]
theorem ins_len (l : Ord) (id : Int) (c : Nat) : (ins l id c).length = l.length + 1 := by
  induction l with
  | nil => rfl
  | cons p l ih => rw [ins]; split <;> simp [ih]
end Go.Proofs.Ytbcfdgnpdaaleaa
