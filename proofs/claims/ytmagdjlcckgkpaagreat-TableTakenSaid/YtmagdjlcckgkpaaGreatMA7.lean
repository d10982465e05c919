/- Texts of this proof, part MA7: what the code does, step by step. They have no conditions. -/
import Derived.Test.YtmagdjlcckgkpaaGreatMA6
import Derived.Test.YtmagdjlcckgkpaaGreatMA2
import Derived.Test.YtmagdjlcckgkpaaGreatProg
import Derived.Test.YtmagdjlcckgkpaaGreatMA4
/- Orders by count: of, has. -/
namespace Go.Proofs.YtmagdjlcckgkpaaGreat
open Go.RowKit

theorem pcells_there {pl : List (Option (Nat × Nat))} {i : Nat} {o : Option (Nat × Nat)} (h : pl[i]? = some o) : (pcells pl)[0 + i * 3 + 0]? = some (.bool o.isSome) := by
  have h1 : (((pcells pl).drop (0 + i * 3)).take 3)[0]? = some (.bool o.isSome) := by rw [pcells_get h]; cases o <;> rfl
  rw [List.getElem?_take, if_pos (by omega), List.getElem?_drop] at h1
  exact h1
theorem mem_ids {l : Ord} {id : Int} : id ∈ ids l ↔ ∃ c, (id, c) ∈ l := by
  simp [ids]
theorem ids_flat {S : List Bk} {id : Int} : id ∈ ids (flat S) ↔ ∃ s ∈ S, ∃ y, (y, id) ∈ s.2.2.2 := by
  simp only [mem_ids, flat, List.mem_flatMap, bfl, List.mem_map, Prod.mk.injEq]
  constructor
  · rintro ⟨c, s, hs, p, hp, rfl, rfl⟩; exact ⟨s, hs, p.1, hp⟩
  · rintro ⟨s, hs, y, hy⟩; exact ⟨_, s, hs, _, hy, rfl, rfl⟩
theorem RInv.isIn {n : Nat} {S : List Bk} {pl : List (Option (Nat × Nat))} (h : RInv n S pl) (id : Int) : ((0 ≤ id ∧ id < n) ∧ ∃ x, pl[id.toNat]? = some (some x)) ↔ id ∈ ids (flat S) := by
  constructor
  · rintro ⟨h1, x, hx⟩
    refine Classical.byContradiction fun hn => ?_
    have := h.no id.toNat (by omega) (by rwa [show ((id.toNat : Nat) : Int) = id by omega])
    rw [hx] at this
    cases this
  · intro hi
    have h1 := h.rng id hi
    obtain ⟨s, hs, y, hy⟩ := ids_flat.1 hi
    exact ⟨h1, _, h.at_ s hs _ hy⟩

set_option maxHeartbeats 1000000 in
theorem rkhas_spec (b n : Nat) (S : List Bk) (r : Res) (id : Int) (w : World) (hr : RkR b n S r) (hs : Holds w r.foot [r] w) :
    Spec Tryz.prog 92 [.pointer (some ⟨b, 0, .none⟩), .int .i64 id] w r.foot fun v H => v = .bool (decide (id ∈ ids (flat S))) ∧ H = [r] := by
  obtain ⟨hn1, hn2, B, pV, pl, rB, rs, rfl, hrB, hrs, hI⟩ := hr
  have hpl := hI.len
  refine enter (n := 29) Tryz.func92 rfl rfl [(0, _), (1, _)] rfl ⟨rfl, rfl, trivial⟩ hs ?_
  refine w_with fun hh => ?_
  obtain ⟨g, cp, rfl⟩ := rowB_form hh (i := 0) (j := 1) rfl rfl (by omega)
  clear hh
  refine w_seq ?_
  refine w_reg ?_
  refine wl_f (f_assign rfl) ?_
  refine wl_end [(0, _), (1, _)] ⟨rfl, rfl, trivial⟩ ?_
  refine w_seq ?_
  refine w_reg ?_
  refine wl_f (f_move rfl) ?_
  refine wl_f (f_neqnil rfl rfl Tryz.underlying89) ?_
  refine wl_f (f_move rfl) ?_
  refine wl_and (j := 2) (c := decide (0 ≤ id)) 2 [(0, _), (1, _)] ⟨rfl, rfl, trivial⟩ rfl rfl rfl rfl rfl (fun hg1_5 => ?_) (fun w1_5 => ?_)
  · skip
    refine wl_gf rfl rfl (f_move rfl) ?_
    refine wl_gf rfl rfl (f_geq rfl rfl) ?_
    exact wl_pend rfl rfl ⟨rfl, rfl, trivial⟩ (List.Sublist.refl _)
  refine wl_f (f_move rfl) ?_
  refine wl_and (j := 6) (c := decide (id < (n : Int))) 6 [(0, _), (1, _)] ⟨rfl, rfl, trivial⟩ rfl rfl rfl rfl rfl (fun hg1_13 => ?_) (fun w1_13 => ?_)
  · skip
    refine wl_gf rfl rfl (f_move rfl) ?_
    refine wl_gf rfl rfl (f_move rfl) ?_
    refine wl_gf rfl rfl (f_nilCheck rfl) ?_
    refine wl_gf rfl rfl (f_fieldAddr 0 rfl Tryz.underlying119 rfl rfl (by kernel_rfl)) ?_
    refine wl_gf rfl rfl (f_loadB 0 0 rfl rfl rfl Tryz.underlying3 rfl rfl) ?_
    refine wl_gf rfl rfl (f_lss rfl rfl) ?_
    exact wl_pend rfl rfl ⟨rfl, rfl, trivial⟩ (List.Sublist.refl _)
  refine wl_f (f_move rfl) ?_
  refine wl_and (j := 14) (c := (pl.getD id.toNat none).isSome) 8 [] trivial rfl rfl rfl rfl rfl (fun hg1_23 => ?_) (fun w1_23 => ?_)
  · skip
    refine wl_gf rfl rfl (f_move rfl) ?_
    refine wl_gf rfl rfl (f_nilCheck rfl) ?_
    refine wl_gf rfl rfl (f_fieldAddr 3 rfl Tryz.underlying119 rfl rfl (by kernel_rfl)) ?_
    refine wl_gf rfl rfl (f_loadB 0 0 rfl rfl rfl Tryz.underlying117 rfl rfl) ?_
    refine wl_gf rfl rfl (f_move rfl) ?_
    simp only [Bool.and_eq_true, decide_eq_true_eq] at hg1_23
    obtain ⟨x, rfl⟩ : ∃ x : Nat, id = x := ⟨id.toNat, by omega⟩
    obtain ⟨o, ho⟩ : ∃ o, pl[x]? = some o := ⟨_, List.getElem?_eq_getElem (by omega)⟩
    refine wl_gf rfl rfl (f_indexAddr 3 (i := x) rfl rfl Tryz.underlying117 (by kernel_rfl) rfl (by omega)) ?_
    refine wl_gf rfl rfl (f_fieldAddr 0 rfl Tryz.underlying158 rfl rfl (by kernel_rfl)) ?_
    refine wl_gf rfl rfl (f_eqv (v' := .bool (pl.getD ((x : Int).toNat) none).isSome) (f_loadBr (v := .bool o.isSome) 0 1 rfl rfl rfl Tryz.underlying4 rfl (pcells_there ho)) (by simp [ho])) ?_
    exact wl_pend rfl rfl trivial (List.Sublist.refl _)
  refine wl_f (f_assign rfl) ?_
  refine wl_end [(4, _)] ⟨rfl, trivial⟩ ?_
  refine w_ret ?_
  refine ⟨_, _, fun a ha hh => results_tmps Tryz.results92 rfl a ha _, List.Sublist.refl _, ?_⟩
  refine ⟨?_, rfl⟩
  show Value.bool _ = _
  congr 1
  rw [Bool.eq_iff_iff]
  simp only [Bool.and_eq_true, decide_eq_true_eq, ← hI.isIn id]
  constructor
  · rintro ⟨⟨⟨_, h1⟩, h2⟩, h3⟩
    refine ⟨⟨h1, h2⟩, ?_⟩
    rw [List.getD_eq_getElem?_getD] at h3
    cases ho : pl[id.toNat]? with
    | none => rw [ho] at h3; cases h3
    | some o => rw [ho] at h3; cases o with
      | none => cases h3
      | some x => exact ⟨x, rfl⟩
  · rintro ⟨⟨h1, h2⟩, x, hx⟩
    exact ⟨⟨⟨rfl, h1⟩, h2⟩, by rw [List.getD_eq_getElem?_getD, hx]; rfl⟩

set_option maxHeartbeats 1000000 in
theorem rkofg_spec (b n len : Nat) (A : List Bk) (s : Bk) (C : List Bk) (B : Nat) (pV : Value) (pl : List (Option (Nat × Nat))) (rB : Res) (rs : List Res) (w : World) (hrB : ChR kBuc B n (bks (A ++ s :: C)) rB) (hs : Holds w (bun (rkg b n len B pV pl rB rs)).foot [bun (rkg b n len B pV pl rB rs)] w) :
    Spec Tryz.prog 93 [.pointer (some ⟨b, 0, .none⟩), .int .i64 (s.1 : Int)] w (bun (rkg b n len B pV pl rB rs)).foot fun v H => v = .agg #[.int .u64 (s.2.1 : Int), .pointer (some ⟨s.2.2.1, 0, .none⟩)] ∧ H = [bun (rkg b n len B pV pl rB rs)] := by
  rw [bks_app, bks_cons] at hrB
  refine enter (n := 17) Tryz.func93 rfl rfl [(0, _), (1, _)] rfl ⟨rfl, rfl, trivial⟩ hs ?_
  refine w_unb (rkg b n len B pV pl rB rs) ?_
  refine w_seq ?_
  refine w_reg ?_
  refine wl_e (e_allocs [.int .u64 0, .pointer .none] (by kernel_rfl)) ?_
  rintro _ _ w0_0 ⟨b0_0, rfl, rfl⟩
  refine wl_end [(0, _), (1, _), (4, _)] ⟨rfl, rfl, rfl, trivial⟩ ?_
  refine w_seq ?_
  refine w_reg ?_
  refine wl_f (f_move rfl) ?_
  refine wl_f (f_nilCheck rfl) ?_
  refine wl_f (f_fieldAddr 2 rfl Tryz.underlying119 rfl rfl (by kernel_rfl)) ?_
  (first | refine wl_f (f_loadb 0 rfl Tryz.underlying111 rfl rfl rfl) ?_ | refine wl_f (f_loadb 1 rfl Tryz.underlying111 rfl rfl rfl) ?_ | refine wl_f (f_loadb 2 rfl Tryz.underlying111 rfl rfl rfl) ?_ | refine wl_f (f_loadb 3 rfl Tryz.underlying111 rfl rfl rfl) ?_ | refine wl_f (f_loadb 4 rfl Tryz.underlying111 rfl rfl rfl) ?_ | refine wl_f (f_loadb 5 rfl Tryz.underlying111 rfl rfl rfl) ?_ | refine wl_f (f_loadb 6 rfl Tryz.underlying111 rfl rfl rfl) ?_)
  refine wl_f (f_move rfl) ?_
  refine wl_e (e_call1 rB [_, _, _, _] rfl Tryz.func103 (by kernel_rfl) (pk1 3 rfl) (fun w hh hs' => bValue_spec B n _ s.1 rB w hrB hs')) ?_
  rintro _ _ w1 ⟨_, rfl, rfl, hv⟩
  obtain rfl := hv.ok hrB.nd
  refine wl_f (f_move rfl) ?_
  refine wl_f (f_extract rfl rfl) ?_
  refine wl_f (f_extract rfl rfl) ?_
  refine wl_e (e_allocs [.int .u64 0, .pointer .none] (by kernel_rfl)) ?_
  rintro _ _ w1_9 ⟨b1_9, rfl, rfl⟩
  (first | refine wl_e0 (e_store0 (us := [_, _]) rfl rfl rfl (by kernel_rfl) (by simp [Value.oneCell']) rfl rfl) ?_ | refine wl_e0 (e_store1 (us := [_, _]) rfl rfl rfl (by kernel_rfl) (by simp [Value.oneCell']) rfl rfl) ?_ | refine wl_e0 (e_store2 (us := [_, _]) rfl rfl rfl (by kernel_rfl) (by simp [Value.oneCell']) rfl rfl) ?_ | refine wl_e0 (e_store3 (us := [_, _]) rfl rfl rfl (by kernel_rfl) (by simp [Value.oneCell']) rfl rfl) ?_)
  rintro _ _ w1_10 rfl
  refine wl_f (f_assign rfl) ?_
  refine wl_end [(4, _), (5, _)] ⟨rfl, rfl, trivial⟩ ?_
  refine w_seq ?_
  refine w_reg ?_
  (first | refine wl_f (f_loadsb (cs := [_, _]) 0 rfl Tryz.underlying116 rfl (by kernel_rfl) rfl rfl) ?_ | refine wl_f (f_loadsb (cs := [_, _]) 1 rfl Tryz.underlying116 rfl (by kernel_rfl) rfl rfl) ?_ | refine wl_f (f_loadsb (cs := [_, _]) 2 rfl Tryz.underlying116 rfl (by kernel_rfl) rfl rfl) ?_ | refine wl_f (f_loadsb (cs := [_, _]) 3 rfl Tryz.underlying116 rfl (by kernel_rfl) rfl rfl) ?_ | refine wl_f (f_loadsb (cs := [_, _]) 4 rfl Tryz.underlying116 rfl (by kernel_rfl) rfl rfl) ?_ | refine wl_f (f_loadsb (cs := [_, _]) 5 rfl Tryz.underlying116 rfl (by kernel_rfl) rfl rfl) ?_ | refine wl_f (f_loadsb (cs := [_, _]) 6 rfl Tryz.underlying116 rfl (by kernel_rfl) rfl rfl) ?_)
  (first | refine wl_e0 (e_store0 (us := [_, _]) rfl rfl rfl (by kernel_rfl) (by simp [Value.oneCell']) rfl rfl) ?_ | refine wl_e0 (e_store1 (us := [_, _]) rfl rfl rfl (by kernel_rfl) (by simp [Value.oneCell']) rfl rfl) ?_ | refine wl_e0 (e_store2 (us := [_, _]) rfl rfl rfl (by kernel_rfl) (by simp [Value.oneCell']) rfl rfl) ?_ | refine wl_e0 (e_store3 (us := [_, _]) rfl rfl rfl (by kernel_rfl) (by simp [Value.oneCell']) rfl rfl) ?_)
  rintro _ _ w2_1 rfl
  refine wl_end [(4, _)] ⟨rfl, trivial⟩ ?_
  refine w_pick [3, 3, 1, 2, 1] rfl ?_
  refine w_bun (H := [_]) [_, _, _, _] ?_
  refine w_pick [1, 0] rfl ?_
  refine w_ret ?_
  refine ⟨_, _, fun a ha hh => results_cell 0 Tryz.results93 rfl a ha hh Tryz.underlying116 rfl (by kernel_rfl) rfl, List.sublist_cons_self .., ?_⟩
  exact ⟨rfl, rfl⟩
theorem rkof_spec (b n : Nat) (A : List Bk) (s : Bk) (C : List Bk) (r : Res) (w : World) (hr : RkR b n (A ++ s :: C) r) (hs : Holds w r.foot [r] w) :
    Spec Tryz.prog 93 [.pointer (some ⟨b, 0, .none⟩), .int .i64 (s.1 : Int)] w r.foot fun v H => v = .agg #[.int .u64 (s.2.1 : Int), .pointer (some ⟨s.2.2.1, 0, .none⟩)] ∧ H = [r] := by
  obtain ⟨hn1, hn2, B, pV, pl, rB, rs, rfl, hrB, hrs, hI⟩ := hr
  exact rkofg_spec b n _ A s C B pV pl rB rs w hrB hs
end Go.Proofs.YtmagdjlcckgkpaaGreat

/- Orders by count: what an insertion and a taking do to buckets, plain. -/
namespace Go.Proofs.YtmagdjlcckgkpaaGreat
open Go.RowKit

theorem flat_cnt {S : List Bk} {p : Int × Nat} (h : p ∈ flat S) : ∃ s ∈ S, p.2 = s.2.1 := by
  simp only [flat, List.mem_flatMap, bfl, List.mem_map] at h
  obtain ⟨s, hs, q, _, rfl⟩ := h
  exact ⟨s, hs, rfl⟩
theorem bfl_cnt {s : Bk} {p : Int × Nat} (h : p ∈ bfl s) : p.2 = s.2.1 := by
  simp only [bfl, List.mem_map] at h
  obtain ⟨q, _, rfl⟩ := h
  rfl
theorem asc_split {A C : List Bk} {s : Bk} (h : ((A ++ s :: C).map fun s => s.2.1).Pairwise (· < ·)) : (∀ a ∈ A, a.2.1 < s.2.1) ∧ ∀ c ∈ C, s.2.1 < c.2.1 := by
  rw [List.map_append, List.map_cons, List.pairwise_append, List.pairwise_cons] at h
  refine ⟨fun a ha => h.2.2 _ (List.mem_map_of_mem ha) _ (List.mem_cons_self ..), fun c hc => h.2.1.1 _ (List.mem_map_of_mem hc)⟩

theorem RInv.add {n : Nat} {S S' : List Bk} {pl : List (Option (Nat × Nat))} {x bx y : Nat} (h : RInv n S pl) (hx : x < n) (hid : (x : Int) ∉ ids (flat S))
    (hasc : (S'.map fun s => s.2.1).Pairwise (· < ·)) (hne : ∀ s ∈ S', s.2.2.2 ≠ []) (hnd : (S'.map (·.1)).Nodup) (hndi : ∀ s ∈ S', (nodes s.2.2.2).Nodup) (hcnt : ∀ s ∈ S', s.2.1 ≤ 9223372036854775808)
    (hp : (ids (flat S')).Perm ((x : Int) :: ids (flat S))) (hm : ∀ s ∈ S', ∀ p ∈ s.2.2.2, (s.1 = bx ∧ p = (y, (x : Int))) ∨ ∃ s0 ∈ S, s0.1 = s.1 ∧ p ∈ s0.2.2.2) : RInv n S' (pl.set x (some (bx, y))) := by
  have hl := h.len
  refine ⟨by rw [List.length_set]; exact hl, hasc, hne, hnd, hndi, hp.nodup_iff.2 (List.nodup_cons.2 ⟨hid, h.nid⟩), fun z hz => ?_, fun s hs p hps => ?_, fun j hj hjn => ?_, hcnt⟩
  · rcases List.mem_cons.1 (hp.mem_iff.1 hz) with rfl | hz
    · omega
    · exact h.rng z hz
  · rcases hm s hs p hps with ⟨h1, rfl⟩ | ⟨s0, hs0, h1, h2⟩
    · rw [h1]
      show (pl.set x _)[(x : Int).toNat]? = _
      rw [Int.toNat_natCast, List.getElem?_set_self (by omega)]
    · have hi : p.2 ∈ ids (flat S) := ids_flat.2 ⟨s0, hs0, p.1, h2⟩
      have hr := h.rng _ hi
      have hne : x ≠ p.2.toNat := fun e => hid (by rw [show (x : Int) = p.2 by omega]; exact hi)
      rw [List.getElem?_set_ne hne, ← h1]
      exact h.at_ s0 hs0 p h2
  · rw [hp.mem_iff, List.mem_cons, not_or] at hjn
    rw [List.getElem?_set_ne (by omega)]
    exact h.no j hj hjn.2
theorem RInv.del {n : Nat} {S S' : List Bk} {pl : List (Option (Nat × Nat))} {x : Nat} (h : RInv n S pl)
    (hasc : (S'.map fun s => s.2.1).Pairwise (· < ·)) (hne : ∀ s ∈ S', s.2.2.2 ≠ []) (hnd : (S'.map (·.1)).Nodup) (hndi : ∀ s ∈ S', (nodes s.2.2.2).Nodup) (hcnt : ∀ s ∈ S', s.2.1 ≤ 9223372036854775808)
    (hp : (ids (flat S)).Perm ((x : Int) :: ids (flat S'))) (hm : ∀ s ∈ S', ∀ p ∈ s.2.2.2, ∃ s0 ∈ S, s0.1 = s.1 ∧ p ∈ s0.2.2.2) : RInv n S' (pl.set x none) := by
  have hl := h.len
  have hn := List.nodup_cons.1 (hp.nodup_iff.1 h.nid)
  refine ⟨by rw [List.length_set]; exact hl, hasc, hne, hnd, hndi, hn.2, fun z hz => h.rng z (hp.mem_iff.2 (List.mem_cons_of_mem _ hz)), fun s hs p hps => ?_, fun j hj hjn => ?_, hcnt⟩
  · obtain ⟨s0, hs0, h1, h2⟩ := hm s hs p hps
    have hi' : p.2 ∈ ids (flat S') := ids_flat.2 ⟨s, hs, p.1, hps⟩
    have hr := h.rng _ (hp.mem_iff.2 (List.mem_cons_of_mem _ hi'))
    have hne : x ≠ p.2.toNat := fun e => hn.1 (by rw [show (x : Int) = p.2 by omega]; exact hi')
    rw [List.getElem?_set_ne hne, ← h1]
    exact h.at_ s0 hs0 p h2
  · by_cases hjx : x = j
    · subst hjx; rw [List.getElem?_set_self (by omega)]
    · rw [List.getElem?_set_ne hjx]
      refine h.no j hj fun hji => ?_
      rcases List.mem_cons.1 (hp.mem_iff.1 hji) with e | e
      · omega
      · exact hjn e

/-- One more in a bucket. -/
def bpush (s : Bk) (y : Nat) (id : Int) : Bk := (s.1, s.2.1, s.2.2.1, s.2.2.2 ++ [(y, id)])
theorem flat_push (A C : List Bk) (s : Bk) (y : Nat) (id : Int) : flat (A ++ bpush s y id :: C) = (flat A ++ bfl s) ++ (id, s.2.1) :: flat C := by
  simp [flat_app, flat_cons, bfl, bpush]
theorem flat_mid (A C : List Bk) (s : Bk) : flat (A ++ s :: C) = (flat A ++ bfl s) ++ flat C := by simp [flat_app, flat_cons]
theorem perm_mid {A B : List Int} {x : Int} : (A ++ x :: B).Perm (x :: (A ++ B)) := List.perm_middle
theorem RInv.push {n : Nat} {A C : List Bk} {s : Bk} {pl : List (Option (Nat × Nat))} {x y : Nat} (h : RInv n (A ++ s :: C) pl) (hx : x < n) (hid : (x : Int) ∉ ids (flat (A ++ s :: C))) (hy : y ∉ nodes s.2.2.2) :
    RInv n (A ++ bpush s y x :: C) (pl.set x (some (s.1, y))) := by
  refine h.add hx hid ?_ ?_ ?_ ?_ ?_ ?_ ?_
  · have := h.asc; rw [List.map_append, List.map_cons] at this ⊢; exact this
  · intro t ht
    rcases List.mem_append.1 ht with ht | ht
    · exact h.ne t (List.mem_append_left _ ht)
    rcases List.mem_cons.1 ht with rfl | ht
    · simp [bpush]
    · exact h.ne t (List.mem_append_right _ (List.mem_cons_of_mem _ ht))
  · have := h.nd; rw [List.map_append, List.map_cons] at this ⊢; exact this
  · intro t ht
    rcases List.mem_append.1 ht with ht | ht
    · exact h.ndi t (List.mem_append_left _ ht)
    rcases List.mem_cons.1 ht with rfl | ht
    · have := h.ndi s (by simp)
      show ((s.2.2.2 ++ [(y, (x : Int))]).map Prod.fst).Nodup
      rw [List.map_append, List.nodup_append]
      exact ⟨this, by simp, by rintro a ha b hb rfl; simp at hb; subst hb; exact hy ha⟩
    · exact h.ndi t (List.mem_append_right _ (List.mem_cons_of_mem _ ht))
  · intro t ht
    rcases List.mem_append.1 ht with ht | ht
    · exact h.cnt t (List.mem_append_left _ ht)
    rcases List.mem_cons.1 ht with rfl | ht
    · exact h.cnt s (by simp)
    · exact h.cnt t (List.mem_append_right _ (List.mem_cons_of_mem _ ht))
  · rw [flat_push, flat_mid]
    simp only [ids, List.map_append, List.map_cons]
    exact perm_mid
  · intro t ht p hp
    rcases List.mem_append.1 ht with ht | ht
    · exact .inr ⟨t, List.mem_append_left _ ht, rfl, hp⟩
    rcases List.mem_cons.1 ht with rfl | ht
    · rcases List.mem_append.1 hp with hp | hp
      · exact .inr ⟨s, by simp, rfl, hp⟩
      · exact .inl ⟨rfl, List.mem_singleton.1 hp⟩
    · exact .inr ⟨t, List.mem_append_right _ (List.mem_cons_of_mem _ ht), rfl, hp⟩
theorem ins_push {A C : List Bk} {s : Bk} {y : Nat} {id : Int} (h : ((A ++ s :: C).map fun s => s.2.1).Pairwise (· < ·)) : ins (flat (A ++ s :: C)) id s.2.1 = flat (A ++ bpush s y id :: C) := by
  obtain ⟨h1, h2⟩ := asc_split h
  rw [flat_push, flat_mid]
  refine ins_at (fun p hp => ?_) fun p hp => ?_
  · rcases List.mem_append.1 hp with hp | hp
    · obtain ⟨t, ht, e⟩ := flat_cnt hp; have := h1 t ht; omega
    · rw [bfl_cnt hp]; exact Nat.le_refl _
  · obtain ⟨t, ht, e⟩ := flat_cnt hp; have := h2 t ht; omega

/-- A bucket of one. -/
theorem RInv.bucket {n : Nat} {A C : List Bk} {pl : List (Option (Nat × Nat))} {x y bx c k : Nat} (h : RInv n (A ++ C) pl) (hx : x < n) (hid : (x : Int) ∉ ids (flat (A ++ C))) (hb : bx ∉ (A ++ C).map (·.1)) (hA : ∀ s ∈ A, s.2.1 < c) (hC : ∀ s ∈ C, c < s.2.1) (hc : c ≤ 9223372036854775808) :
    RInv n (A ++ (bx, c, k, [(y, (x : Int))]) :: C) (pl.set x (some (bx, y))) := by
  refine h.add hx hid ?_ ?_ ?_ ?_ ?_ ?_ ?_
  · have := h.asc
    rw [List.map_append, List.pairwise_append] at this
    rw [List.map_append, List.map_cons, List.pairwise_append, List.pairwise_cons]
    refine ⟨this.1, ⟨fun a ha => ?_, this.2.1⟩, fun a ha b hb => ?_⟩
    · obtain ⟨s, hs, rfl⟩ := List.mem_map.1 ha; exact hC s hs
    · rcases List.mem_cons.1 hb with rfl | hb
      · obtain ⟨s, hs, rfl⟩ := List.mem_map.1 ha; exact hA s hs
      · exact this.2.2 a ha b hb
  · intro t ht
    rcases List.mem_append.1 ht with ht | ht
    · exact h.ne t (List.mem_append_left _ ht)
    rcases List.mem_cons.1 ht with rfl | ht
    · simp
    · exact h.ne t (List.mem_append_right _ ht)
  · have := h.nd
    rw [List.map_append] at this hb
    rw [List.map_append, List.map_cons]
    exact List.perm_middle.nodup_iff.2 (List.nodup_cons.2 ⟨hb, this⟩)
  · intro t ht
    rcases List.mem_append.1 ht with ht | ht
    · exact h.ndi t (List.mem_append_left _ ht)
    rcases List.mem_cons.1 ht with rfl | ht
    · simp
    · exact h.ndi t (List.mem_append_right _ ht)
  · intro t ht
    rcases List.mem_append.1 ht with ht | ht
    · exact h.cnt t (List.mem_append_left _ ht)
    rcases List.mem_cons.1 ht with rfl | ht
    · exact hc
    · exact h.cnt t (List.mem_append_right _ ht)
  · rw [flat_app, flat_cons, flat_app]
    simp only [ids, bfl, List.map_append, List.map_cons, List.map_nil, List.singleton_append]
    exact perm_mid
  · intro t ht p hp
    rcases List.mem_append.1 ht with ht | ht
    · exact .inr ⟨t, List.mem_append_left _ ht, rfl, hp⟩
    rcases List.mem_cons.1 ht with rfl | ht
    · exact .inl ⟨rfl, List.mem_singleton.1 hp⟩
    · exact .inr ⟨t, List.mem_append_right _ ht, rfl, hp⟩
theorem ins_bucket {A C : List Bk} {y bx c k : Nat} {id : Int} (hA : ∀ s ∈ A, s.2.1 < c) (hC : ∀ s ∈ C, c < s.2.1) : ins (flat (A ++ C)) id c = flat (A ++ (bx, c, k, [(y, id)]) :: C) := by
  rw [flat_app, flat_app, flat_cons]
  exact ins_at (fun p hp => by obtain ⟨t, ht, e⟩ := flat_cnt hp; have := hA t ht; omega) fun p hp => by obtain ⟨t, ht, e⟩ := flat_cnt hp; exact e ▸ hC t ht

/-- One is taken. -/
def btake (s : Bk) (I J : List (Nat × Int)) : Bk := (s.1, s.2.1, s.2.2.1, I ++ J)
theorem flat_take (A C : List Bk) (s : Bk) (I J : List (Nat × Int)) (y : Nat) (id : Int) (hs : s.2.2.2 = I ++ (y, id) :: J) :
    flat (A ++ s :: C) = (flat A ++ I.map fun p => (p.2, s.2.1)) ++ (id, s.2.1) :: ((J.map fun p => (p.2, s.2.1)) ++ flat C) := by
  simp [flat_app, flat_cons, bfl, hs]
theorem flat_took (A C : List Bk) (s : Bk) (I J : List (Nat × Int)) : flat (A ++ btake s I J :: C) = (flat A ++ I.map fun p => (p.2, s.2.1)) ++ ((J.map fun p => (p.2, s.2.1)) ++ flat C) := by
  simp [flat_app, flat_cons, bfl, btake]
theorem RInv.take {n : Nat} {A C : List Bk} {s : Bk} {pl : List (Option (Nat × Nat))} {I J : List (Nat × Int)} {x y : Nat} (h : RInv n (A ++ s :: C) pl) (hs : s.2.2.2 = I ++ (y, (x : Int)) :: J) (hIJ : I ++ J ≠ []) :
    RInv n (A ++ btake s I J :: C) (pl.set x none) := by
  refine h.del ?_ ?_ ?_ ?_ ?_ ?_ ?_
  · have := h.asc; rw [List.map_append, List.map_cons] at this ⊢; exact this
  · intro t ht
    rcases List.mem_append.1 ht with ht | ht
    · exact h.ne t (List.mem_append_left _ ht)
    rcases List.mem_cons.1 ht with rfl | ht
    · exact hIJ
    · exact h.ne t (List.mem_append_right _ (List.mem_cons_of_mem _ ht))
  · have := h.nd; rw [List.map_append, List.map_cons] at this ⊢; exact this
  · intro t ht
    rcases List.mem_append.1 ht with ht | ht
    · exact h.ndi t (List.mem_append_left _ ht)
    rcases List.mem_cons.1 ht with rfl | ht
    · have := h.ndi s (by simp)
      rw [hs, nodes_split] at this
      show ((I ++ J).map Prod.fst).Nodup
      rw [List.map_append]
      exact (List.nodup_cons.1 (List.perm_middle.nodup_iff.1 this)).2
    · exact h.ndi t (List.mem_append_right _ (List.mem_cons_of_mem _ ht))
  · intro t ht
    rcases List.mem_append.1 ht with ht | ht
    · exact h.cnt t (List.mem_append_left _ ht)
    rcases List.mem_cons.1 ht with rfl | ht
    · exact h.cnt s (by simp)
    · exact h.cnt t (List.mem_append_right _ (List.mem_cons_of_mem _ ht))
  · rw [flat_take _ _ _ _ _ _ _ hs, flat_took]
    simp only [ids, List.map_append, List.map_cons]
    exact perm_mid
  · intro t ht p hp
    rcases List.mem_append.1 ht with ht | ht
    · exact ⟨t, List.mem_append_left _ ht, rfl, hp⟩
    rcases List.mem_cons.1 ht with rfl | ht
    · refine ⟨s, by simp, rfl, ?_⟩
      rw [hs]
      rcases List.mem_append.1 hp with hp | hp
      · exact List.mem_append_left _ hp
      · exact List.mem_append_right _ (List.mem_cons_of_mem _ hp)
    · exact ⟨t, List.mem_append_right _ (List.mem_cons_of_mem _ ht), rfl, hp⟩
theorem RInv.gone {n : Nat} {A C : List Bk} {s : Bk} {pl : List (Option (Nat × Nat))} {x y : Nat} (h : RInv n (A ++ s :: C) pl) (hs : s.2.2.2 = [(y, (x : Int))]) : RInv n (A ++ C) (pl.set x none) := by
  have hsub : (A ++ C).Sublist (A ++ s :: C) := List.Sublist.append_left (List.sublist_cons_self ..) _
  refine h.del (h.asc.sublist (hsub.map _)) (fun t ht => h.ne t (hsub.subset ht)) (h.nd.sublist (hsub.map _)) (fun t ht => h.ndi t (hsub.subset ht)) (fun t ht => h.cnt t (hsub.subset ht)) ?_ (fun t ht p hp => ⟨t, hsub.subset ht, rfl, hp⟩)
  rw [flat_take _ _ _ [] [] y x hs, flat_app]
  simp only [ids, List.map_append, List.map_cons, List.map_nil, List.nil_append, List.append_nil]
  exact perm_mid
theorem rem_take {n : Nat} {A C : List Bk} {s : Bk} {pl : List (Option (Nat × Nat))} {I J : List (Nat × Int)} {y : Nat} {id : Int} (h : RInv n (A ++ s :: C) pl) (hs : s.2.2.2 = I ++ (y, id) :: J) :
    rem (flat (A ++ s :: C)) id = flat (A ++ btake s I J :: C) ∧ look (flat (A ++ s :: C)) id = some s.2.1 := by
  have h1 := h.nid
  rw [flat_take _ _ _ _ _ _ _ hs, ids_app] at h1
  have h2 : id ∉ ids (flat A ++ I.map fun p => (p.2, s.2.1)) := fun hi => (List.nodup_append.1 h1).2.2 id hi id (List.mem_cons_self ..) rfl
  rw [flat_take _ _ _ _ _ _ _ hs, flat_took]
  exact ⟨rem_at h2, look_at h2⟩
theorem flat_gone (A C : List Bk) (s : Bk) : flat (A ++ btake s [] [] :: C) = flat (A ++ C) := by simp [flat_app, flat_cons, bfl, btake]
theorem ins_len (l : Ord) (id : Int) (c : Nat) : (ins l id c).length = l.length + 1 := by
  induction l with
  | nil => rfl
  | cons p l ih => rw [ins]; split <;> simp [ih]
end Go.Proofs.YtmagdjlcckgkpaaGreat

/- Orders by count: put. -/
namespace Go.Proofs.YtmagdjlcckgkpaaGreat
open Go.RowKit

def hdC (S : List Bk) : Nat := match S with
  | [] => 0
  | s :: _ => s.2.1
theorem hd_bks_nil {S : List Bk} (h : hdE (-1) (nodes (bks S)) = -1) : S = [] := by
  cases S with
  | nil => rfl
  | cons s S => simp only [bks_cons, List.map_cons, hdE] at h; omega
theorem last_bks {A : List Bk} {s : Bk} : hdE (-1) (nodes (bks (A ++ [s]))).reverse = (s.1 : Int) := by simp [bks, nodes, hdE]
theorem last_bks_nil {A : List Bk} (h : hdE (-1) (nodes (bks A)).reverse = -1) : A = [] := by
  rcases List.eq_nil_or_concat A with rfl | ⟨A0, s, rfl⟩
  · rfl
  · rw [List.concat_eq_append, last_bks] at h; omega
theorem last_bks_some {A : List Bk} (h : hdE (-1) (nodes (bks A)).reverse ≠ -1) : ∃ A0 s, A = A0 ++ [s] := by
  rcases List.eq_nil_or_concat A with rfl | ⟨A0, s, rfl⟩
  · exact absurd rfl h
  · exact ⟨A0, s, by rw [List.concat_eq_append]⟩

section
variable {P : Program} {n : Nat} {w0 : World} {F0 : Nat → Prop} {N R : Cond} {X : Nat → Cond} {m : Env} {H L L' : List Res} {r : Res} {w : World}
theorem bun_mid : Holds w0 F0 (bun (L ++ r :: L') :: H) w ↔ Holds w0 F0 (r :: bun (L ++ L') :: H) w := by
  have hp : ((L ++ r :: L') ++ H).Perm ((L ++ L') ++ (r :: H)) := by
    rw [List.append_assoc, List.append_assoc]
    refine List.Perm.append_left _ ?_
    exact (List.perm_middle (l₁ := L') (l₂ := H) (a := r)).symm
  constructor
  · intro h
    exact (Holds.bun.1 ((Holds.bun.2 h).perm hp)).perm (List.Perm.swap ..)
  · intro h
    exact Holds.bun.1 ((Holds.bun.2 (h.perm (List.Perm.swap ..))).perm hp.symm)
theorem w_mid {c : Code} (h : W P n w0 F0 c N R X m (r :: bun (L ++ L') :: H) w) : W P n w0 F0 c N R X m (bun (L ++ r :: L') :: H) w := w_eqv bun_mid.1 h
theorem w_amid {c : Code} (h : W P n w0 F0 c N R X m (bun (L ++ r :: L') :: H) w) : W P n w0 F0 c N R X m (r :: bun (L ++ L') :: H) w := w_eqv bun_mid.2 h
theorem wl_mid {ops : Array Oper} {l : List Oper} (h : WL P n w0 F0 ops N l m (r :: bun (L ++ L') :: H) w) : WL P n w0 F0 ops N l m (bun (L ++ r :: L') :: H) w := wl_eqv bun_mid.1 h
theorem wl_amid {ops : Array Oper} {l : List Oper} (h : WL P n w0 F0 ops N l m (bun (L ++ r :: L') :: H) w) : WL P n w0 F0 ops N l m (r :: bun (L ++ L') :: H) w := wl_eqv bun_mid.2 h
end
theorem build_bucket (c : Int) (B : Nat) (w : World) : (Instr.build 116 [(0, .int .u64 c), (1, .pointer (some ⟨B, 0, .none⟩))].toArray).run Tryz.prog w =
    .ok (.agg [.int .u64 c, .pointer (some ⟨B, 0, .none⟩)].toArray) w := by kernel_rfl
theorem build_place (x y : Int) (w : World) : (Instr.build 158 [(0, .bool true), (1, .int .i64 x), (2, .int .i64 y)].toArray).run Tryz.prog w =
    .ok (.agg [.bool true, .int .i64 x, .int .i64 y].toArray) w := by kernel_rfl

set_option maxHeartbeats 8000000 in
theorem rkput_spec (b n : Nat) (A C : List Bk) (r : Res) (x c : Nat) (w : World) (hx : x < n) (hid : (x : Int) ∉ ids (flat (A ++ C))) (hc : c ≤ 9223372036854775808) (hA : ∀ s ∈ A, s.2.1 < c) (hr : RkR b n (A ++ C) r) (hs : Holds w r.foot [r] w) :
    Spec Tryz.prog 95 [.pointer (some ⟨b, 0, .none⟩), .int .i64 (x : Int), .int .u64 (c : Int), .int .i64 (hdE (-1) (nodes (bks A)).reverse)] w r.foot fun v H => v = .int .i64 0 ∧ ∃ r', H = [r'] ∧ RkO b n (ins (flat (A ++ C)) x c) r' := by
  obtain ⟨hn1, hn2, B, pV, pl, rB, rs, rfl, hrB, hrs, hI⟩ := id hr
  refine enter (n := 121) Tryz.func95 rfl rfl [(0, _), (1, _), (2, _), (3, _)] rfl ⟨rfl, rfl, rfl, rfl, trivial⟩ hs ?_
  refine w_seq ?_
  refine w_reg ?_
  refine wl_f (f_assign rfl) ?_
  refine wl_end [(0, _), (1, _), (2, _), (3, _)] ⟨rfl, rfl, rfl, rfl, trivial⟩ ?_
  refine w_seq ?_
  refine w_unb (rkg b n _ B pV pl rB rs) ?_
  refine w_reg ?_
  refine wl_f (f_move rfl) ?_
  refine wl_f (f_nilCheck rfl) ?_
  refine wl_f (f_fieldAddr 2 rfl Tryz.underlying119 rfl rfl (by kernel_rfl)) ?_
  (first | refine wl_f (f_loadb 0 rfl Tryz.underlying111 rfl rfl rfl) ?_ | refine wl_f (f_loadb 1 rfl Tryz.underlying111 rfl rfl rfl) ?_ | refine wl_f (f_loadb 2 rfl Tryz.underlying111 rfl rfl rfl) ?_ | refine wl_f (f_loadb 3 rfl Tryz.underlying111 rfl rfl rfl) ?_ | refine wl_f (f_loadb 4 rfl Tryz.underlying111 rfl rfl rfl) ?_ | refine wl_f (f_loadb 5 rfl Tryz.underlying111 rfl rfl rfl) ?_ | refine wl_f (f_loadb 6 rfl Tryz.underlying111 rfl rfl rfl) ?_)
  refine wl_e (e_call1 rB [_, _, _] rfl Tryz.func108 (by kernel_rfl) (pk1 2 rfl) (fun w hh hs' => bfirst_spec B n _ rB w hrB hs')) ?_
  rintro _ _ w1 ⟨_, rfl, rfl, rfl⟩
  refine wl_f (f_assign rfl) ?_
  refine wl_pick [1, 1, 0, 0] rfl ?_
  refine wl_bun (H := []) [_, _, _, _] ?_
  refine wl_end [(0, _), (1, _), (2, _), (3, _), (9, _)] ⟨rfl, rfl, rfl, rfl, rfl, trivial⟩ ?_
  refine w_seq ?_
  refine w_seq ?_
  refine w_reg ?_
  refine wl_f (f_move rfl) ?_
  refine wl_f (f_neq rfl rfl) ?_
  refine wl_end [(0, _), (1, _), (2, _), (3, _), (9, _), (21, _)] ⟨rfl, rfl, rfl, rfl, rfl, rfl, trivial⟩ ?_
  refine w_post (fun m H w' => m = [(0, .pointer (some ⟨b, 0, .none⟩)), (1, .int .i64 x), (2, .int .u64 c), (3, .int .i64 (hdE (-1) (nodes (bks A)).reverse)), (9, .int .i64 (hdE (-1) (nodes (bks C))))] ∧ H = [bun (rkg b n (flat (A ++ C)).length B pV pl rB rs)]) ?_ ?_
  · skip
    refine w_ifd rfl (fun hc1 => ?_) (fun hc1 => ?_)
    · skip
      obtain ⟨A0, s0, rfl⟩ := last_bks_some (by simpa using hc1)
      rw [last_bks]
      refine w_unb (rkg b n _ B pV pl rB rs) ?_
      refine w_reg ?_
      refine wl_f (f_move rfl) ?_
      refine wl_f (f_nilCheck rfl) ?_
      refine wl_f (f_fieldAddr 2 rfl Tryz.underlying119 rfl rfl (by kernel_rfl)) ?_
      (first | refine wl_f (f_loadb 0 rfl Tryz.underlying111 rfl rfl rfl) ?_ | refine wl_f (f_loadb 1 rfl Tryz.underlying111 rfl rfl rfl) ?_ | refine wl_f (f_loadb 2 rfl Tryz.underlying111 rfl rfl rfl) ?_ | refine wl_f (f_loadb 3 rfl Tryz.underlying111 rfl rfl rfl) ?_ | refine wl_f (f_loadb 4 rfl Tryz.underlying111 rfl rfl rfl) ?_ | refine wl_f (f_loadb 5 rfl Tryz.underlying111 rfl rfl rfl) ?_ | refine wl_f (f_loadb 6 rfl Tryz.underlying111 rfl rfl rfl) ?_)
      refine wl_f (f_move rfl) ?_
      refine wl_e (e_call1 rB [_, _, _] rfl Tryz.func109 (by kernel_rfl) (pk1 2 rfl) (fun w hh hs' => bnext_spec B n _ rB s0.1 w hrB hs')) ?_
      rintro _ _ w2 ⟨_, rfl, rfl, y, rfl, _, hy⟩
      obtain rfl := hy (bks A0) s0.1 _ (bks C) (by rw [bks_app, bks_app, List.append_assoc]; rfl) rfl
      refine wl_f (f_assign rfl) ?_
      refine wl_pick [1, 1, 0, 0] rfl ?_
      refine wl_bun (H := []) [_, _, _, _] ?_
      refine wl_end [(0, _), (1, _), (2, _), (3, _), (9, _)] ⟨rfl, rfl, rfl, rfl, rfl, trivial⟩ ?_
      exact ⟨rfl, rfl⟩
    · skip
      obtain rfl : A = [] := last_bks_nil (by simpa using hc1)
      refine w_sub [(0, _), (1, _), (2, _), (3, _), (9, _)] ⟨rfl, rfl, rfl, rfl, rfl, trivial⟩ (w_skip ?_)
      exact ⟨rfl, rfl⟩
  · rintro _ _ w3 ⟨rfl, rfl⟩
    refine w_seq ?_
    refine w_block ?_
    refine w_loop (fun k m H w' => ∃ A' C', m = [(0, .pointer (some ⟨b, 0, .none⟩)), (1, .int .i64 x), (2, .int .u64 c), (3, .int .i64 (hdE (-1) (nodes (bks A')).reverse)), (9, .int .i64 (hdE (-1) (nodes (bks C'))))] ∧ H = [bun (rkg b n (flat (A ++ C)).length B pV pl rB rs)] ∧
      A ++ C = A' ++ C' ∧ (∀ s ∈ A', s.2.1 < c) ∧ k = C'.length) C.length ⟨A, C, rfl, rfl, rfl, hA, rfl⟩ ?_
    rintro k _ _ w4 ⟨A', C', rfl, rfl, hS, hA', hk⟩
    refine w_seq ?_
    refine w_seq ?_
    refine w_reg ?_
    refine wl_f (f_move rfl) ?_
    refine wl_f (f_neq rfl rfl) ?_
    refine wl_f (f_move rfl) ?_
    refine wl_and (j := 2) (c := decide ((hdC C' : Int) < (c : Int))) 6 [(0, _), (1, _), (2, _), (3, _), (9, _)] ⟨rfl, rfl, rfl, rfl, rfl, trivial⟩ rfl rfl rfl rfl rfl (fun hg4_9 => ?_) (fun w4_9 => ?_)
    · skip
      refine wl_gf rfl rfl (f_move rfl) ?_
      refine wl_gf rfl rfl (f_move rfl) ?_
      obtain ⟨s, C2, rfl⟩ : ∃ s C2, C' = s :: C2 := by
        cases C' with
        | nil => simp [bks, nodes, hdE] at hg4_9
        | cons s t => exact ⟨s, t, rfl⟩
      refine wl_ge rfl rfl (e_call1 (bun (rkg b n _ B pV pl rB rs)) [] rfl Tryz.func93 (by kernel_rfl) (List.Perm.refl _) (fun w hh hs' => rkofg_spec b n _ A' s C2 B pV pl rB rs w (hS ▸ hrB) hs')) ?_
      rintro _ _ w5 ⟨_, rfl, rfl, rfl⟩
      refine wl_gf rfl rfl (f_field rfl Tryz.underlying116 rfl Tryz.underlying33 rfl rfl) ?_
      refine wl_gf rfl rfl (f_move rfl) ?_
      refine wl_gf rfl rfl (f_lss rfl rfl) ?_
      exact wl_pend rfl rfl ⟨rfl, rfl, rfl, rfl, rfl, trivial⟩ (List.Sublist.refl _)
    refine wl_end [(0, _), (1, _), (2, _), (3, _), (9, _), (37, _)] ⟨rfl, rfl, rfl, rfl, rfl, rfl, trivial⟩ ?_
    refine w_ifb rfl (fun hc2 => ?_) (fun hc2 => ?_)
    · skip
      refine w_skip ?_
      refine w_block ?_
      obtain ⟨s, C2, rfl⟩ : ∃ s C2, C' = s :: C2 := by
        cases C' with
        | nil => simp [bks, nodes, hdE] at hc2
        | cons s t => exact ⟨s, t, rfl⟩
      refine w_unb (rkg b n _ B pV pl rB rs) ?_
      refine w_reg ?_
      refine wl_f (f_move rfl) ?_
      refine wl_f (f_move rfl) ?_
      refine wl_f (f_nilCheck rfl) ?_
      refine wl_f (f_fieldAddr 2 rfl Tryz.underlying119 rfl rfl (by kernel_rfl)) ?_
      (first | refine wl_f (f_loadb 0 rfl Tryz.underlying111 rfl rfl rfl) ?_ | refine wl_f (f_loadb 1 rfl Tryz.underlying111 rfl rfl rfl) ?_ | refine wl_f (f_loadb 2 rfl Tryz.underlying111 rfl rfl rfl) ?_ | refine wl_f (f_loadb 3 rfl Tryz.underlying111 rfl rfl rfl) ?_ | refine wl_f (f_loadb 4 rfl Tryz.underlying111 rfl rfl rfl) ?_ | refine wl_f (f_loadb 5 rfl Tryz.underlying111 rfl rfl rfl) ?_ | refine wl_f (f_loadb 6 rfl Tryz.underlying111 rfl rfl rfl) ?_)
      refine wl_f (f_move rfl) ?_
      refine wl_e (e_call1 rB [_, _, _] rfl Tryz.func109 (by kernel_rfl) (pk1 2 rfl) (fun w hh hs' => bnext_spec B n _ rB s.1 w hrB hs')) ?_
      rintro _ _ w6 ⟨_, rfl, rfl, y, rfl, _, hy⟩
      obtain rfl := hy (bks A') s.1 _ (bks C2) (by rw [hS, bks_app]; rfl) rfl
      refine wl_f (f_assign rfl) ?_
      refine wl_f (f_assign rfl) ?_
      refine wl_pick [1, 1, 0, 0] rfl ?_
      refine wl_bun (H := []) [_, _, _, _] ?_
      refine wl_end [(0, _), (1, _), (2, _), (3, _), (9, _)] ⟨rfl, rfl, rfl, rfl, rfl, trivial⟩ ?_
      refine ⟨C2.length, by rw [hk]; exact Nat.lt_succ_self _, A' ++ [s], C2, by rw [last_bks]; rfl, rfl, by rw [hS, List.append_assoc]; rfl, fun t ht => ?_, rfl⟩
      rcases List.mem_append.1 ht with ht | ht
      · exact hA' t ht
      · rw [List.mem_singleton] at ht
        subst ht
        have h2 := (Bool.and_eq_true _ _).mp hc2 |>.2
        have h3 : (t.2.1 : Int) < (c : Int) := of_decide_eq_true h2
        omega
    · skip
      have hC0 : C' = [] ∨ c ≤ hdC C' := by
        cases C' with
        | nil => exact .inl rfl
        | cons s t =>
          refine .inr (Nat.le_of_not_lt fun h => hc2 ?_)
          rw [Bool.and_eq_true]
          refine ⟨?_, decide_eq_true (by show (s.2.1 : Int) < c; have h' : s.2.1 < c := h; omega)⟩
          simp only [bks_cons, List.map_cons, hdE]
          exact decide_eq_true (by omega)
      refine w_exit0 ?_
      refine w_seq ?_
      refine w_seq ?_
      refine w_reg ?_
      refine wl_f (f_move rfl) ?_
      refine wl_f (f_eql rfl rfl) ?_
      refine wl_f (f_move rfl) ?_
      refine wl_or (j := 2) (c := decide ((hdC C' : Int) ≠ (c : Int))) 6 [(0, _), (1, _), (2, _), (3, _), (9, _)] ⟨rfl, rfl, rfl, rfl, rfl, trivial⟩ rfl rfl rfl rfl rfl (fun hg6_9 => ?_) (fun w6_9 => ?_)
      · skip
        refine wl_gf rfl rfl (f_move rfl) ?_
        refine wl_gf rfl rfl (f_move rfl) ?_
        obtain ⟨s, C2, rfl⟩ : ∃ s C2, C' = s :: C2 := by
          cases C' with
          | nil => simp [bks, nodes, hdE] at hg6_9
          | cons s t => exact ⟨s, t, rfl⟩
        refine wl_ge rfl rfl (e_call1 (bun (rkg b n _ B pV pl rB rs)) [] rfl Tryz.func93 (by kernel_rfl) (List.Perm.refl _) (fun w hh hs' => rkofg_spec b n _ A' s C2 B pV pl rB rs w (hS ▸ hrB) hs')) ?_
        rintro _ _ w5 ⟨_, rfl, rfl, rfl⟩
        refine wl_gf rfl rfl (f_field rfl Tryz.underlying116 rfl Tryz.underlying33 rfl rfl) ?_
        refine wl_gf rfl rfl (f_move rfl) ?_
        refine wl_gf rfl rfl (f_neq rfl rfl) ?_
        exact wl_pend rfl rfl ⟨rfl, rfl, rfl, rfl, rfl, trivial⟩ (List.Sublist.refl _)
      refine wl_end [(0, _), (1, _), (2, _), (3, _), (9, _), (54, _)] ⟨rfl, rfl, rfl, rfl, rfl, rfl, trivial⟩ ?_
      refine w_post (fun m H w' => ∃ (A1 : List Bk) (s1 : Bk) (C1 : List Bk) (rB1 : Res) (ra : List Res) (ri : Res) (rc : List Res),
        m = [(0, .pointer (some ⟨b, 0, .none⟩)), (1, .int .i64 x), (9, .int .i64 s1.1)] ∧ H = [bun (rkg b n (flat (A ++ C)).length B pV pl rB1 (ra ++ ri :: rc))] ∧
        ChR kBuc B n (bks (A1 ++ s1 :: C1)) rB1 ∧ IdsR n A1 ra ∧ ChR kInt s1.2.2.1 n s1.2.2.2 ri ∧ IdsR n C1 rc ∧ s1.2.2.2.length < n ∧
        (∀ y, Fresh (nodes s1.2.2.2) y → RInv n (A1 ++ bpush s1 y x :: C1) (pl.set x (some (s1.1, y))) ∧ flat (A1 ++ bpush s1 y x :: C1) = ins (flat (A ++ C)) x c)) ?_ ?_
      · skip
        refine w_ifb rfl (fun hc3 => ?_) (fun hc3 => ?_)
        · skip
          obtain ⟨ra, rc, hrac, hra, hrc⟩ := IdsR.split (hS ▸ hrs : IdsR n (A' ++ C') rs)
          subst hrac
          have hI' : RInv n (A' ++ C') pl := hS ▸ hI
          have hid' : (x : Int) ∉ ids (flat (A' ++ C')) := hS ▸ hid
          have hlt := range_lt hI'.nid hI'.rng (id := (x : Int)) (by omega) hid'
          have hfl := flat_len hI'.ne
          simp only [ids, List.length_map] at hlt
          have hlb := bks_len (A' ++ C')
          have hrB' : ChR kBuc B n (bks (A' ++ C')) rB := hS ▸ hrB
          have hCgt : ∀ s ∈ C', c < s.2.1 := by
            cases C' with
            | nil => exact fun s hs => absurd hs (List.not_mem_nil)
            | cons s C2 =>
              have h1 : c ≤ s.2.1 := by
                rcases hC0 with h | h
                · cases h
                · exact h
              have h2 : s.2.1 ≠ c := by
                rw [Bool.or_eq_true] at hc3
                rcases hc3 with h | h
                · have h' := of_decide_eq_true h
                  simp only [bks_cons, List.map_cons, hdE] at h'
                  omega
                · have h' := of_decide_eq_true h
                  have h'' : (s.2.1 : Int) ≠ c := h'
                  omega
              intro t ht
              rcases List.mem_cons.1 ht with rfl | ht
              · omega
              · have := (asc_split hI'.asc).2 t ht; omega
          refine w_seq ?_
          refine w_reg ?_
          refine wl_f (f_move rfl) ?_
          refine wl_f (f_nilCheck rfl) ?_
          refine wl_f (f_fieldAddr 0 rfl Tryz.underlying119 rfl rfl (by kernel_rfl)) ?_
          refine wl_f (f_loadB 0 0 rfl rfl rfl Tryz.underlying3 rfl rfl) ?_
          refine wl_e (e_call0 rfl Tryz.func110 (by kernel_rfl) (fun w hh => inew_spec n w)) ?_
          rintro _ _ w7 ⟨_, rfl, ⟨_, rfl, rfl⟩ | ⟨k', k0, rN, hk', _, _, rfl, rfl, hrN⟩⟩
          · omega
          obtain rfl : n = k' := by omega
          refine wl_f (f_move rfl) ?_
          refine wl_f (f_extract rfl rfl) ?_
          refine wl_f (f_extract rfl rfl) ?_
          refine wl_f (f_assign rfl) ?_
          refine wl_f (f_assign rfl) ?_
          refine wl_end [(0, _), (1, _), (2, _), (3, _), (10, _), (11, _)] ⟨rfl, rfl, rfl, rfl, rfl, rfl, trivial⟩ ?_
          refine w_seq ?_
          refine w_seq ?_
          refine w_reg ?_
          refine wl_f (f_move rfl) ?_
          refine wl_f (f_neq rfl rfl) ?_
          refine wl_end [(0, _), (1, _), (2, _), (3, _), (10, _), (11, _), (64, _)] ⟨rfl, rfl, rfl, rfl, rfl, rfl, rfl, trivial⟩ ?_
          refine w_ifb rfl (fun h => absurd h (by simp)) (fun _ => ?_)
          refine w_skip ?_
          refine w_seq ?_
          refine w_reg ?_
          refine wl_f (f_move rfl) ?_
          refine wl_f (f_move rfl) ?_
          refine wl_f (f_build rfl (fun w => build_bucket _ _ w)) ?_
          refine wl_e (e_allocs [.int .u64 0, .pointer .none] (by kernel_rfl)) ?_
          rintro _ _ w10_3 ⟨b10_3, rfl, rfl⟩
          (first | refine wl_e0 (e_store0 (us := [_, _]) rfl rfl rfl (by kernel_rfl) (by simp [Value.oneCell']) rfl rfl) ?_ | refine wl_e0 (e_store1 (us := [_, _]) rfl rfl rfl (by kernel_rfl) (by simp [Value.oneCell']) rfl rfl) ?_ | refine wl_e0 (e_store2 (us := [_, _]) rfl rfl rfl (by kernel_rfl) (by simp [Value.oneCell']) rfl rfl) ?_ | refine wl_e0 (e_store3 (us := [_, _]) rfl rfl rfl (by kernel_rfl) (by simp [Value.oneCell']) rfl rfl) ?_)
          rintro _ _ w10_4 rfl
          refine wl_end [(0, _), (1, _), (3, _), (12, _)] ⟨rfl, rfl, rfl, rfl, trivial⟩ ?_
          refine w_seq ?_
          refine w_seq ?_
          refine w_reg ?_
          refine wl_f (f_move rfl) ?_
          refine wl_f (f_eql rfl rfl) ?_
          refine wl_pick [2, 0, 0] rfl ?_
          refine wl_unb (rkg b n _ B pV pl rB (ra ++ rc)) ?_
          refine wl_pick [0, 0, 1, 2, 1, 0] rfl ?_
          refine wl_end [(0, _), (1, _), (3, _), (12, _), (70, _)] ⟨rfl, rfl, rfl, rfl, rfl, trivial⟩ ?_
          refine w_post (fun m H w' => ∃ (y : Nat) (r' : Res), m = [(0, .pointer (some ⟨b, 0, .none⟩)), (1, .int .i64 x), (9, .int .i64 y), (11, .int .i64 0)] ∧
            H = [blk b [.int .i64 (n : Int), .int .i64 ((flat (A ++ C)).length : Int), .pointer (some ⟨B, 0, .none⟩), pV] 119, row pV 158 3 n (pcells pl), bun (ra ++ rc), rN, r'] ∧
            ChR kBuc B n (bks (A' ++ (y, c, k0, []) :: C')) r' ∧ y ∉ (A' ++ C').map (·.1)) ?_ ?_
          · skip
            refine w_ifd rfl (fun hc5 => ?_) (fun hc5 => ?_)
            · skip
              obtain rfl : A' = [] := last_bks_nil (by simpa using hc5)
              refine w_draw [(0, true), (1, true), (2, true), (3, true), (4, true), (5, false), (6, true), (7, true), (8, true), (9, true), (10, true)] ([_, _, _, _, _]) ([_]) mixed (by kernel_rfl) (by kernel_rfl) rfl (List.Perm.refl _) (fun w12_ => ?_)
              refine wd_f rfl (f_move rfl) ?_
              refine wd_f rfl (f_nilCheck rfl) ?_
              refine wd_f rfl (f_fieldAddr 2 rfl Tryz.underlying119 rfl rfl (by kernel_rfl)) ?_
              (first | refine wd_f rfl (f_loadb 0 rfl Tryz.underlying111 rfl rfl rfl) ?_ | refine wd_f rfl (f_loadb 1 rfl Tryz.underlying111 rfl rfl rfl) ?_ | refine wd_f rfl (f_loadb 2 rfl Tryz.underlying111 rfl rfl rfl) ?_ | refine wd_f rfl (f_loadb 3 rfl Tryz.underlying111 rfl rfl rfl) ?_ | refine wd_f rfl (f_loadb 4 rfl Tryz.underlying111 rfl rfl rfl) ?_ | refine wd_f rfl (f_loadb 5 rfl Tryz.underlying111 rfl rfl rfl) ?_ | refine wd_f rfl (f_loadb 6 rfl Tryz.underlying111 rfl rfl rfl) ?_)
              (first | refine wd_f rfl (f_loadsb (cs := [_, _]) 0 rfl Tryz.underlying116 rfl (by kernel_rfl) rfl rfl) ?_ | refine wd_f rfl (f_loadsb (cs := [_, _]) 1 rfl Tryz.underlying116 rfl (by kernel_rfl) rfl rfl) ?_ | refine wd_f rfl (f_loadsb (cs := [_, _]) 2 rfl Tryz.underlying116 rfl (by kernel_rfl) rfl rfl) ?_ | refine wd_f rfl (f_loadsb (cs := [_, _]) 3 rfl Tryz.underlying116 rfl (by kernel_rfl) rfl rfl) ?_ | refine wd_f rfl (f_loadsb (cs := [_, _]) 4 rfl Tryz.underlying116 rfl (by kernel_rfl) rfl rfl) ?_ | refine wd_f rfl (f_loadsb (cs := [_, _]) 5 rfl Tryz.underlying116 rfl (by kernel_rfl) rfl rfl) ?_ | refine wd_f rfl (f_loadsb (cs := [_, _]) 6 rfl Tryz.underlying116 rfl (by kernel_rfl) rfl rfl) ?_)
              refine wd_e rfl (e_call1 rB [_, _, _, _, _] rfl Tryz.func111 (by kernel_rfl) (pk1 5 rfl) (fun w hh hs' => bPushFront_spec B n _ (c, some k0) rB w hn2 hrB' hs')) ?_
              rintro _ _ w12 ⟨_, rfl, ⟨h, _⟩ | ⟨_, y, r2, hy, rfl, rfl, hr2⟩⟩
              · exfalso
                rw [List.nil_append, List.nil_append] at h
                rw [List.nil_append] at hfl hlt hlb
                omega
              refine ⟨_, List.perm_append_comm, ?_⟩
              refine wd_f rfl (f_move rfl) ?_
              refine wd_f rfl (f_extract rfl rfl) ?_
              refine wd_f rfl (f_extract rfl rfl) ?_
              refine wd_f rfl (f_assign rfl) ?_
              refine wd_f rfl (f_assign rfl) ?_
              refine wd_endp [(0, _), (1, _), (9, _), (11, _)] [0, 0, 0, 0, 1] ⟨rfl, rfl, rfl, rfl, trivial⟩ rfl ?_
              exact ⟨y, r2, rfl, rfl, hr2, by rw [← nodes_bks]; exact hy.1⟩
            · skip
              obtain ⟨A0, s0, rfl⟩ := last_bks_some (by simpa using hc5)
              rw [last_bks]
              refine w_draw [(0, true), (1, true), (2, true), (3, true), (4, true), (5, true), (6, false), (7, true), (8, true), (9, true), (10, true), (11, true)] ([_, _, _, _, _]) ([_]) mixed (by kernel_rfl) (by kernel_rfl) rfl (List.Perm.refl _) (fun w13_ => ?_)
              refine wd_f rfl (f_move rfl) ?_
              refine wd_f rfl (f_nilCheck rfl) ?_
              refine wd_f rfl (f_fieldAddr 2 rfl Tryz.underlying119 rfl rfl (by kernel_rfl)) ?_
              (first | refine wd_f rfl (f_loadb 0 rfl Tryz.underlying111 rfl rfl rfl) ?_ | refine wd_f rfl (f_loadb 1 rfl Tryz.underlying111 rfl rfl rfl) ?_ | refine wd_f rfl (f_loadb 2 rfl Tryz.underlying111 rfl rfl rfl) ?_ | refine wd_f rfl (f_loadb 3 rfl Tryz.underlying111 rfl rfl rfl) ?_ | refine wd_f rfl (f_loadb 4 rfl Tryz.underlying111 rfl rfl rfl) ?_ | refine wd_f rfl (f_loadb 5 rfl Tryz.underlying111 rfl rfl rfl) ?_ | refine wd_f rfl (f_loadb 6 rfl Tryz.underlying111 rfl rfl rfl) ?_)
              refine wd_f rfl (f_move rfl) ?_
              (first | refine wd_f rfl (f_loadsb (cs := [_, _]) 0 rfl Tryz.underlying116 rfl (by kernel_rfl) rfl rfl) ?_ | refine wd_f rfl (f_loadsb (cs := [_, _]) 1 rfl Tryz.underlying116 rfl (by kernel_rfl) rfl rfl) ?_ | refine wd_f rfl (f_loadsb (cs := [_, _]) 2 rfl Tryz.underlying116 rfl (by kernel_rfl) rfl rfl) ?_ | refine wd_f rfl (f_loadsb (cs := [_, _]) 3 rfl Tryz.underlying116 rfl (by kernel_rfl) rfl rfl) ?_ | refine wd_f rfl (f_loadsb (cs := [_, _]) 4 rfl Tryz.underlying116 rfl (by kernel_rfl) rfl rfl) ?_ | refine wd_f rfl (f_loadsb (cs := [_, _]) 5 rfl Tryz.underlying116 rfl (by kernel_rfl) rfl rfl) ?_ | refine wd_f rfl (f_loadsb (cs := [_, _]) 6 rfl Tryz.underlying116 rfl (by kernel_rfl) rfl rfl) ?_)
              refine wd_e rfl (e_call1 rB [_, _, _, _, _] rfl Tryz.func112 (by kernel_rfl) (pk1 5 rfl) (fun w hh hs' => bInsertAfter_spec B n _ s0.1 (c, some k0) rB w hn2 hrB' hs')) ?_
              rintro _ _ w13 ⟨_, rfl, hG⟩
              rw [bks_app, bks_app, List.append_assoc] at hG
              have hnd := hrB'.nd
              rw [bks_app, bks_app, List.append_assoc] at hnd
              replace hG := BehindG.ok (A := bks A0) (y := s0.1) (a := (s0.2.1, some s0.2.2.1)) (B := bks C') hG hnd
              obtain ⟨h, _⟩ | ⟨_, y, r2, hy, rfl, rfl, hr2⟩ := hG
              · exfalso
                rw [bks_app, bks_app] at hlb
                have : (bks A0 ++ [(s0.1, s0.2.1, some s0.2.2.1)] ++ bks C').length = n := h
                have h3 : (bks A0 ++ bks [s0] ++ bks C').length = n := this
                omega
              refine ⟨_, List.perm_append_comm, ?_⟩
              refine wd_f rfl (f_move rfl) ?_
              refine wd_f rfl (f_extract rfl rfl) ?_
              refine wd_f rfl (f_extract rfl rfl) ?_
              refine wd_f rfl (f_assign rfl) ?_
              refine wd_f rfl (f_assign rfl) ?_
              refine wd_endp [(0, _), (1, _), (9, _), (11, _)] [0, 0, 0, 0, 1] ⟨rfl, rfl, rfl, rfl, trivial⟩ rfl ?_
              refine ⟨y, r2, rfl, rfl, ?_, ?_⟩
              · rw [bks_app, bks_app, bks_cons]; exact hr2
              · rw [← nodes_bks, bks_app, bks_app]; exact hy.1
          · rintro _ _ w14 ⟨y, r', rfl, rfl, hrB2, hyn⟩
            refine w_seq ?_
            refine w_reg ?_
            refine wl_f (f_move rfl) ?_
            refine wl_f (f_neq rfl rfl) ?_
            refine wl_end [(0, _), (1, _), (9, _), (11, _), (91, _)] ⟨rfl, rfl, rfl, rfl, rfl, trivial⟩ ?_
            refine w_ifb rfl (fun h => absurd h (by simp)) (fun _ => ?_)
            refine w_pick [3, 2, 0, 0, 0] rfl ?_
            refine w_amid ?_
            refine w_pick [1, 1, 1, 0] rfl ?_
            refine w_bun (H := []) [_, _, _, _] ?_
            refine w_sub [(0, _), (1, _), (9, _)] ⟨rfl, rfl, rfl, trivial⟩ (w_skip ?_)
            exact ⟨A', (y, c, k0, []), C', r', ra, rN, rc, rfl, rfl, hrB2, hra, hrN, hrc, by show 0 < n; omega, fun z hz => ⟨hI'.bucket hx hid' hyn hA' hCgt hc, by rw [hS]; exact (ins_bucket hA' hCgt).symm⟩⟩
        · skip
          obtain ⟨s, C2, rfl⟩ : ∃ s C2, C' = s :: C2 := by
            cases C' with
            | nil => exact absurd rfl hc3
            | cons s t => exact ⟨s, t, rfl⟩
          have hsc : s.2.1 = c := by
            refine Classical.byContradiction fun h => hc3 ?_
            rw [Bool.or_eq_true]
            exact .inr (decide_eq_true (by show (s.2.1 : Int) ≠ c; omega))
          refine w_sub [(0, _), (1, _), (9, _)] ⟨rfl, rfl, rfl, trivial⟩ (w_skip ?_)
          obtain ⟨ra, rb, rfl, h1, h2⟩ := IdsR.split (hS ▸ hrs : IdsR n (A' ++ s :: C2) rs)
          obtain ⟨ri, rc, rfl, h3, h4⟩ := h2.cons_inv
          have hI' : RInv n (A' ++ s :: C2) pl := hS ▸ hI
          have hlt := range_lt hI'.nid hI'.rng (id := (x : Int)) (by omega) (hS ▸ hid)
          refine ⟨A', s, C2, rB, ra, ri, rc, rfl, rfl, hS ▸ hrB, h1, h3, h4, ?_, fun y hy => ⟨hI'.push hx (hS ▸ hid) hy.1, ?_⟩⟩
          · rw [flat_mid] at hlt
            simp only [ids, List.length_map, List.length_append, bfl] at hlt
            omega
          · rw [hS, ← hsc, ins_push hI'.asc]
      · rintro _ _ w15 ⟨A1, s1, C1, rB1, ra, ri, rc, rfl, rfl, hrB1, hra, hri, hrc, hl1, hfin⟩
        refine w_seq ?_
        refine w_reg ?_
        refine wl_f (f_move rfl) ?_
        refine wl_f (f_move rfl) ?_
        refine wl_e (e_call1 (bun (rkg b n _ B pV pl rB1 (ra ++ ri :: rc))) [] rfl Tryz.func93 (by kernel_rfl) (List.Perm.refl _) (fun w hh hs' => rkofg_spec b n _ A1 s1 C1 B pV pl rB1 _ w hrB1 hs')) ?_
        rintro _ _ w16 ⟨_, rfl, rfl, rfl⟩
        rw [List.append_nil]
        refine wl_unb (rkg b n _ B pV pl rB1 (ra ++ ri :: rc)) ?_
        refine wl_pick [3, 0, 0, 0] rfl ?_
        refine wl_mid ?_
        refine wl_f (f_field rfl Tryz.underlying116 rfl Tryz.underlying114 rfl rfl) ?_
        refine wl_f (f_move rfl) ?_
        refine wl_e (e_call1 ri [_, _, _, _] rfl Tryz.func113 (by kernel_rfl) (pk1 0 rfl) (fun w hh hs' => ipushBack_spec s1.2.2.1 n s1.2.2.2 (x : Int) ri w hn2 hri hs')) ?_
        rintro _ _ w17 ⟨_, rfl, ⟨h, _⟩ | ⟨_, y, r2, hy, rfl, rfl, hr2⟩⟩
        · exfalso
          rw [List.append_nil] at h
          omega
        rw [List.append_nil] at hy
        obtain ⟨hI2, hfl2⟩ := hfin y hy
        have hpl := hI.len
        have hlt2 := range_lt hI.nid hI.rng (id := (x : Int)) (by omega) hid
        simp only [ids, List.length_map] at hlt2
        refine wl_f (f_move rfl) ?_
        refine wl_f (f_extract rfl rfl) ?_
        refine wl_f (f_extract rfl rfl) ?_
        refine wl_f (f_assign rfl) ?_
        refine wl_f (f_assign rfl) ?_
        refine wl_end [(0, _), (1, _), (9, _), (13, _), (14, _)] ⟨rfl, rfl, rfl, rfl, rfl, trivial⟩ ?_
        refine w_seq ?_
        refine w_seq ?_
        refine w_reg ?_
        refine wl_f (f_move rfl) ?_
        refine wl_f (f_neq rfl rfl) ?_
        refine wl_end [(0, _), (1, _), (9, _), (13, _), (14, _), (103, _)] ⟨rfl, rfl, rfl, rfl, rfl, rfl, trivial⟩ ?_
        refine w_ifb rfl (fun h => absurd h (by simp)) (fun _ => ?_)
        refine w_skip ?_
        refine w_seq ?_
        refine w_with fun hh => ?_
        obtain ⟨g, cp, rfl⟩ := row_form hh (i := 3) rfl (by omega)
        clear hh
        refine w_reg ?_
        refine wl_f (f_move rfl) ?_
        refine wl_f (f_nilCheck rfl) ?_
        refine wl_f (f_fieldAddr 3 rfl Tryz.underlying119 rfl rfl (by kernel_rfl)) ?_
        (first | refine wl_f (f_loadb 0 rfl Tryz.underlying117 rfl rfl rfl) ?_ | refine wl_f (f_loadb 1 rfl Tryz.underlying117 rfl rfl rfl) ?_ | refine wl_f (f_loadb 2 rfl Tryz.underlying117 rfl rfl rfl) ?_ | refine wl_f (f_loadb 3 rfl Tryz.underlying117 rfl rfl rfl) ?_ | refine wl_f (f_loadb 4 rfl Tryz.underlying117 rfl rfl rfl) ?_ | refine wl_f (f_loadb 5 rfl Tryz.underlying117 rfl rfl rfl) ?_ | refine wl_f (f_loadb 6 rfl Tryz.underlying117 rfl rfl rfl) ?_)
        refine wl_f (f_move rfl) ?_
        refine wl_f (f_move rfl) ?_
        refine wl_f (f_move rfl) ?_
        refine wl_f (f_build rfl (fun w => build_place _ _ w)) ?_
        refine wl_f (f_indexAddr 3 (i := x) rfl rfl Tryz.underlying117 (by kernel_rfl) rfl hx) ?_
        refine wl_e0 (e_storerN 3 (us := pcell (some (s1.1, y))) (xs' := pcells (pl.set x (some (s1.1, y)))) rfl rfl rfl rfl (by kernel_rfl) (by simp [pcell, Value.oneCell']) (by rw [pcells_len]; show 0 + x * 3 + 3 ≤ _; omega) (pcells_set _ (by omega))) ?_
        rintro _ _ w19_9 rfl
        refine wl_end [(0, _)] ⟨rfl, trivial⟩ ?_
        refine w_seq ?_
        refine w_reg ?_
        refine wl_f (f_move rfl) ?_
        refine wl_f (f_nilCheck rfl) ?_
        refine wl_f (f_fieldAddr 1 rfl Tryz.underlying119 rfl rfl (by kernel_rfl)) ?_
        (first | refine wl_f (f_loadb 0 rfl Tryz.underlying3 rfl rfl rfl) ?_ | refine wl_f (f_loadb 1 rfl Tryz.underlying3 rfl rfl rfl) ?_ | refine wl_f (f_loadb 2 rfl Tryz.underlying3 rfl rfl rfl) ?_ | refine wl_f (f_loadb 3 rfl Tryz.underlying3 rfl rfl rfl) ?_ | refine wl_f (f_loadb 4 rfl Tryz.underlying3 rfl rfl rfl) ?_ | refine wl_f (f_loadb 5 rfl Tryz.underlying3 rfl rfl rfl) ?_ | refine wl_f (f_loadb 6 rfl Tryz.underlying3 rfl rfl rfl) ?_)
        refine wl_f (f_add rfl rfl (by omega)) ?_
        refine wl_f (f_nilCheck rfl) ?_
        refine wl_f (f_fieldAddr 1 rfl Tryz.underlying119 rfl rfl (by kernel_rfl)) ?_
        (first | refine wl_e0 (e_store0 (us := [_]) rfl rfl rfl (by kernel_rfl) (by simp [Value.oneCell']) rfl rfl) ?_ | refine wl_e0 (e_store1 (us := [_]) rfl rfl rfl (by kernel_rfl) (by simp [Value.oneCell']) rfl rfl) ?_ | refine wl_e0 (e_store2 (us := [_]) rfl rfl rfl (by kernel_rfl) (by simp [Value.oneCell']) rfl rfl) ?_ | refine wl_e0 (e_store3 (us := [_]) rfl rfl rfl (by kernel_rfl) (by simp [Value.oneCell']) rfl rfl) ?_)
        rintro _ _ w20_7 rfl
        refine wl_end [] trivial ?_
        refine w_seq ?_
        refine w_reg ?_
        refine wl_f (f_assign rfl) ?_
        refine wl_end [(8, _)] ⟨rfl, trivial⟩ ?_
        refine w_amid ?_
        refine w_pick [1, 1, 1, 0] rfl ?_
        refine w_bun (H := []) [_, _, _, _] ?_
        refine w_ret ?_
        refine ⟨_, _, fun a ha hh => results_tmps Tryz.results95 rfl a ha _, List.Sublist.refl _, ?_⟩
        refine ⟨rfl, _, rfl, A1 ++ bpush s1 y x :: C1, hfl2.symm, hn1, hn2, B, .slice (some ⟨g, 0, .none⟩) n cp, _, rB1, ra ++ r2 :: rc, ?_, ?_, hra.join ⟨hr2, hrc⟩, hI2⟩
        · rw [rks, hfl2, ins_len, rkg]
          rfl
        · rw [bks_app, bks_cons] at hrB1
          rw [bks_app, bks_cons]
          exact hrB1
end Go.Proofs.YtmagdjlcckgkpaaGreat

/- Orders by count: take. -/
namespace Go.Proofs.YtmagdjlcckgkpaaGreat
open Go.RowKit

theorem build_place0 (w : World) : (Instr.build 158 #[]).run Tryz.prog w = .ok (.agg [.bool false, .int .i64 0, .int .i64 0].toArray) w := by kernel_rfl
theorem rem_len {l : Ord} {id : Int} (h : id ∈ ids l) : (rem l id).length + 1 = l.length := by
  induction l with
  | nil => simp [ids] at h
  | cons p l ih =>
    rw [rem]
    split
    · simp
    · rename_i hp
      simp only [ids, List.map_cons, List.mem_cons] at h
      have := ih (by rcases h with rfl | h; exact absurd rfl hp; exact h)
      rw [List.length_cons, List.length_cons]; omega

set_option maxHeartbeats 8000000 in
theorem rktake_spec (b n : Nat) (A : List Bk) (s : Bk) (C : List Bk) (I J : List (Nat × Int)) (y x : Nat) (r : Res) (w : World) (hsI : s.2.2.2 = I ++ (y, (x : Int)) :: J) (hr : RkR b n (A ++ s :: C) r) (hs : Holds w r.foot [r] w) :
    Spec Tryz.prog 94 [.pointer (some ⟨b, 0, .none⟩), .int .i64 (x : Int)] w r.foot fun v H => v = .tuple #[.int .u64 (s.2.1 : Int), .int .i64 (hdE (-1) (nodes (bks A)).reverse)] ∧
      ∃ C' r', H = [r'] ∧ RkR b n (A ++ C') r' ∧ flat (A ++ C') = rem (flat (A ++ s :: C)) (x : Int) := by
  obtain ⟨hn1, hn2, B, pV, pl, rB, rs, rfl, hrB, hrs, hI⟩ := id hr
  have hpl := hI.len
  have hxi : (x : Int) ∈ ids (flat (A ++ s :: C)) := ids_flat.2 ⟨s, by simp, y, by rw [hsI]; simp⟩
  have hx := hI.rng _ hxi
  replace hx : x < n := by omega
  have hat : pl[x]? = some (some (s.1, y)) := by
    have := hI.at_ s (by simp) (y, (x : Int)) (by rw [hsI]; simp)
    simpa using this
  obtain ⟨ra, rb, rfl, hra, hrb⟩ := hrs.split
  obtain ⟨ri, rc, rfl, hri, hrc⟩ := hrb.cons_inv
  have hrl := rem_len hxi
  obtain ⟨hrem, _⟩ := rem_take hI hsI
  have hln : (flat (A ++ s :: C)).length ≤ n := by
    have := range_len hI.nid hI.rng
    simpa [ids] using this
  have hrB2 : ChR kBuc B n (bks A ++ (s.1, s.2.1, some s.2.2.1) :: bks C) rB := by rw [bks_app, bks_cons] at hrB; exact hrB
  refine enter (n := 59) Tryz.func94 rfl rfl [(0, _), (1, _)] rfl ⟨rfl, rfl, trivial⟩ hs ?_
  refine w_with fun hh => ?_
  obtain ⟨g, cp, rfl⟩ := rowB_form hh (i := 0) (j := 1) rfl rfl (by omega)
  clear hh
  refine w_seq ?_
  refine w_reg ?_
  refine wl_f (f_assign rfl) ?_
  refine wl_f (f_assign rfl) ?_
  refine wl_end [(0, _), (1, _)] ⟨rfl, rfl, trivial⟩ ?_
  refine w_seq ?_
  refine w_reg ?_
  refine wl_f (f_move rfl) ?_
  refine wl_f (f_nilCheck rfl) ?_
  refine wl_f (f_fieldAddr 3 rfl Tryz.underlying119 rfl rfl (by kernel_rfl)) ?_
  refine wl_f (f_loadB 0 0 rfl rfl rfl Tryz.underlying117 rfl rfl) ?_
  refine wl_f (f_move rfl) ?_
  refine wl_f (f_indexAddr 3 (i := x) rfl rfl Tryz.underlying117 (by kernel_rfl) rfl hx) ?_
  refine wl_f (f_loadsBr (cs := pcell (some (s.1, y))) 0 1 rfl rfl rfl Tryz.underlying158 rfl (by kernel_rfl) (pcells_get hat)) ?_
  refine wl_e (e_allocs [.bool false, .int .i64 0, .int .i64 0] (by kernel_rfl)) ?_
  rintro _ _ w1_7 ⟨b1_7, rfl, rfl⟩
  (first | refine wl_e0 (e_store0 (us := [_, _, _]) rfl rfl rfl (by kernel_rfl) (by simp [Value.oneCell']) rfl rfl) ?_ | refine wl_e0 (e_store1 (us := [_, _, _]) rfl rfl rfl (by kernel_rfl) (by simp [Value.oneCell']) rfl rfl) ?_ | refine wl_e0 (e_store2 (us := [_, _, _]) rfl rfl rfl (by kernel_rfl) (by simp [Value.oneCell']) rfl rfl) ?_ | refine wl_e0 (e_store3 (us := [_, _, _]) rfl rfl rfl (by kernel_rfl) (by simp [Value.oneCell']) rfl rfl) ?_)
  rintro _ _ w1_8 rfl
  refine wl_end [(0, _), (1, _), (6, _)] ⟨rfl, rfl, rfl, trivial⟩ ?_
  refine w_seq ?_
  refine w_reg ?_
  refine wl_f (f_move rfl) ?_
  refine wl_f (f_fieldAddr 1 rfl Tryz.underlying158 rfl rfl (by kernel_rfl)) ?_
  (first | refine wl_f (f_loadb 0 rfl Tryz.underlying3 rfl rfl rfl) ?_ | refine wl_f (f_loadb 1 rfl Tryz.underlying3 rfl rfl rfl) ?_ | refine wl_f (f_loadb 2 rfl Tryz.underlying3 rfl rfl rfl) ?_ | refine wl_f (f_loadb 3 rfl Tryz.underlying3 rfl rfl rfl) ?_ | refine wl_f (f_loadb 4 rfl Tryz.underlying3 rfl rfl rfl) ?_ | refine wl_f (f_loadb 5 rfl Tryz.underlying3 rfl rfl rfl) ?_ | refine wl_f (f_loadb 6 rfl Tryz.underlying3 rfl rfl rfl) ?_)
  refine wl_e (e_call1 (bun (rkg b n _ B _ pl rB (ra ++ ri :: rc))) [_] rfl Tryz.func93 (by kernel_rfl) (pk1 1 rfl) (fun w hh hs' => rkofg_spec b n _ A s C B _ pl rB _ w hrB hs')) ?_
  rintro _ _ w2 ⟨_, rfl, rfl, rfl⟩
  refine wl_e (e_allocs [.int .u64 0, .pointer .none] (by kernel_rfl)) ?_
  rintro _ _ w2_4 ⟨b2_4, rfl, rfl⟩
  (first | refine wl_e0 (e_store0 (us := [_, _]) rfl rfl rfl (by kernel_rfl) (by simp [Value.oneCell']) rfl rfl) ?_ | refine wl_e0 (e_store1 (us := [_, _]) rfl rfl rfl (by kernel_rfl) (by simp [Value.oneCell']) rfl rfl) ?_ | refine wl_e0 (e_store2 (us := [_, _]) rfl rfl rfl (by kernel_rfl) (by simp [Value.oneCell']) rfl rfl) ?_ | refine wl_e0 (e_store3 (us := [_, _]) rfl rfl rfl (by kernel_rfl) (by simp [Value.oneCell']) rfl rfl) ?_)
  rintro _ _ w2_5 rfl
  refine wl_end [(0, _), (1, _), (6, _), (7, _)] ⟨rfl, rfl, rfl, rfl, trivial⟩ ?_
  refine w_seq ?_
  refine w_pick [1, 0, 0] rfl ?_
  refine w_unb (rkg b n _ B _ pl rB (ra ++ ri :: rc)) ?_
  refine w_pick [0, 0, 1, 1, 1, 0] rfl ?_
  refine w_draw [(0, true), (1, true), (2, true), (3, true), (4, true), (5, true), (6, false), (7, true)] ([_, _, _, _, _]) ([_]) mixed (by kernel_rfl) (by kernel_rfl) rfl (List.Perm.refl _) (fun w3_ => ?_)
  refine wd_f rfl (f_move rfl) ?_
  refine wd_f rfl (f_nilCheck rfl) ?_
  refine wd_f rfl (f_fieldAddr 2 rfl Tryz.underlying119 rfl rfl (by kernel_rfl)) ?_
  (first | refine wd_f rfl (f_loadb 0 rfl Tryz.underlying111 rfl rfl rfl) ?_ | refine wd_f rfl (f_loadb 1 rfl Tryz.underlying111 rfl rfl rfl) ?_ | refine wd_f rfl (f_loadb 2 rfl Tryz.underlying111 rfl rfl rfl) ?_ | refine wd_f rfl (f_loadb 3 rfl Tryz.underlying111 rfl rfl rfl) ?_ | refine wd_f rfl (f_loadb 4 rfl Tryz.underlying111 rfl rfl rfl) ?_ | refine wd_f rfl (f_loadb 5 rfl Tryz.underlying111 rfl rfl rfl) ?_ | refine wd_f rfl (f_loadb 6 rfl Tryz.underlying111 rfl rfl rfl) ?_)
  refine wd_f rfl (f_fieldAddr 1 rfl Tryz.underlying158 rfl rfl (by kernel_rfl)) ?_
  (first | refine wd_f rfl (f_loadb 0 rfl Tryz.underlying3 rfl rfl rfl) ?_ | refine wd_f rfl (f_loadb 1 rfl Tryz.underlying3 rfl rfl rfl) ?_ | refine wd_f rfl (f_loadb 2 rfl Tryz.underlying3 rfl rfl rfl) ?_ | refine wd_f rfl (f_loadb 3 rfl Tryz.underlying3 rfl rfl rfl) ?_ | refine wd_f rfl (f_loadb 4 rfl Tryz.underlying3 rfl rfl rfl) ?_ | refine wd_f rfl (f_loadb 5 rfl Tryz.underlying3 rfl rfl rfl) ?_ | refine wd_f rfl (f_loadb 6 rfl Tryz.underlying3 rfl rfl rfl) ?_)
  refine wd_e rfl (e_call1 rB [_, _, _, _, _] rfl Tryz.func104 (by kernel_rfl) (pk1 5 rfl) (fun w hh hs' => bprev_spec B n _ rB s.1 w hrB2 hs')) ?_
  rintro _ _ w3 ⟨_, rfl, rfl, z, rfl, _, hz⟩
  obtain rfl := hz (bks A) s.1 _ (bks C) rfl rfl
  refine ⟨_, List.perm_append_comm, ?_⟩
  refine wd_f rfl (f_assign rfl) ?_
  refine wd_end [(0, _), (1, _), (5, _), (6, _), (7, _)] ⟨rfl, rfl, rfl, rfl, rfl, trivial⟩ ?_
  refine w_seq ?_
  refine w_pick [2, 0, 0, 0, 0, 0] rfl ?_
  refine w_mid ?_
  refine w_reg ?_
  refine wl_f (f_fieldAddr 1 rfl Tryz.underlying116 rfl rfl (by kernel_rfl)) ?_
  (first | refine wl_f (f_loadb 0 rfl Tryz.underlying114 rfl rfl rfl) ?_ | refine wl_f (f_loadb 1 rfl Tryz.underlying114 rfl rfl rfl) ?_ | refine wl_f (f_loadb 2 rfl Tryz.underlying114 rfl rfl rfl) ?_ | refine wl_f (f_loadb 3 rfl Tryz.underlying114 rfl rfl rfl) ?_ | refine wl_f (f_loadb 4 rfl Tryz.underlying114 rfl rfl rfl) ?_ | refine wl_f (f_loadb 5 rfl Tryz.underlying114 rfl rfl rfl) ?_ | refine wl_f (f_loadb 6 rfl Tryz.underlying114 rfl rfl rfl) ?_)
  refine wl_f (f_fieldAddr 2 rfl Tryz.underlying158 rfl rfl (by kernel_rfl)) ?_
  (first | refine wl_f (f_loadb 0 rfl Tryz.underlying3 rfl rfl rfl) ?_ | refine wl_f (f_loadb 1 rfl Tryz.underlying3 rfl rfl rfl) ?_ | refine wl_f (f_loadb 2 rfl Tryz.underlying3 rfl rfl rfl) ?_ | refine wl_f (f_loadb 3 rfl Tryz.underlying3 rfl rfl rfl) ?_ | refine wl_f (f_loadb 4 rfl Tryz.underlying3 rfl rfl rfl) ?_ | refine wl_f (f_loadb 5 rfl Tryz.underlying3 rfl rfl rfl) ?_ | refine wl_f (f_loadb 6 rfl Tryz.underlying3 rfl rfl rfl) ?_)
  refine wl_e (e_call1 ri [_, _, _, _, _, _] rfl Tryz.func105 (by kernel_rfl) (pk1 0 rfl) (fun w hh hs' => iRemove_spec s.2.2.1 n (I ++ (y, (x : Int)) :: J) y ri w hn2 (hsI ▸ hri) hs')) ?_
  rintro _ _ w4 ⟨_, rfl, hG⟩
  obtain ⟨ri2, rfl, rfl, hri2⟩ := RemG.ok hG (ChR.nd (hsI ▸ hri))
  refine wl_end [(0, _), (1, _), (5, _), (6, _), (7, _)] ⟨rfl, rfl, rfl, rfl, rfl, trivial⟩ ?_
  refine w_seq ?_
  refine w_seq ?_
  refine w_reg ?_
  refine wl_f (f_fieldAddr 1 rfl Tryz.underlying116 rfl rfl (by kernel_rfl)) ?_
  (first | refine wl_f (f_loadb 0 rfl Tryz.underlying114 rfl rfl rfl) ?_ | refine wl_f (f_loadb 1 rfl Tryz.underlying114 rfl rfl rfl) ?_ | refine wl_f (f_loadb 2 rfl Tryz.underlying114 rfl rfl rfl) ?_ | refine wl_f (f_loadb 3 rfl Tryz.underlying114 rfl rfl rfl) ?_ | refine wl_f (f_loadb 4 rfl Tryz.underlying114 rfl rfl rfl) ?_ | refine wl_f (f_loadb 5 rfl Tryz.underlying114 rfl rfl rfl) ?_ | refine wl_f (f_loadb 6 rfl Tryz.underlying114 rfl rfl rfl) ?_)
  refine wl_e (e_call1 ri2 [_, _, _, _, _, _] rfl Tryz.func106 (by kernel_rfl) (pk1 0 rfl) (fun w hh hs' => ilen_spec s.2.2.1 n (I ++ J) ri2 w hri2 hs')) ?_
  rintro _ _ w5 ⟨_, rfl, rfl, rfl⟩
  refine wl_f (f_eql rfl rfl) ?_
  refine wl_end [(0, _), (1, _), (5, _), (6, _), (7, _), (34, _)] ⟨rfl, rfl, rfl, rfl, rfl, rfl, trivial⟩ ?_
  refine w_post (fun m H w' => ∃ (C' : List Bk) (rs2 : List Res) (rB2 : Res), m = [(0, .pointer (some ⟨b, 0, .none⟩)), (1, .int .i64 x), (5, .int .i64 (hdE (-1) (nodes (bks A)).reverse)), (7, .pointer (some ⟨b2_4, 0, .none⟩))] ∧
    H = [blk b [.int .i64 (n : Int), .int .i64 ((flat (A ++ s :: C)).length : Int), .pointer (some ⟨B, 0, .none⟩), .slice (some ⟨g, 0, .none⟩) n cp] 119, row (.slice (some ⟨g, 0, .none⟩) n cp) 158 3 n (pcells pl), bun rs2, rB2,
      blk b2_4 [.int .u64 (s.2.1 : Int), .pointer (some ⟨s.2.2.1, 0, .none⟩)] 116] ∧
    ChR kBuc B n (bks (A ++ C')) rB2 ∧ IdsR n (A ++ C') rs2 ∧ RInv n (A ++ C') (pl.set x none) ∧ flat (A ++ C') = rem (flat (A ++ s :: C)) (x : Int)) ?_ ?_
  · skip
    refine w_ifd rfl (fun hc1 => ?_) (fun hc1 => ?_)
    · skip
      have hIJ : I ++ J = [] := by
        have : ((I ++ J).length : Int) = 0 := hc1
        exact List.length_eq_zero_iff.1 (by omega)
      obtain ⟨rfl, rfl⟩ := List.append_eq_nil_iff.1 hIJ
      refine w_draw [(0, true), (1, true), (2, true), (3, true), (4, true), (5, true), (6, false)] ([_, _, _, _, _, _]) ([_]) mixed (by kernel_rfl) (by kernel_rfl) rfl (List.Perm.refl _) (fun w6_ => ?_)
      refine wd_f rfl (f_move rfl) ?_
      refine wd_f rfl (f_nilCheck rfl) ?_
      refine wd_f rfl (f_fieldAddr 2 rfl Tryz.underlying119 rfl rfl (by kernel_rfl)) ?_
      (first | refine wd_f rfl (f_loadb 0 rfl Tryz.underlying111 rfl rfl rfl) ?_ | refine wd_f rfl (f_loadb 1 rfl Tryz.underlying111 rfl rfl rfl) ?_ | refine wd_f rfl (f_loadb 2 rfl Tryz.underlying111 rfl rfl rfl) ?_ | refine wd_f rfl (f_loadb 3 rfl Tryz.underlying111 rfl rfl rfl) ?_ | refine wd_f rfl (f_loadb 4 rfl Tryz.underlying111 rfl rfl rfl) ?_ | refine wd_f rfl (f_loadb 5 rfl Tryz.underlying111 rfl rfl rfl) ?_ | refine wd_f rfl (f_loadb 6 rfl Tryz.underlying111 rfl rfl rfl) ?_)
      refine wd_f rfl (f_fieldAddr 1 rfl Tryz.underlying158 rfl rfl (by kernel_rfl)) ?_
      (first | refine wd_f rfl (f_loadb 0 rfl Tryz.underlying3 rfl rfl rfl) ?_ | refine wd_f rfl (f_loadb 1 rfl Tryz.underlying3 rfl rfl rfl) ?_ | refine wd_f rfl (f_loadb 2 rfl Tryz.underlying3 rfl rfl rfl) ?_ | refine wd_f rfl (f_loadb 3 rfl Tryz.underlying3 rfl rfl rfl) ?_ | refine wd_f rfl (f_loadb 4 rfl Tryz.underlying3 rfl rfl rfl) ?_ | refine wd_f rfl (f_loadb 5 rfl Tryz.underlying3 rfl rfl rfl) ?_ | refine wd_f rfl (f_loadb 6 rfl Tryz.underlying3 rfl rfl rfl) ?_)
      refine wd_e rfl (e_call1 rB [_, _, _, _, _, _] rfl Tryz.func107 (by kernel_rfl) (pk1 6 rfl) (fun w hh hs' => bRemove_spec B n _ s.1 rB w hn2 hrB2 hs')) ?_
      rintro _ _ w6 ⟨_, rfl, hG2⟩
      obtain ⟨rB3, rfl, rfl, hrB3⟩ := RemG.ok hG2 hrB2.nd
      refine ⟨_, List.perm_append_comm, ?_⟩
      refine wd_endp [(0, _), (1, _), (5, _), (7, _)] [2, 2, 1, 3, 1] ⟨rfl, rfl, rfl, rfl, trivial⟩ rfl ?_
      exact ⟨C, ra ++ rc, rB3, rfl, rfl, by rw [bks_app]; exact hrB3, hra.join hrc, hI.gone hsI, by rw [hrem, flat_gone]⟩
    · skip
      have hIJ : I ++ J ≠ [] := fun h => hc1 (by rw [h]; rfl)
      refine w_amid ?_
      refine w_pick [1, 1, 0, 2, 0] rfl ?_
      refine w_sub [(0, _), (1, _), (5, _), (7, _)] ⟨rfl, rfl, rfl, rfl, trivial⟩ (w_skip ?_)
      exact ⟨btake s I J :: C, ra ++ ri2 :: rc, rB, rfl, rfl, by rw [bks_app, bks_cons]; exact hrB2, hra.join ⟨hri2, hrc⟩, hI.take hsI hIJ, hrem.symm⟩
  · rintro _ _ w7 ⟨C', rs2, rB3, rfl, rfl, hrB3, hrs2, hI3, hfl3⟩
    refine w_seq ?_
    refine w_reg ?_
    refine wl_f (f_move rfl) ?_
    refine wl_f (f_nilCheck rfl) ?_
    refine wl_f (f_fieldAddr 3 rfl Tryz.underlying119 rfl rfl (by kernel_rfl)) ?_
    (first | refine wl_f (f_loadb 0 rfl Tryz.underlying117 rfl rfl rfl) ?_ | refine wl_f (f_loadb 1 rfl Tryz.underlying117 rfl rfl rfl) ?_ | refine wl_f (f_loadb 2 rfl Tryz.underlying117 rfl rfl rfl) ?_ | refine wl_f (f_loadb 3 rfl Tryz.underlying117 rfl rfl rfl) ?_ | refine wl_f (f_loadb 4 rfl Tryz.underlying117 rfl rfl rfl) ?_ | refine wl_f (f_loadb 5 rfl Tryz.underlying117 rfl rfl rfl) ?_ | refine wl_f (f_loadb 6 rfl Tryz.underlying117 rfl rfl rfl) ?_)
    refine wl_f (f_move rfl) ?_
    refine wl_f (f_build rfl build_place0) ?_
    refine wl_f (f_indexAddr 3 (i := x) rfl rfl Tryz.underlying117 (by kernel_rfl) rfl hx) ?_
    refine wl_e0 (e_storerN 1 (us := pcell none) (xs' := pcells (pl.set x none)) rfl rfl rfl rfl (by kernel_rfl) (by simp [pcell, Value.oneCell']) (by rw [pcells_len]; show 0 + x * 3 + 3 ≤ _; omega) (pcells_set _ (by omega))) ?_
    rintro _ _ w7_7 rfl
    refine wl_end [(0, _), (5, _), (7, _)] ⟨rfl, rfl, rfl, trivial⟩ ?_
    refine w_seq ?_
    refine w_reg ?_
    refine wl_f (f_move rfl) ?_
    refine wl_f (f_nilCheck rfl) ?_
    refine wl_f (f_fieldAddr 1 rfl Tryz.underlying119 rfl rfl (by kernel_rfl)) ?_
    (first | refine wl_f (f_loadb 0 rfl Tryz.underlying3 rfl rfl rfl) ?_ | refine wl_f (f_loadb 1 rfl Tryz.underlying3 rfl rfl rfl) ?_ | refine wl_f (f_loadb 2 rfl Tryz.underlying3 rfl rfl rfl) ?_ | refine wl_f (f_loadb 3 rfl Tryz.underlying3 rfl rfl rfl) ?_ | refine wl_f (f_loadb 4 rfl Tryz.underlying3 rfl rfl rfl) ?_ | refine wl_f (f_loadb 5 rfl Tryz.underlying3 rfl rfl rfl) ?_ | refine wl_f (f_loadb 6 rfl Tryz.underlying3 rfl rfl rfl) ?_)
    refine wl_f (f_sub rfl rfl (by omega)) ?_
    refine wl_f (f_nilCheck rfl) ?_
    refine wl_f (f_fieldAddr 1 rfl Tryz.underlying119 rfl rfl (by kernel_rfl)) ?_
    (first | refine wl_e0 (e_store0 (us := [_]) rfl rfl rfl (by kernel_rfl) (by simp [Value.oneCell']) rfl rfl) ?_ | refine wl_e0 (e_store1 (us := [_]) rfl rfl rfl (by kernel_rfl) (by simp [Value.oneCell']) rfl rfl) ?_ | refine wl_e0 (e_store2 (us := [_]) rfl rfl rfl (by kernel_rfl) (by simp [Value.oneCell']) rfl rfl) ?_ | refine wl_e0 (e_store3 (us := [_]) rfl rfl rfl (by kernel_rfl) (by simp [Value.oneCell']) rfl rfl) ?_)
    rintro _ _ w8_7 rfl
    refine wl_end [(5, _), (7, _)] ⟨rfl, rfl, trivial⟩ ?_
    refine w_seq ?_
    refine w_reg ?_
    refine wl_f (f_fieldAddr 0 rfl Tryz.underlying116 rfl rfl (by kernel_rfl)) ?_
    (first | refine wl_f (f_loadb 0 rfl Tryz.underlying33 rfl rfl rfl) ?_ | refine wl_f (f_loadb 1 rfl Tryz.underlying33 rfl rfl rfl) ?_ | refine wl_f (f_loadb 2 rfl Tryz.underlying33 rfl rfl rfl) ?_ | refine wl_f (f_loadb 3 rfl Tryz.underlying33 rfl rfl rfl) ?_ | refine wl_f (f_loadb 4 rfl Tryz.underlying33 rfl rfl rfl) ?_ | refine wl_f (f_loadb 5 rfl Tryz.underlying33 rfl rfl rfl) ?_ | refine wl_f (f_loadb 6 rfl Tryz.underlying33 rfl rfl rfl) ?_)
    refine wl_f (f_move rfl) ?_
    refine wl_f (f_assign rfl) ?_
    refine wl_f (f_assign rfl) ?_
    refine wl_end [(4, _), (5, _)] ⟨rfl, rfl, trivial⟩ ?_
    refine w_pick [0, 0, 1, 0] rfl ?_
    refine w_bun (H := []) [_, _, _, _] ?_
    refine w_ret ?_
    refine ⟨_, _, fun a ha hh => results_tmps Tryz.results94 rfl a ha _, List.Sublist.refl _, ?_⟩
    refine ⟨rfl, C', _, rfl, ⟨hn1, hn2, B, .slice (some ⟨g, 0, .none⟩) n cp, _, rB3, rs2, ?_, hrB3, hrs2, hI3⟩, hfl3⟩
    rw [rks, hfl3, rkg, show (((rem (flat (A ++ s :: C)) (x : Int)).length : Nat) : Int) = ((flat (A ++ s :: C)).length : Int) - 1 by omega]
    rfl
end Go.Proofs.YtmagdjlcckgkpaaGreat

/- Sums of weights. -/
namespace Go.Proofs.YtmagdjlcckgkpaaGreat
open Go.RowKit

def addE : Array Value → Sem Value := fun args => do
  let (x, y, c) ← Extern.MathBitsCarry.three "Add64" args
  pure (Extern.MathBitsCarry.pair ((x + y + c) % Extern.MathBitsCarry.m64) ((x + y + c) / Extern.MathBitsCarry.m64))
theorem run_add64 {P : Program} (a b : Nat) (w : World) : (addE #[.int .u64 (a : Int), .int .u64 (b : Int), .int .u64 0]).run P w = .ok (.tuple #[.int .u64 (((a + b) % 18446744073709551616 : Nat) : Int), .int .u64 (((a + b) / 18446744073709551616 : Nat) : Int)]) w := by
  rfl
theorem satadd_spec (a b : Nat) (w : World) (ha : a < 18446744073709551616) (hb : b < 18446744073709551616) : Spec Tryz.prog 36 [.int .u64 (a : Int), .int .u64 (b : Int)] w Nil fun r H =>
    r = .tuple #[.int .u64 (if a + b < 18446744073709551616 then ((a + b : Nat) : Int) else 18446744073709551615), .bool (decide (a + b < 18446744073709551616))] ∧ H = [] := by
  refine enter (n := 17) Tryz.func36 rfl rfl [(0, _), (1, _)] rfl ⟨rfl, rfl, trivial⟩ (Holds.start _ _) ?_
  refine w_seq ?_
  refine w_reg ?_
  refine wl_f (f_assign rfl) ?_
  refine wl_f (f_assign rfl) ?_
  refine wl_end [(0, _), (1, _)] ⟨rfl, rfl, trivial⟩ ?_
  refine w_seq ?_
  refine w_reg ?_
  refine wl_f (f_move rfl) ?_
  refine wl_f (f_move rfl) ?_
  refine wl_f (f_extern (e := addE) rfl Tryz.func50 (by kernel_rfl) rfl (by kernel_rfl) (by kernel_rfl) (fun w => run_add64 a b w)) ?_
  skip
  refine wl_f (f_move rfl) ?_
  refine wl_f (f_extract rfl rfl) ?_
  refine wl_f (f_extract rfl rfl) ?_
  refine wl_f (f_assign rfl) ?_
  refine wl_f (f_assign rfl) ?_
  refine wl_end [(6, _), (7, _)] ⟨rfl, rfl, trivial⟩ ?_
  refine w_seq ?_
  refine w_seq ?_
  refine w_reg ?_
  refine wl_f (f_move rfl) ?_
  refine wl_f (f_neq rfl rfl) ?_
  refine wl_end [(6, _), (15, _)] ⟨rfl, rfl, trivial⟩ ?_
  refine w_ifd rfl (fun hc1 => ?_) (fun hc1 => ?_)
  · skip
    have hov : ¬ a + b < 18446744073709551616 := fun h => hc1 (by rw [Nat.div_eq_of_lt h]; rfl)
    refine w_seq ?_
    refine w_reg ?_
    refine wl_f (f_assign rfl) ?_
    refine wl_f (f_assign rfl) ?_
    refine wl_end [(4, _), (5, _)] ⟨rfl, rfl, trivial⟩ ?_
    refine w_ret ?_
    refine ⟨_, _, fun a ha hh => results_tmps Tryz.results36 rfl a ha _, List.Sublist.refl _, ?_⟩
    exact ⟨by rw [if_neg hov, decide_eq_false hov]; rfl, rfl⟩
  · skip
    have hov : a + b < 18446744073709551616 := by
      refine Classical.byContradiction fun h => hc1 fun e => ?_
      have h2 : (a + b) / 18446744073709551616 = 0 := by exact_mod_cast e
      omega
    refine w_skip ?_
    refine w_seq ?_
    refine w_reg ?_
    refine wl_f (f_move rfl) ?_
    refine wl_f (f_assign rfl) ?_
    refine wl_f (f_assign rfl) ?_
    refine wl_end [(4, _), (5, _)] ⟨rfl, rfl, trivial⟩ ?_
    refine w_ret ?_
    refine ⟨_, _, fun a ha hh => results_tmps Tryz.results36 rfl a ha _, List.Sublist.refl _, ?_⟩
    exact ⟨by rw [if_pos hov, decide_eq_true hov, Nat.mod_eq_of_lt hov]; rfl, rfl⟩
theorem satfits_spec (a b : Nat) (w : World) (ha : a < 18446744073709551616) (hb : b < 18446744073709551616) : Spec Tryz.prog 81 [.int .u64 (a : Int), .int .u64 (b : Int)] w Nil fun r H =>
    r = .bool (decide (a + b ≤ 9223372036854775808)) ∧ H = [] := by
  refine enter (n := 18) Tryz.func81 rfl rfl [(0, _), (1, _)] rfl ⟨rfl, rfl, trivial⟩ (Holds.start _ _) ?_
  refine w_seq ?_
  refine w_reg ?_
  refine wl_f (f_assign rfl) ?_
  refine wl_end [(0, _), (1, _)] ⟨rfl, rfl, trivial⟩ ?_
  refine w_seq ?_
  refine w_reg ?_
  refine wl_f (f_move rfl) ?_
  refine wl_f (f_move rfl) ?_
  refine wl_e (e_call0 rfl Tryz.func36 (by kernel_rfl) (fun w hh => satadd_spec a b w ha hb)) ?_
  rintro _ _ w1 ⟨_, rfl, rfl, rfl⟩
  refine wl_f (f_move rfl) ?_
  refine wl_f (f_extract rfl rfl) ?_
  refine wl_f (f_extract rfl rfl) ?_
  refine wl_f (f_assign rfl) ?_
  refine wl_f (f_assign rfl) ?_
  refine wl_end [(5, _), (6, _)] ⟨rfl, rfl, trivial⟩ ?_
  refine w_seq ?_
  refine w_reg ?_
  refine wl_f (f_move rfl) ?_
  refine wl_f (f_move rfl) ?_
  refine wl_and (j := 1) (c := decide ((if a + b < 18446744073709551616 then ((a + b : Nat) : Int) else 18446744073709551615) ≤ 9223372036854775808)) 2 [] trivial rfl rfl rfl rfl rfl (fun hg2_4 => ?_) (fun w2_4 => ?_)
  · skip
    refine wl_gf rfl rfl (f_move rfl) ?_
    refine wl_gf rfl rfl (f_leq rfl rfl) ?_
    exact wl_pend rfl rfl trivial (List.Sublist.refl _)
  refine wl_f (f_assign rfl) ?_
  refine wl_end [(4, _)] ⟨rfl, trivial⟩ ?_
  refine w_ret ?_
  refine ⟨_, _, fun a ha hh => results_tmps Tryz.results81 rfl a ha _, List.Sublist.refl _, ?_⟩
  refine ⟨?_, rfl⟩
  show Value.bool _ = _
  congr 1
  by_cases h : a + b < 18446744073709551616
  · rw [if_pos h, decide_eq_true h, Bool.true_and]
    by_cases h2 : a + b ≤ 9223372036854775808
    · rw [decide_eq_true h2]; exact decide_eq_true (by omega)
    · rw [decide_eq_false h2]; exact decide_eq_false (by omega)
  · rw [decide_eq_false h, Bool.false_and, decide_eq_false (by omega)]
end Go.Proofs.YtmagdjlcckgkpaaGreat

/- Orders by count: sums of weights; inserting, raising, removing, counting. -/
namespace Go.Proofs.YtmagdjlcckgkpaaGreat
open Go.RowKit


/-! ### What is done -/
def oins (n : Nat) (l : Ord) (id : Int) (c : Nat) : Int × Ord := if id < 0 ∨ (n : Int) ≤ id then (1, l) else if id ∈ ids l then (10, l) else if 9223372036854775808 < c then (12, l) else (0, ins l id c)
def orai (l : Ord) (id : Int) (k : Nat) : Int × Ord := match look l id with
  | none => (8, l)
  | some c => if c + k ≤ 9223372036854775808 then if k = 0 then (0, l) else (0, ins (rem l id) id (c + k)) else (12, l)
def orem (l : Ord) (id : Int) : Nat × Int × Ord := match look l id with
  | none => (0, 8, l)
  | some c => (c, 0, rem l id)
theorem find_bk {S : List Bk} {id : Int} (h : id ∈ ids (flat S)) : ∃ A s C I y J, S = A ++ s :: C ∧ s.2.2.2 = I ++ (y, id) :: J := by
  obtain ⟨s, hs, y, hy⟩ := ids_flat.1 h
  obtain ⟨A, C, rfl⟩ := List.append_of_mem hs
  obtain ⟨I, J, e⟩ := List.append_of_mem hy
  exact ⟨A, s, C, I, y, J, rfl, e⟩
theorem ids_ins {l : Ord} {id : Int} {c : Nat} : ∀ {z : Int}, z ∈ ids (ins l id c) ↔ z = id ∨ z ∈ ids l := by
  induction l with
  | nil => simp [ins, ids]
  | cons p l ih =>
    intro z
    rw [ins]
    split
    · simp only [ids, List.map_cons, List.mem_cons] at ih ⊢
      rw [ih]
      constructor
      · rintro (h | h | h) <;> simp [h]
      · rintro (h | h | h) <;> simp [h]
    · simp [ids]
theorem rem_notin {l : Ord} {id : Int} (h : (ids l).Nodup) : id ∉ ids (rem l id) := by
  induction l with
  | nil => simp [rem, ids]
  | cons p l ih =>
    simp only [ids, List.map_cons, List.nodup_cons] at h
    rw [rem]
    split
    · rename_i hp; rw [← hp]; exact h.1
    · rename_i hp
      simp only [ids, List.map_cons, List.mem_cons, not_or]
      exact ⟨fun e => hp e.symm, ih h.2⟩
theorem pcells_bucket {pl : List (Option (Nat × Nat))} {i x y : Nat} (h : pl[i]? = some (some (x, y))) : (pcells pl)[0 + i * 3 + 1]? = some (.int .i64 x) := by
  have h1 : (((pcells pl).drop (0 + i * 3)).take 3)[1]? = some (.int .i64 x) := by rw [pcells_get h]; rfl
  rw [List.getElem?_take, if_pos (by omega), List.getElem?_drop] at h1
  exact h1

theorem rkhas_nil (id : Int) (w : World) : Spec Tryz.prog 92 [.pointer .none, .int .i64 id] w Nil fun r H => r = .bool false ∧ H = [] := by
  refine enter (n := 29) Tryz.func92 rfl rfl [(0, _), (1, _)] rfl ⟨rfl, rfl, trivial⟩ (Holds.start _ _) ?_
  refine w_seq ?_
  refine w_reg ?_
  refine wl_f (f_assign rfl) ?_
  refine wl_end [(0, _), (1, _)] ⟨rfl, rfl, trivial⟩ ?_
  refine w_seq ?_
  refine w_reg ?_
  refine wl_f (f_move rfl) ?_
  refine wl_f (f_neqnil rfl rfl Tryz.underlying89) ?_
  refine wl_f (f_move rfl) ?_
  refine wl_gs rfl rfl ?_
  refine wl_gs rfl rfl ?_
  refine wl_f (f_pick0 rfl rfl) ?_
  refine wl_f (f_move rfl) ?_
  refine wl_gs rfl rfl ?_
  refine wl_gs rfl rfl ?_
  refine wl_gs rfl rfl ?_
  refine wl_gs rfl rfl ?_
  refine wl_gs rfl rfl ?_
  refine wl_gs rfl rfl ?_
  refine wl_f (f_pick0 rfl rfl) ?_
  refine wl_f (f_move rfl) ?_
  refine wl_gs rfl rfl ?_
  refine wl_gs rfl rfl ?_
  refine wl_gs rfl rfl ?_
  refine wl_gs rfl rfl ?_
  refine wl_gs rfl rfl ?_
  refine wl_gs rfl rfl ?_
  refine wl_gs rfl rfl ?_
  refine wl_gs rfl rfl ?_
  refine wl_f (f_pick0 rfl rfl) ?_
  refine wl_f (f_assign rfl) ?_
  refine wl_end [(4, _)] ⟨rfl, trivial⟩ ?_
  refine w_ret ?_
  refine ⟨_, _, fun a ha hh => results_tmps Tryz.results92 rfl a ha _, List.Sublist.refl _, ?_⟩
  exact ⟨rfl, rfl⟩
theorem rkinsert_nil (id : Int) (c : Int) (w : World) : Spec Tryz.prog 97 [.pointer .none, .int .i64 id, .int .u64 c] w Nil fun r H => r = .int .i64 8 ∧ H = [] := by
  refine enter (n := 32) Tryz.func97 rfl rfl [(0, _), (1, _), (2, _)] rfl ⟨rfl, rfl, rfl, trivial⟩ (Holds.start _ _) ?_
  refine w_seq ?_
  refine w_reg ?_
  refine wl_f (f_assign rfl) ?_
  refine wl_end [(0, _), (1, _), (2, _)] ⟨rfl, rfl, rfl, trivial⟩ ?_
  refine w_seq ?_
  refine w_block ?_
  refine w_seq ?_
  refine w_reg ?_
  refine wl_f (f_move rfl) ?_
  refine wl_f (f_eqlnil rfl rfl Tryz.underlying89) ?_
  refine wl_f (f_assign rfl) ?_
  refine wl_end [(0, _), (1, _), (2, _), (7, _)] ⟨rfl, rfl, rfl, rfl, trivial⟩ ?_
  refine w_ift rfl ?_
  refine w_seq ?_
  refine w_reg ?_
  refine wl_f (f_assign rfl) ?_
  refine wl_end [(6, _)] ⟨rfl, trivial⟩ ?_
  refine w_ret ?_
  refine ⟨_, _, fun a ha hh => results_tmps Tryz.results97 rfl a ha _, List.Sublist.refl _, ?_⟩
  exact ⟨rfl, rfl⟩
theorem rkraise_nil (id : Int) (c : Int) (w : World) : Spec Tryz.prog 83 [.pointer .none, .int .i64 id, .int .u64 c] w Nil fun r H => r = .int .i64 8 ∧ H = [] := by
  refine enter (n := 44) Tryz.func83 rfl rfl [(0, _), (1, _), (2, _)] rfl ⟨rfl, rfl, rfl, trivial⟩ (Holds.start _ _) ?_
  refine w_seq ?_
  refine w_reg ?_
  refine wl_f (f_assign rfl) ?_
  refine wl_end [(0, _), (1, _), (2, _)] ⟨rfl, rfl, rfl, trivial⟩ ?_
  refine w_seq ?_
  refine w_seq ?_
  refine w_reg ?_
  refine wl_f (f_move rfl) ?_
  refine wl_f (f_move rfl) ?_
  refine wl_e (e_call0 rfl Tryz.func92 (by kernel_rfl) (fun w hh => rkhas_nil id w)) ?_
  rintro _ _ w1 ⟨_, rfl, rfl, rfl⟩
  refine wl_f (f_not rfl rfl) ?_
  refine wl_end [(0, _), (1, _), (2, _), (13, _)] ⟨rfl, rfl, rfl, rfl, trivial⟩ ?_
  refine w_ift rfl ?_
  refine w_seq ?_
  refine w_reg ?_
  refine wl_f (f_assign rfl) ?_
  refine wl_end [(6, _)] ⟨rfl, trivial⟩ ?_
  refine w_ret ?_
  refine ⟨_, _, fun a ha hh => results_tmps Tryz.results83 rfl a ha _, List.Sublist.refl _, ?_⟩
  exact ⟨rfl, rfl⟩
theorem rkremove_nil (id : Int) (w : World) : Spec Tryz.prog 100 [.pointer .none, .int .i64 id] w Nil fun r H => r = .tuple #[.int .u64 0, .int .i64 8] ∧ H = [] := by
  refine enter (n := 19) Tryz.func100 rfl rfl [(0, _), (1, _)] rfl ⟨rfl, rfl, trivial⟩ (Holds.start _ _) ?_
  refine w_seq ?_
  refine w_reg ?_
  refine wl_f (f_assign rfl) ?_
  refine wl_f (f_assign rfl) ?_
  refine wl_end [(0, _), (1, _)] ⟨rfl, rfl, trivial⟩ ?_
  refine w_seq ?_
  refine w_seq ?_
  refine w_reg ?_
  refine wl_f (f_move rfl) ?_
  refine wl_f (f_move rfl) ?_
  refine wl_e (e_call0 rfl Tryz.func92 (by kernel_rfl) (fun w hh => rkhas_nil id w)) ?_
  rintro _ _ w1 ⟨_, rfl, rfl, rfl⟩
  refine wl_f (f_not rfl rfl) ?_
  refine wl_end [(0, _), (1, _), (11, _)] ⟨rfl, rfl, rfl, trivial⟩ ?_
  refine w_ift rfl ?_
  refine w_seq ?_
  refine w_reg ?_
  refine wl_f (f_assign rfl) ?_
  refine wl_f (f_assign rfl) ?_
  refine wl_end [(4, _), (5, _)] ⟨rfl, rfl, trivial⟩ ?_
  refine w_ret ?_
  refine ⟨_, _, fun a ha hh => results_tmps Tryz.results100 rfl a ha _, List.Sublist.refl _, ?_⟩
  exact ⟨rfl, rfl⟩
theorem rkcount_nil (id : Int) (w : World) : Spec Tryz.prog 88 [.pointer .none, .int .i64 id] w Nil fun r H => r = .tuple #[.int .u64 0, .bool false] ∧ H = [] := by
  refine enter (n := 21) Tryz.func88 rfl rfl [(0, _), (1, _)] rfl ⟨rfl, rfl, trivial⟩ (Holds.start _ _) ?_
  refine w_seq ?_
  refine w_reg ?_
  refine wl_f (f_assign rfl) ?_
  refine wl_f (f_assign rfl) ?_
  refine wl_end [(0, _), (1, _)] ⟨rfl, rfl, trivial⟩ ?_
  refine w_seq ?_
  refine w_seq ?_
  refine w_reg ?_
  refine wl_f (f_move rfl) ?_
  refine wl_f (f_move rfl) ?_
  refine wl_e (e_call0 rfl Tryz.func92 (by kernel_rfl) (fun w hh => rkhas_nil id w)) ?_
  rintro _ _ w1 ⟨_, rfl, rfl, rfl⟩
  refine wl_f (f_not rfl rfl) ?_
  refine wl_end [(0, _), (1, _), (9, _)] ⟨rfl, rfl, rfl, trivial⟩ ?_
  refine w_ift rfl ?_
  refine w_seq ?_
  refine w_reg ?_
  refine wl_f (f_assign rfl) ?_
  refine wl_f (f_assign rfl) ?_
  refine wl_end [(4, _), (5, _)] ⟨rfl, rfl, trivial⟩ ?_
  refine w_ret ?_
  refine ⟨_, _, fun a ha hh => results_tmps Tryz.results88 rfl a ha _, List.Sublist.refl _, ?_⟩
  exact ⟨rfl, rfl⟩
theorem rkleast_nil (w : World) : Spec Tryz.prog 96 [.pointer .none] w Nil fun r H => r = .tuple #[.int .i64 0, .int .u64 0, .bool false] ∧ H = [] := by
  refine enter (n := 34) Tryz.func96 rfl rfl [(0, _)] rfl ⟨rfl, trivial⟩ (Holds.start _ _) ?_
  refine w_seq ?_
  refine w_reg ?_
  refine wl_f (f_assign rfl) ?_
  refine wl_f (f_assign rfl) ?_
  refine wl_f (f_assign rfl) ?_
  refine wl_end [(0, _)] ⟨rfl, trivial⟩ ?_
  refine w_seq ?_
  refine w_seq ?_
  refine w_reg ?_
  refine wl_f (f_move rfl) ?_
  refine wl_f (f_eqlnil rfl rfl Tryz.underlying89) ?_
  refine wl_f (f_move rfl) ?_
  refine wl_gs rfl rfl ?_
  refine wl_gs rfl rfl ?_
  refine wl_gs rfl rfl ?_
  refine wl_gs rfl rfl ?_
  refine wl_gs rfl rfl ?_
  refine wl_f (f_pick1 rfl rfl) ?_
  refine wl_end [(0, _), (14, _)] ⟨rfl, rfl, trivial⟩ ?_
  refine w_ift rfl ?_
  refine w_seq ?_
  refine w_reg ?_
  refine wl_f (f_assign rfl) ?_
  refine wl_f (f_assign rfl) ?_
  refine wl_f (f_assign rfl) ?_
  refine wl_end [(2, _), (3, _), (4, _)] ⟨rfl, rfl, rfl, trivial⟩ ?_
  refine w_ret ?_
  refine ⟨_, _, fun a ha hh => results_tmps Tryz.results96 rfl a ha _, List.Sublist.refl _, ?_⟩
  exact ⟨rfl, rfl⟩
theorem rklen_nil (w : World) : Spec Tryz.prog 87 [.pointer .none] w Nil fun r H => r = .int .i64 0 ∧ H = [] := by
  refine enter (n := 9) Tryz.func87 rfl rfl [(0, _)] rfl ⟨rfl, trivial⟩ (Holds.start _ _) ?_
  refine w_seq ?_
  refine w_reg ?_
  refine wl_f (f_assign rfl) ?_
  refine wl_end [(0, _)] ⟨rfl, trivial⟩ ?_
  refine w_seq ?_
  refine w_seq ?_
  refine w_reg ?_
  refine wl_f (f_move rfl) ?_
  refine wl_f (f_eqlnil rfl rfl Tryz.underlying89) ?_
  refine wl_end [(0, _), (4, _)] ⟨rfl, rfl, trivial⟩ ?_
  refine w_ift rfl ?_
  refine w_seq ?_
  refine w_reg ?_
  refine wl_f (f_assign rfl) ?_
  refine wl_end [(2, _)] ⟨rfl, trivial⟩ ?_
  refine w_ret ?_
  refine ⟨_, _, fun a ha hh => results_tmps Tryz.results87 rfl a ha _, List.Sublist.refl _, ?_⟩
  exact ⟨rfl, rfl⟩

set_option maxHeartbeats 1000000 in
theorem rklen_spec (b n : Nat) (l : Ord) (r : Res) (w : World) (hr : RkO b n l r) (hs : Holds w r.foot [r] w) :
    Spec Tryz.prog 87 [.pointer (some ⟨b, 0, .none⟩)] w r.foot fun v H => v = .int .i64 (l.length : Int) ∧ H = [r] := by
  obtain ⟨S, rfl, hn1, hn2, B, pV, pl, rB, rs, rfl, hrB, hrs, hI⟩ := hr
  refine enter (n := 9) Tryz.func87 rfl rfl [(0, _)] rfl ⟨rfl, trivial⟩ hs ?_
  refine w_seq ?_
  refine w_reg ?_
  refine wl_f (f_assign rfl) ?_
  refine wl_end [(0, _)] ⟨rfl, trivial⟩ ?_
  refine w_seq ?_
  refine w_seq ?_
  refine w_reg ?_
  refine wl_f (f_move rfl) ?_
  refine wl_f (f_eqlnil rfl rfl Tryz.underlying89) ?_
  refine wl_end [(0, _), (4, _)] ⟨rfl, rfl, trivial⟩ ?_
  refine w_iff rfl ?_
  refine w_skip ?_
  refine w_seq ?_
  refine w_reg ?_
  refine wl_f (f_move rfl) ?_
  refine wl_f (f_nilCheck rfl) ?_
  refine wl_f (f_fieldAddr 1 rfl Tryz.underlying119 rfl rfl (by kernel_rfl)) ?_
  refine wl_f (f_loadB 0 0 rfl rfl rfl Tryz.underlying3 rfl rfl) ?_
  refine wl_f (f_assign rfl) ?_
  refine wl_end [(2, _)] ⟨rfl, trivial⟩ ?_
  refine w_ret ?_
  refine ⟨_, _, fun a ha hh => results_tmps Tryz.results87 rfl a ha _, List.Sublist.refl _, ?_⟩
  exact ⟨rfl, rfl⟩

set_option maxHeartbeats 1000000 in
theorem rkinsert_spec (b n : Nat) (l : Ord) (r : Res) (id : Int) (c : Nat) (w : World) (hr : RkO b n l r) (hs : Holds w r.foot [r] w) :
    Spec Tryz.prog 97 [.pointer (some ⟨b, 0, .none⟩), .int .i64 id, .int .u64 (c : Int)] w r.foot fun v H => v = .int .i64 (oins n l id c).1 ∧ ∃ r', H = [r'] ∧ RkO b n (oins n l id c).2 r' := by
  obtain ⟨S, rfl, hr⟩ := hr
  have hO : RkO b n (flat S) r := ⟨S, rfl, hr⟩
  obtain ⟨hn1, hn2, B, pV, pl, rB, rs, rfl, hrB, hrs, hI⟩ := _root_.id hr
  refine enter (n := 32) Tryz.func97 rfl rfl [(0, _), (1, _), (2, _)] rfl ⟨rfl, rfl, rfl, trivial⟩ hs ?_
  refine w_seq ?_
  refine w_reg ?_
  refine wl_f (f_assign rfl) ?_
  refine wl_end [(0, _), (1, _), (2, _)] ⟨rfl, rfl, rfl, trivial⟩ ?_
  refine w_seq ?_
  refine w_block ?_
  refine w_seq ?_
  refine w_reg ?_
  refine wl_f (f_move rfl) ?_
  refine wl_f (f_eqlnil rfl rfl Tryz.underlying89) ?_
  refine wl_f (f_assign rfl) ?_
  refine wl_end [(0, _), (1, _), (2, _), (7, _)] ⟨rfl, rfl, rfl, rfl, trivial⟩ ?_
  refine w_iff rfl ?_
  refine w_seq ?_
  refine w_reg ?_
  refine wl_f (f_move rfl) ?_
  refine wl_f (f_lss rfl rfl) ?_
  refine wl_f (f_move rfl) ?_
  refine wl_or (j := 2) (c := decide ((n : Int) ≤ id)) 6 [(0, _), (1, _), (2, _)] ⟨rfl, rfl, rfl, trivial⟩ rfl rfl rfl rfl rfl (fun hg3_9 => ?_) (fun w3_9 => ?_)
  · skip
    refine wl_gf rfl rfl (f_move rfl) ?_
    refine wl_gf rfl rfl (f_move rfl) ?_
    refine wl_gf rfl rfl (f_nilCheck rfl) ?_
    refine wl_gf rfl rfl (f_fieldAddr 0 rfl Tryz.underlying119 rfl rfl (by kernel_rfl)) ?_
    refine wl_gf rfl rfl (f_loadB 0 0 rfl rfl rfl Tryz.underlying3 rfl rfl) ?_
    refine wl_gf rfl rfl (f_geq rfl rfl) ?_
    exact wl_pend rfl rfl ⟨rfl, rfl, rfl, trivial⟩ (List.Sublist.refl _)
  refine wl_f (f_assign rfl) ?_
  refine wl_end [(0, _), (1, _), (2, _), (10, _)] ⟨rfl, rfl, rfl, rfl, trivial⟩ ?_
  refine w_ifb rfl (fun hc2 => ?_) (fun hc2 => ?_)
  · skip
    have h1 : id < 0 ∨ (n : Int) ≤ id := by simpa [Bool.or_eq_true] using hc2
    have e1 : oins n (flat S) id c = (1, flat S) := if_pos h1
    refine w_seq ?_
    refine w_reg ?_
    refine wl_f (f_assign rfl) ?_
    refine wl_end [(6, _)] ⟨rfl, trivial⟩ ?_
    refine w_ret ?_
    refine ⟨_, _, fun a ha hh => results_tmps Tryz.results97 rfl a ha _, List.Sublist.refl _, ?_⟩
    rw [e1]; exact ⟨rfl, _, rfl, hO⟩
  · skip
    have h1 : ¬ (id < 0 ∨ (n : Int) ≤ id) := by simpa [Bool.or_eq_true] using hc2
    obtain ⟨x, rfl⟩ : ∃ x : Nat, id = x := ⟨id.toNat, by omega⟩
    refine w_seq ?_
    refine w_reg ?_
    refine wl_f (f_move rfl) ?_
    refine wl_f (f_move rfl) ?_
    refine wl_e (e_call1 _ [] rfl Tryz.func92 (by kernel_rfl) (List.Perm.refl _) (fun w hh hs' => rkhas_spec b n S _ x w hr hs')) ?_
    rintro _ _ w5 ⟨_, rfl, rfl, rfl⟩
    refine wl_f (f_assign rfl) ?_
    refine wl_end [(0, _), (1, _), (2, _), (21, _)] ⟨rfl, rfl, rfl, rfl, trivial⟩ ?_
    refine w_ifd rfl (fun hc3 => ?_) (fun hc3 => ?_)
    · skip
      have h2 : (x : Int) ∈ ids (flat S) := hc3
      have e1 : oins n (flat S) x c = (10, flat S) := (if_neg h1).trans (if_pos h2)
      refine w_seq ?_
      refine w_reg ?_
      refine wl_f (f_assign rfl) ?_
      refine wl_end [(6, _)] ⟨rfl, trivial⟩ ?_
      refine w_ret ?_
      refine ⟨_, _, fun a ha hh => results_tmps Tryz.results97 rfl a ha _, List.Sublist.refl _, ?_⟩
      rw [e1]; exact ⟨rfl, _, rfl, hO⟩
    · skip
      have h2 : (x : Int) ∉ ids (flat S) := hc3
      refine w_seq ?_
      refine w_reg ?_
      refine wl_f (f_move rfl) ?_
      refine wl_f (f_gtr rfl rfl) ?_
      refine wl_f (f_assign rfl) ?_
      refine wl_end [(0, _), (1, _), (2, _), (25, _)] ⟨rfl, rfl, rfl, rfl, trivial⟩ ?_
      refine w_ifd rfl (fun hc4 => ?_) (fun hc4 => ?_)
      · skip
        have h3 : 9223372036854775808 < c := by
          have : (9223372036854775808 : Int) < c := hc4
          omega
        have e1 : oins n (flat S) x c = (12, flat S) := (if_neg h1).trans ((if_neg h2).trans (if_pos h3))
        refine w_seq ?_
        refine w_reg ?_
        refine wl_f (f_assign rfl) ?_
        refine wl_end [(6, _)] ⟨rfl, trivial⟩ ?_
        refine w_ret ?_
        refine ⟨_, _, fun a ha hh => results_tmps Tryz.results97 rfl a ha _, List.Sublist.refl _, ?_⟩
        rw [e1]; exact ⟨rfl, _, rfl, hO⟩
      · skip
        have h3 : ¬ 9223372036854775808 < c := fun h => hc4 (show (9223372036854775808 : Int) < c by omega)
        have e1 : oins n (flat S) x c = (0, ins (flat S) x c) := (if_neg h1).trans ((if_neg h2).trans (if_neg h3))
        refine w_skip ?_
        refine w_seq ?_
        refine w_reg ?_
        refine wl_f (f_move rfl) ?_
        refine wl_f (f_move rfl) ?_
        refine wl_f (f_move rfl) ?_
        refine wl_e (e_call1 _ [] rfl Tryz.func95 (by kernel_rfl) (List.Perm.refl _) (fun w hh hs' => rkput_spec b n [] S _ x c w (by omega) h2 (by omega) (fun s hs => absurd hs (List.not_mem_nil)) hr hs')) ?_
        rintro _ _ w9 ⟨_, rfl, rfl, r', rfl, hr'⟩
        refine wl_f (f_assign rfl) ?_
        refine wl_end [(6, _)] ⟨rfl, trivial⟩ ?_
        refine w_ret ?_
        refine ⟨_, _, fun a ha hh => results_tmps Tryz.results97 rfl a ha _, List.Sublist.refl _, ?_⟩
        rw [e1]; exact ⟨rfl, _, rfl, hr'⟩
end Go.Proofs.YtmagdjlcckgkpaaGreat

/- Orders by count: raising, removing, counting, the least one. -/
namespace Go.Proofs.YtmagdjlcckgkpaaGreat
open Go.RowKit

theorem look_some_mem {l : Ord} {z : Int} {c : Nat} (h : look l z = some c) : z ∈ ids l := by
  refine Classical.byContradiction fun hn => ?_
  rw [look_none.2 hn] at h
  cases h

set_option maxHeartbeats 1000000 in
theorem rkcount_spec (b n : Nat) (l : Ord) (r : Res) (z : Int) (w : World) (hr : RkO b n l r) (hs : Holds w r.foot [r] w) :
    Spec Tryz.prog 88 [.pointer (some ⟨b, 0, .none⟩), .int .i64 z] w r.foot fun v H => v = .tuple #[.int .u64 (((look l z).getD 0 : Nat) : Int), .bool (look l z).isSome] ∧ H = [r] := by
  obtain ⟨S, rfl, hr⟩ := hr
  obtain ⟨hn1, hn2, B, pV, pl, rB, rs, rfl, hrB, hrs, hI⟩ := id hr
  refine enter (n := 21) Tryz.func88 rfl rfl [(0, _), (1, _)] rfl ⟨rfl, rfl, trivial⟩ hs ?_
  refine w_seq ?_
  refine w_reg ?_
  refine wl_f (f_assign rfl) ?_
  refine wl_f (f_assign rfl) ?_
  refine wl_end [(0, _), (1, _)] ⟨rfl, rfl, trivial⟩ ?_
  refine w_seq ?_
  refine w_seq ?_
  refine w_reg ?_
  refine wl_f (f_move rfl) ?_
  refine wl_f (f_move rfl) ?_
  refine wl_e (e_call1 _ [] rfl Tryz.func92 (by kernel_rfl) (List.Perm.refl _) (fun w hh hs' => rkhas_spec b n S _ z w hr hs')) ?_
  rintro _ _ w1 ⟨_, rfl, rfl, rfl⟩
  refine wl_f (f_not rfl rfl) ?_
  refine wl_end [(0, _), (1, _), (9, _)] ⟨rfl, rfl, rfl, trivial⟩ ?_
  refine w_ifb rfl (fun hc1 => ?_) (fun hc1 => ?_)
  · skip
    have h1 : z ∉ ids (flat S) := by simpa using hc1
    refine w_seq ?_
    refine w_reg ?_
    refine wl_f (f_assign rfl) ?_
    refine wl_f (f_assign rfl) ?_
    refine wl_end [(4, _), (5, _)] ⟨rfl, rfl, trivial⟩ ?_
    refine w_ret ?_
    refine ⟨_, _, fun a ha hh => results_tmps Tryz.results88 rfl a ha _, List.Sublist.refl _, ?_⟩
    rw [look_none.2 h1]; exact ⟨rfl, rfl⟩
  · skip
    have h1 : z ∈ ids (flat S) := by simpa using hc1
    obtain ⟨A, s, C, I, y, J, rfl, hsI⟩ := find_bk h1
    have hz := hI.rng _ h1
    obtain ⟨x, rfl⟩ : ∃ x : Nat, z = x := ⟨z.toNat, by omega⟩
    have hat : pl[x]? = some (some (s.1, y)) := by
      have := hI.at_ s (by simp) (y, (x : Int)) (by rw [hsI]; simp)
      simpa using this
    have hlk := (rem_take hI hsI).2
    refine w_with fun hh => ?_
    obtain ⟨g, cp, rfl⟩ := rowB_form hh (i := 0) (j := 1) rfl rfl (by omega)
    clear hh
    refine w_skip ?_
    refine w_seq ?_
    refine w_reg ?_
    refine wl_f (f_move rfl) ?_
    refine wl_f (f_move rfl) ?_
    refine wl_f (f_nilCheck rfl) ?_
    refine wl_f (f_fieldAddr 3 rfl Tryz.underlying119 rfl rfl (by kernel_rfl)) ?_
    refine wl_f (f_loadB 0 0 rfl rfl rfl Tryz.underlying117 rfl rfl) ?_
    refine wl_f (f_move rfl) ?_
    refine wl_f (f_indexAddr 3 (i := x) rfl rfl Tryz.underlying117 (by kernel_rfl) rfl (by omega)) ?_
    refine wl_f (f_fieldAddr 1 rfl Tryz.underlying158 rfl rfl (by kernel_rfl)) ?_
    refine wl_f (f_loadBr (v := .int .i64 s.1) 0 1 rfl rfl rfl Tryz.underlying3 rfl (pcells_bucket hat)) ?_
    refine wl_e (e_call1 _ [] rfl Tryz.func93 (by kernel_rfl) (List.Perm.refl _) (fun w hh hs' => rkof_spec b n A s C _ w hr hs')) ?_
    rintro _ _ w3 ⟨_, rfl, rfl, rfl⟩
    refine wl_f (f_field rfl Tryz.underlying116 rfl Tryz.underlying33 rfl rfl) ?_
    refine wl_f (f_assign rfl) ?_
    refine wl_f (f_assign rfl) ?_
    refine wl_end [(4, _), (5, _)] ⟨rfl, rfl, trivial⟩ ?_
    refine w_ret ?_
    refine ⟨_, _, fun a ha hh => results_tmps Tryz.results88 rfl a ha _, List.Sublist.refl _, ?_⟩
    rw [hlk]; exact ⟨rfl, rfl⟩

set_option maxHeartbeats 1000000 in
theorem rkremove_spec (b n : Nat) (l : Ord) (r : Res) (z : Int) (w : World) (hr : RkO b n l r) (hs : Holds w r.foot [r] w) :
    Spec Tryz.prog 100 [.pointer (some ⟨b, 0, .none⟩), .int .i64 z] w r.foot fun v H => v = .tuple #[.int .u64 ((orem l z).1 : Int), .int .i64 (orem l z).2.1] ∧ ∃ r', H = [r'] ∧ RkO b n (orem l z).2.2 r' := by
  obtain ⟨S, rfl, hr⟩ := hr
  have hO : RkO b n (flat S) r := ⟨S, rfl, hr⟩
  obtain ⟨hn1, hn2, B, pV, pl, rB, rs, rfl, hrB, hrs, hI⟩ := id hr
  refine enter (n := 19) Tryz.func100 rfl rfl [(0, _), (1, _)] rfl ⟨rfl, rfl, trivial⟩ hs ?_
  refine w_seq ?_
  refine w_reg ?_
  refine wl_f (f_assign rfl) ?_
  refine wl_f (f_assign rfl) ?_
  refine wl_end [(0, _), (1, _)] ⟨rfl, rfl, trivial⟩ ?_
  refine w_seq ?_
  refine w_seq ?_
  refine w_reg ?_
  refine wl_f (f_move rfl) ?_
  refine wl_f (f_move rfl) ?_
  refine wl_e (e_call1 _ [] rfl Tryz.func92 (by kernel_rfl) (List.Perm.refl _) (fun w hh hs' => rkhas_spec b n S _ z w hr hs')) ?_
  rintro _ _ w1 ⟨_, rfl, rfl, rfl⟩
  refine wl_f (f_not rfl rfl) ?_
  refine wl_end [(0, _), (1, _), (11, _)] ⟨rfl, rfl, rfl, trivial⟩ ?_
  refine w_ifb rfl (fun hc1 => ?_) (fun hc1 => ?_)
  · skip
    have h1 : z ∉ ids (flat S) := by simpa using hc1
    have e1 : orem (flat S) z = (0, 8, flat S) := by rw [orem, look_none.2 h1]
    refine w_seq ?_
    refine w_reg ?_
    refine wl_f (f_assign rfl) ?_
    refine wl_f (f_assign rfl) ?_
    refine wl_end [(4, _), (5, _)] ⟨rfl, rfl, trivial⟩ ?_
    refine w_ret ?_
    refine ⟨_, _, fun a ha hh => results_tmps Tryz.results100 rfl a ha _, List.Sublist.refl _, ?_⟩
    rw [e1]; exact ⟨rfl, _, rfl, hO⟩
  · skip
    have h1 : z ∈ ids (flat S) := by simpa using hc1
    obtain ⟨A, s, C, I, y, J, rfl, hsI⟩ := find_bk h1
    have hz := hI.rng _ h1
    obtain ⟨x, rfl⟩ : ∃ x : Nat, z = x := ⟨z.toNat, by omega⟩
    have e1 : orem (flat (A ++ s :: C)) (x : Int) = (s.2.1, 0, rem (flat (A ++ s :: C)) x) := by rw [orem, (rem_take hI hsI).2]
    refine w_skip ?_
    refine w_seq ?_
    refine w_reg ?_
    refine wl_f (f_move rfl) ?_
    refine wl_f (f_move rfl) ?_
    refine wl_e (e_call1 _ [] rfl Tryz.func94 (by kernel_rfl) (List.Perm.refl _) (fun w hh hs' => rktake_spec b n A s C I J y x _ w hsI hr hs')) ?_
    rintro _ _ w3 ⟨_, rfl, rfl, C', r', rfl, hr', hfl⟩
    refine wl_f (f_move rfl) ?_
    refine wl_f (f_extract rfl rfl) ?_
    refine wl_f (f_extract rfl rfl) ?_
    refine wl_f (f_assign rfl) ?_
    refine wl_f (f_assign rfl) ?_
    refine wl_end [(6, _)] ⟨rfl, trivial⟩ ?_
    refine w_seq ?_
    refine w_reg ?_
    refine wl_f (f_move rfl) ?_
    refine wl_f (f_assign rfl) ?_
    refine wl_f (f_assign rfl) ?_
    refine wl_end [(4, _), (5, _)] ⟨rfl, rfl, trivial⟩ ?_
    refine w_ret ?_
    refine ⟨_, _, fun a ha hh => results_tmps Tryz.results100 rfl a ha _, List.Sublist.refl _, ?_⟩
    rw [e1]; exact ⟨rfl, _, rfl, _, hfl.symm, hr'⟩

set_option maxHeartbeats 2000000 in
theorem rkraise_spec (b n : Nat) (l : Ord) (r : Res) (z : Int) (k : Nat) (w : World) (hk : k < 18446744073709551616) (hr : RkO b n l r) (hs : Holds w r.foot [r] w) :
    Spec Tryz.prog 83 [.pointer (some ⟨b, 0, .none⟩), .int .i64 z, .int .u64 (k : Int)] w r.foot fun v H => v = .int .i64 (orai l z k).1 ∧ ∃ r', H = [r'] ∧ (k = 0 → r' = r) ∧ RkO b n (orai l z k).2 r' := by
  obtain ⟨S, rfl, hr⟩ := hr
  have hO : RkO b n (flat S) r := ⟨S, rfl, hr⟩
  obtain ⟨hn1, hn2, B, pV, pl, rB, rs, rfl, hrB, hrs, hI⟩ := id hr
  refine enter (n := 44) Tryz.func83 rfl rfl [(0, _), (1, _), (2, _)] rfl ⟨rfl, rfl, rfl, trivial⟩ hs ?_
  refine w_seq ?_
  refine w_reg ?_
  refine wl_f (f_assign rfl) ?_
  refine wl_end [(0, _), (1, _), (2, _)] ⟨rfl, rfl, rfl, trivial⟩ ?_
  refine w_seq ?_
  refine w_seq ?_
  refine w_reg ?_
  refine wl_f (f_move rfl) ?_
  refine wl_f (f_move rfl) ?_
  refine wl_e (e_call1 _ [] rfl Tryz.func92 (by kernel_rfl) (List.Perm.refl _) (fun w hh hs' => rkhas_spec b n S _ z w hr hs')) ?_
  rintro _ _ w1 ⟨_, rfl, rfl, rfl⟩
  refine wl_f (f_not rfl rfl) ?_
  refine wl_end [(0, _), (1, _), (2, _), (13, _)] ⟨rfl, rfl, rfl, rfl, trivial⟩ ?_
  refine w_ifb rfl (fun hc1 => ?_) (fun hc1 => ?_)
  · skip
    have h1 : z ∉ ids (flat S) := by simpa using hc1
    have e1 : orai (flat S) z k = (8, flat S) := by rw [orai, look_none.2 h1]
    refine w_seq ?_
    refine w_reg ?_
    refine wl_f (f_assign rfl) ?_
    refine wl_end [(6, _)] ⟨rfl, trivial⟩ ?_
    refine w_ret ?_
    refine ⟨_, _, fun a ha hh => results_tmps Tryz.results83 rfl a ha _, List.Sublist.refl _, ?_⟩
    rw [e1]; exact ⟨rfl, _, rfl, fun _ => rfl, hO⟩
  · skip
    have h1 : z ∈ ids (flat S) := by simpa using hc1
    obtain ⟨A, s, C, I, y, J, rfl, hsI⟩ := find_bk h1
    have hz := hI.rng _ h1
    obtain ⟨x, rfl⟩ : ∃ x : Nat, z = x := ⟨z.toNat, by omega⟩
    have hat : pl[x]? = some (some (s.1, y)) := by
      have := hI.at_ s (by simp) (y, (x : Int)) (by rw [hsI]; simp)
      simpa using this
    have hcs := hI.cnt s (by simp)
    have e0 : orai (flat (A ++ s :: C)) (x : Int) k = if s.2.1 + k ≤ 9223372036854775808 then if k = 0 then (0, flat (A ++ s :: C)) else (0, ins (rem (flat (A ++ s :: C)) x) x (s.2.1 + k)) else (12, flat (A ++ s :: C)) := by
      rw [orai, (rem_take hI hsI).2]
    refine w_with fun hh => ?_
    obtain ⟨g, cp, rfl⟩ := rowB_form hh (i := 0) (j := 1) rfl rfl (by omega)
    clear hh
    refine w_skip ?_
    refine w_seq ?_
    refine w_reg ?_
    refine wl_f (f_move rfl) ?_
    refine wl_f (f_move rfl) ?_
    refine wl_f (f_nilCheck rfl) ?_
    refine wl_f (f_fieldAddr 3 rfl Tryz.underlying119 rfl rfl (by kernel_rfl)) ?_
    refine wl_f (f_loadB 0 0 rfl rfl rfl Tryz.underlying117 rfl rfl) ?_
    refine wl_f (f_move rfl) ?_
    refine wl_f (f_indexAddr 3 (i := x) rfl rfl Tryz.underlying117 (by kernel_rfl) rfl (by omega)) ?_
    refine wl_f (f_fieldAddr 1 rfl Tryz.underlying158 rfl rfl (by kernel_rfl)) ?_
    refine wl_f (f_loadBr (v := .int .i64 s.1) 0 1 rfl rfl rfl Tryz.underlying3 rfl (pcells_bucket hat)) ?_
    refine wl_e (e_call1 _ [] rfl Tryz.func93 (by kernel_rfl) (List.Perm.refl _) (fun w hh hs' => rkof_spec b n A s C _ w hr hs')) ?_
    rintro _ _ w3 ⟨_, rfl, rfl, rfl⟩
    refine wl_f (f_field rfl Tryz.underlying116 rfl Tryz.underlying33 rfl rfl) ?_
    refine wl_f (f_assign rfl) ?_
    refine wl_end [(0, _), (1, _), (2, _), (7, _)] ⟨rfl, rfl, rfl, rfl, trivial⟩ ?_
    refine w_seq ?_
    refine w_seq ?_
    refine w_reg ?_
    refine wl_f (f_move rfl) ?_
    refine wl_f (f_move rfl) ?_
    refine wl_e (e_call0 rfl Tryz.func81 (by kernel_rfl) (fun w hh => satfits_spec s.2.1 k w (by omega) hk)) ?_
    rintro _ _ w4 ⟨_, rfl, rfl, rfl⟩
    refine wl_f (f_not rfl rfl) ?_
    refine wl_end [(0, _), (1, _), (2, _), (7, _), (28, _)] ⟨rfl, rfl, rfl, rfl, rfl, trivial⟩ ?_
    refine w_ifb rfl (fun hc2 => ?_) (fun hc2 => ?_)
    · skip
      have h2 : ¬ s.2.1 + k ≤ 9223372036854775808 := by simpa using hc2
      rw [if_neg h2] at e0
      refine w_seq ?_
      refine w_reg ?_
      refine wl_f (f_assign rfl) ?_
      refine wl_end [(6, _)] ⟨rfl, trivial⟩ ?_
      refine w_ret ?_
      refine ⟨_, _, fun a ha hh => results_tmps Tryz.results83 rfl a ha _, List.Sublist.refl _, ?_⟩
      rw [e0]; exact ⟨rfl, _, rfl, fun _ => rfl, hO⟩
    · skip
      have h2 : s.2.1 + k ≤ 9223372036854775808 := by simpa using hc2
      rw [if_pos h2] at e0
      refine w_skip ?_
      refine w_seq ?_
      refine w_seq ?_
      refine w_reg ?_
      refine wl_f (f_move rfl) ?_
      refine wl_f (f_eql rfl rfl) ?_
      refine wl_end [(0, _), (1, _), (2, _), (7, _), (30, _)] ⟨rfl, rfl, rfl, rfl, rfl, trivial⟩ ?_
      refine w_ifd rfl (fun hc3 => ?_) (fun hc3 => ?_)
      · skip
        have h3 : k = 0 := by
          have : (k : Int) = 0 := hc3
          omega
        rw [if_pos h3] at e0
        refine w_seq ?_
        refine w_reg ?_
        refine wl_f (f_assign rfl) ?_
        refine wl_end [(6, _)] ⟨rfl, trivial⟩ ?_
        refine w_ret ?_
        refine ⟨_, _, fun a ha hh => results_tmps Tryz.results83 rfl a ha _, List.Sublist.refl _, ?_⟩
        rw [e0]; exact ⟨rfl, _, rfl, fun _ => rfl, hO⟩
      · skip
        have h3 : ¬ k = 0 := fun h => hc3 (by rw [h]; rfl)
        rw [if_neg h3] at e0
        refine w_skip ?_
        refine w_seq ?_
        refine w_reg ?_
        refine wl_f (f_move rfl) ?_
        refine wl_f (f_move rfl) ?_
        refine wl_e (e_call1 _ [] rfl Tryz.func94 (by kernel_rfl) (List.Perm.refl _) (fun w hh hs' => rktake_spec b n A s C I J y x _ w hsI hr hs')) ?_
        rintro _ _ w8 ⟨_, rfl, rfl, C', r', rfl, hr', hfl⟩
        refine wl_f (f_move rfl) ?_
        refine wl_f (f_extract rfl rfl) ?_
        refine wl_f (f_extract rfl rfl) ?_
        refine wl_f (f_assign rfl) ?_
        refine wl_f (f_assign rfl) ?_
        refine wl_end [(0, _), (1, _), (2, _), (7, _), (9, _)] ⟨rfl, rfl, rfl, rfl, rfl, trivial⟩ ?_
        refine w_seq ?_
        refine w_reg ?_
        refine wl_f (f_move rfl) ?_
        refine wl_f (f_move rfl) ?_
        refine wl_f (f_move rfl) ?_
        refine wl_f (f_move rfl) ?_
        refine wl_f (f_eqv (v' := .int .u64 ((s.2.1 + k : Nat) : Int)) (f_addu rfl rfl (by omega)) (by rw [Int.natCast_add])) ?_
        refine wl_f (f_move rfl) ?_
        refine wl_e (e_call1 _ [] rfl Tryz.func95 (by kernel_rfl) (List.Perm.refl _) (fun w hh hs' => rkput_spec b n A C' _ x (s.2.1 + k) w (by omega) (by rw [hfl]; exact rem_notin hI.nid) h2 (fun t ht => by have := (asc_split hI.asc).1 t ht; omega) hr' hs')) ?_
        rintro _ _ w9 ⟨_, rfl, rfl, r2, rfl, hr2⟩
        refine wl_f (f_assign rfl) ?_
        refine wl_end [(6, _)] ⟨rfl, trivial⟩ ?_
        refine w_ret ?_
        refine ⟨_, _, fun a ha hh => results_tmps Tryz.results83 rfl a ha _, List.Sublist.refl _, ?_⟩
        rw [e0]; exact ⟨rfl, _, rfl, fun h => absurd h h3, hfl ▸ hr2⟩

def oleast : Ord → Value
  | [] => .tuple #[.int .i64 0, .int .u64 0, .bool false]
  | p :: _ => .tuple #[.int .i64 p.1, .int .u64 (p.2 : Int), .bool true]
set_option maxHeartbeats 2000000 in
theorem rkleast_spec (b n : Nat) (l : Ord) (r : Res) (w : World) (hr : RkO b n l r) (hs : Holds w r.foot [r] w) :
    Spec Tryz.prog 96 [.pointer (some ⟨b, 0, .none⟩)] w r.foot fun v H => v = oleast l ∧ H = [r] := by
  obtain ⟨S, rfl, hr⟩ := hr
  obtain ⟨hn1, hn2, B, pV, pl, rB, rs, rfl, hrB, hrs, hI⟩ := id hr
  refine enter (n := 34) Tryz.func96 rfl rfl [(0, _)] rfl ⟨rfl, trivial⟩ hs ?_
  refine w_seq ?_
  refine w_reg ?_
  refine wl_f (f_assign rfl) ?_
  refine wl_f (f_assign rfl) ?_
  refine wl_f (f_assign rfl) ?_
  refine wl_end [(0, _)] ⟨rfl, trivial⟩ ?_
  refine w_seq ?_
  refine w_seq ?_
  refine w_reg ?_
  refine wl_f (f_move rfl) ?_
  refine wl_f (f_eqlnil rfl rfl Tryz.underlying89) ?_
  refine wl_f (f_move rfl) ?_
  refine wl_or (j := 2) (c := decide (((flat S).length : Int) = 0)) 5 [(0, _)] ⟨rfl, trivial⟩ rfl rfl rfl rfl rfl (fun hg1_8 => ?_) (fun w1_8 => ?_)
  · skip
    refine wl_gf rfl rfl (f_move rfl) ?_
    refine wl_gf rfl rfl (f_nilCheck rfl) ?_
    refine wl_gf rfl rfl (f_fieldAddr 1 rfl Tryz.underlying119 rfl rfl (by kernel_rfl)) ?_
    refine wl_gf rfl rfl (f_loadB 0 0 rfl rfl rfl Tryz.underlying3 rfl rfl) ?_
    refine wl_gf rfl rfl (f_eql rfl rfl) ?_
    exact wl_pend rfl rfl ⟨rfl, trivial⟩ (List.Sublist.refl _)
  refine wl_end [(0, _), (14, _)] ⟨rfl, rfl, trivial⟩ ?_
  refine w_ifb rfl (fun hc1 => ?_) (fun hc1 => ?_)
  · skip
    have h1 : flat S = [] := by simpa using hc1
    refine w_seq ?_
    refine w_reg ?_
    refine wl_f (f_assign rfl) ?_
    refine wl_f (f_assign rfl) ?_
    refine wl_f (f_assign rfl) ?_
    refine wl_end [(2, _), (3, _), (4, _)] ⟨rfl, rfl, rfl, trivial⟩ ?_
    refine w_ret ?_
    refine ⟨_, _, fun a ha hh => results_tmps Tryz.results96 rfl a ha _, List.Sublist.refl _, ?_⟩
    rw [h1]; exact ⟨rfl, rfl⟩
  · skip
    have h1 : flat S ≠ [] := by simpa using hc1
    obtain ⟨s, C, rfl⟩ : ∃ s C, S = s :: C := by
      cases S with
      | nil => exact absurd rfl h1
      | cons s C => exact ⟨s, C, rfl⟩
    obtain ⟨y, z, J, hsI⟩ : ∃ y z J, s.2.2.2 = (y, z) :: J := by
      cases e : s.2.2.2 with
      | nil => exact absurd e (hI.ne s (List.mem_cons_self ..))
      | cons p J => exact ⟨p.1, p.2, J, rfl⟩
    obtain ⟨ri, rc, rfl, hri, hrc⟩ := hrs.cons_inv
    rw [hsI] at hri
    have hfl : flat (s :: C) = (z, s.2.1) :: (J.map (fun p => (p.2, s.2.1)) ++ flat C) := by rw [flat_cons, bfl, hsI]; rfl
    refine w_unb (rkg b n _ B pV pl rB (ri :: rc)) ?_
    refine w_pick [2, 0, 0, 0] rfl ?_
    refine w_skip ?_
    refine w_seq ?_
    refine w_reg ?_
    refine wl_f (f_move rfl) ?_
    refine wl_f (f_move rfl) ?_
    refine wl_f (f_nilCheck rfl) ?_
    refine wl_f (f_fieldAddr 2 rfl Tryz.underlying119 rfl rfl (by kernel_rfl)) ?_
    (first | refine wl_f (f_loadb 0 rfl Tryz.underlying111 rfl rfl rfl) ?_ | refine wl_f (f_loadb 1 rfl Tryz.underlying111 rfl rfl rfl) ?_ | refine wl_f (f_loadb 2 rfl Tryz.underlying111 rfl rfl rfl) ?_ | refine wl_f (f_loadb 3 rfl Tryz.underlying111 rfl rfl rfl) ?_ | refine wl_f (f_loadb 4 rfl Tryz.underlying111 rfl rfl rfl) ?_ | refine wl_f (f_loadb 5 rfl Tryz.underlying111 rfl rfl rfl) ?_ | refine wl_f (f_loadb 6 rfl Tryz.underlying111 rfl rfl rfl) ?_)
    refine wl_e (e_call1 rB [_, _, _] rfl Tryz.func108 (by kernel_rfl) (pk1 0 rfl) (fun w hh hs' => bfirst_spec B n _ rB w hrB hs')) ?_
    rintro _ _ w3 ⟨_, rfl, rfl, rfl⟩
    refine wl_pick [1, 1, 0, 0] rfl ?_
    refine wl_bun (H := []) [_, _, _, _] ?_
    refine wl_e (e_call1 (bun (rkg b n _ B pV pl rB (ri :: rc))) [] rfl Tryz.func93 (by kernel_rfl) (List.Perm.refl _) (fun w hh hs' => rkof_spec b n [] s C _ w hr hs')) ?_
    rintro _ _ w4 ⟨_, rfl, rfl, rfl⟩
    refine wl_e (e_allocs [.int .u64 0, .pointer .none] (by kernel_rfl)) ?_
    rintro _ _ w3_7 ⟨b3_7, rfl, rfl⟩
    (first | refine wl_e0 (e_store0 (us := [_, _]) rfl rfl rfl (by kernel_rfl) (by simp [Value.oneCell']) rfl rfl) ?_ | refine wl_e0 (e_store1 (us := [_, _]) rfl rfl rfl (by kernel_rfl) (by simp [Value.oneCell']) rfl rfl) ?_ | refine wl_e0 (e_store2 (us := [_, _]) rfl rfl rfl (by kernel_rfl) (by simp [Value.oneCell']) rfl rfl) ?_ | refine wl_e0 (e_store3 (us := [_, _]) rfl rfl rfl (by kernel_rfl) (by simp [Value.oneCell']) rfl rfl) ?_)
    rintro _ _ w3_8 rfl
    refine wl_end [(5, _)] ⟨rfl, trivial⟩ ?_
    refine w_seq ?_
    refine w_pick [1, 0] rfl ?_
    refine w_unb (rkg b n _ B pV pl rB (ri :: rc)) ?_
    refine w_pick [3, 0, 0, 0, 0] rfl ?_
    refine w_mid (L := []) ?_
    refine w_pick [1, 1, 1, 1, 1, 0] rfl ?_
    refine w_draw [(0, true), (1, true), (2, true), (3, true), (4, false), (5, false), (6, true), (7, true), (8, true), (9, true)] ([_, _, _, _, _]) ([_]) mixed (by kernel_rfl) (by kernel_rfl) rfl (List.Perm.refl _) (fun w4_ => ?_)
    refine wd_f rfl (f_fieldAddr 1 rfl Tryz.underlying116 rfl rfl (by kernel_rfl)) ?_
    (first | refine wd_f rfl (f_loadb 0 rfl Tryz.underlying114 rfl rfl rfl) ?_ | refine wd_f rfl (f_loadb 1 rfl Tryz.underlying114 rfl rfl rfl) ?_ | refine wd_f rfl (f_loadb 2 rfl Tryz.underlying114 rfl rfl rfl) ?_ | refine wd_f rfl (f_loadb 3 rfl Tryz.underlying114 rfl rfl rfl) ?_ | refine wd_f rfl (f_loadb 4 rfl Tryz.underlying114 rfl rfl rfl) ?_ | refine wd_f rfl (f_loadb 5 rfl Tryz.underlying114 rfl rfl rfl) ?_ | refine wd_f rfl (f_loadb 6 rfl Tryz.underlying114 rfl rfl rfl) ?_)
    refine wd_f rfl (f_fieldAddr 1 rfl Tryz.underlying116 rfl rfl (by kernel_rfl)) ?_
    (first | refine wd_f rfl (f_loadb 0 rfl Tryz.underlying114 rfl rfl rfl) ?_ | refine wd_f rfl (f_loadb 1 rfl Tryz.underlying114 rfl rfl rfl) ?_ | refine wd_f rfl (f_loadb 2 rfl Tryz.underlying114 rfl rfl rfl) ?_ | refine wd_f rfl (f_loadb 3 rfl Tryz.underlying114 rfl rfl rfl) ?_ | refine wd_f rfl (f_loadb 4 rfl Tryz.underlying114 rfl rfl rfl) ?_ | refine wd_f rfl (f_loadb 5 rfl Tryz.underlying114 rfl rfl rfl) ?_ | refine wd_f rfl (f_loadb 6 rfl Tryz.underlying114 rfl rfl rfl) ?_)
    refine wd_e rfl (e_call1 ri [_, _, _, _, _] rfl Tryz.func115 (by kernel_rfl) (pk1 5 rfl) (fun w hh hs' => ifirst_spec s.2.2.1 n _ ri w hri hs')) ?_
    rintro _ _ w5 ⟨_, rfl, rfl, rfl⟩
    refine ⟨_, List.perm_append_comm, ?_⟩
    refine wd_e rfl (e_call1 ri [_, _, _, _, _] rfl Tryz.func114 (by kernel_rfl) (pk1 5 rfl) (fun w hh hs' => iValue_spec s.2.2.1 n _ y ri w hri hs')) ?_
    rintro _ _ w6 ⟨_, rfl, rfl, hv⟩
    obtain rfl := ValAt.ok (A := []) hv hri.nd
    refine ⟨_, List.perm_append_comm, ?_⟩
    refine wd_f rfl (f_move rfl) ?_
    refine wd_f rfl (f_extract rfl rfl) ?_
    refine wd_f rfl (f_extract rfl rfl) ?_
    refine wd_f rfl (f_assign rfl) ?_
    refine wd_end [(2, _), (5, _)] ⟨rfl, rfl, trivial⟩ ?_
    refine w_seq ?_
    refine w_draw [(0, true), (1, true), (2, true), (3, true), (4, true), (5, true)] (_) ([]) mixed (by kernel_rfl) (by kernel_rfl) rfl (perm_all _) (fun w5_ => ?_)
    refine wd_f rfl (f_move rfl) ?_
    refine wd_f rfl (f_fieldAddr 0 rfl Tryz.underlying116 rfl rfl (by kernel_rfl)) ?_
    (first | refine wd_f rfl (f_loadb 0 rfl Tryz.underlying33 rfl rfl rfl) ?_ | refine wd_f rfl (f_loadb 1 rfl Tryz.underlying33 rfl rfl rfl) ?_ | refine wd_f rfl (f_loadb 2 rfl Tryz.underlying33 rfl rfl rfl) ?_ | refine wd_f rfl (f_loadb 3 rfl Tryz.underlying33 rfl rfl rfl) ?_ | refine wd_f rfl (f_loadb 4 rfl Tryz.underlying33 rfl rfl rfl) ?_ | refine wd_f rfl (f_loadb 5 rfl Tryz.underlying33 rfl rfl rfl) ?_ | refine wd_f rfl (f_loadb 6 rfl Tryz.underlying33 rfl rfl rfl) ?_)
    refine wd_f rfl (f_assign rfl) ?_
    refine wd_f rfl (f_assign rfl) ?_
    refine wd_f rfl (f_assign rfl) ?_
    refine wd_end [(2, _), (3, _), (4, _)] ⟨rfl, rfl, rfl, trivial⟩ ?_
    refine w_pick [5, 0, 0, 0, 0, 0] rfl ?_
    refine w_amid (L := []) ?_
    refine w_pick [1, 1, 1, 0] rfl ?_
    refine w_bun (H := []) [_, _, _, _] ?_
    refine w_ret ?_
    refine ⟨_, _, fun a ha hh => results_tmps Tryz.results96 rfl a ha _, List.Sublist.refl _, ?_⟩
    refine ⟨?_, rfl⟩
    rw [hfl]
    rfl
end Go.Proofs.YtmagdjlcckgkpaaGreat

/- Orders by count: what holds of every order. -/
namespace Go.Proofs.YtmagdjlcckgkpaaGreat
open Go.RowKit

structure OInv (n : Nat) (l : Ord) : Prop where
  asc : (l.map Prod.snd).Pairwise (· ≤ ·)
  nd : (ids l).Nodup
  rng : ∀ z ∈ ids l, 0 ≤ z ∧ z < n
  len : l.length ≤ n
  cnt : ∀ p ∈ l, p.2 ≤ 9223372036854775808
theorem flat_asc : ∀ {S : List Bk}, (S.map fun s => s.2.1).Pairwise (· < ·) → ((flat S).map Prod.snd).Pairwise (· ≤ ·)
  | [], _ => List.Pairwise.nil
  | s :: S, h => by
    rw [List.map_cons, List.pairwise_cons] at h
    rw [flat_cons, List.map_append, List.pairwise_append]
    refine ⟨?_, flat_asc h.2, ?_⟩
    · have : (bfl s).map Prod.snd = s.2.2.2.map fun _ => s.2.1 := by simp [bfl]
      rw [this, List.pairwise_map]
      exact List.pairwise_iff_getElem.2 fun _ _ _ _ _ => Nat.le_refl _
    · intro a ha b hb
      obtain ⟨p, hp, rfl⟩ := List.mem_map.1 ha
      obtain ⟨q, hq, rfl⟩ := List.mem_map.1 hb
      rw [bfl_cnt hp]
      obtain ⟨t, ht, e⟩ := flat_cnt hq
      rw [e]
      exact Nat.le_of_lt (h.1 _ (List.mem_map_of_mem ht))
theorem RkO.inv {b n : Nat} {l : Ord} {r : Res} (h : RkO b n l r) : OInv n l := by
  obtain ⟨S, rfl, hn1, hn2, B, pV, pl, rB, rs, rfl, hrB, hrs, hI⟩ := h
  refine ⟨flat_asc hI.asc, hI.nid, hI.rng, ?_, fun p hp => ?_⟩
  · have := range_len hI.nid hI.rng
    simpa [ids] using this
  · obtain ⟨s, hs, e⟩ := flat_cnt hp
    rw [e]
    exact hI.cnt s hs
theorem look_get {l : Ord} {i : Nat} {p : Int × Nat} (hnd : (ids l).Nodup) (h : l[i]? = some p) : look l p.1 = some p.2 := by
  induction l generalizing i with
  | nil => simp at h
  | cons q l ih =>
    simp only [ids, List.map_cons, List.nodup_cons] at hnd
    cases i with
    | zero => simp at h; subst h; rw [look, if_pos rfl]
    | succ i =>
      rw [List.getElem?_cons_succ] at h
      rw [look, if_neg (fun e => hnd.1 (by rw [e]; exact List.mem_map_of_mem (List.mem_of_getElem? h)))]
      exact ih hnd.2 h
theorem asc_get {l : Ord} {i : Nat} {p q : Int × Nat} (h : (l.map Prod.snd).Pairwise (· ≤ ·)) (h1 : l[i]? = some p) (h2 : l[i + 1]? = some q) : p.2 ≤ q.2 := by
  have hi : i + 1 < l.length := (List.getElem?_eq_some_iff.1 h2).1
  have := List.pairwise_iff_getElem.1 h i (i + 1) (by rw [List.length_map]; omega) (by rw [List.length_map]; omega) (Nat.lt_succ_self i)
  simp only [List.getElem_map] at this
  rw [List.getElem?_eq_getElem (by omega)] at h1 h2
  injection h1 with h1
  injection h2 with h2
  rw [h1, h2] at this
  exact this
theorem ids_get {l : Ord} {i : Nat} {p : Int × Nat} (h : l[i]? = some p) : (ids l)[i]? = some p.1 := by simp [ids, h]
end Go.Proofs.YtmagdjlcckgkpaaGreat

/- Tables of tracked keys: what they are, making one, setting and dropping an entry. -/
namespace Go.Proofs.YtmagdjlcckgkpaaGreat
open Go.RowKit

/-- What holds of entries, order and index. -/
structure SInv (m : Nat) (E : List (Option En)) (l : Ord) (M : List (ByteArray × Int)) : Prop where
  len : E.length = m
  ord : ∀ (i c : Nat), ((i : Int), c) ∈ l ↔ ∃ (k : ByteArray) (o s : Nat), E[i]? = some (some (k, o, s)) ∧ c = o + s
  idx : ∀ (k : ByteArray) (z : Int), (k, z) ∈ M ↔ ∃ (i o s : Nat), z = i ∧ E[i]? = some (some (k, o, s))
  sm : ∀ (i : Nat) (k : ByteArray) (o s : Nat), E[i]? = some (some (k, o, s)) → small k ∧ k ≠ ByteArray.empty
theorem mem_ins_iff {l : Ord} {z : Int} {c : Nat} {q : Int × Nat} : q ∈ ins l z c ↔ q = (z, c) ∨ q ∈ l := by
  induction l with
  | nil => simp [ins]
  | cons p l ih =>
    rw [ins]
    split
    · rw [List.mem_cons, ih, List.mem_cons]
      constructor
      · rintro (h | h | h) <;> simp [h]
      · rintro (h | h | h) <;> simp [h]
    · simp
theorem mem_rem_iff {l : Ord} {z : Int} (hn : (ids l).Nodup) {q : Int × Nat} : q ∈ rem l z ↔ q ∈ l ∧ q.1 ≠ z := by
  induction l with
  | nil => simp [rem]
  | cons p l ih =>
    simp only [ids, List.map_cons, List.nodup_cons] at hn
    rw [rem]
    split
    · rename_i hp
      rw [List.mem_cons]
      constructor
      · intro h
        refine ⟨.inr h, fun e => hn.1 ?_⟩
        rw [hp, ← e]
        exact List.mem_map_of_mem h
      · rintro ⟨h | h, h2⟩
        · subst h; exact absurd hp h2
        · exact h
    · rename_i hp
      rw [List.mem_cons, ih hn.2, List.mem_cons]
      constructor
      · rintro (h | ⟨h, h2⟩)
        · subst h; exact ⟨.inl rfl, hp⟩
        · exact ⟨.inr h, h2⟩
      · rintro ⟨h | h, h2⟩
        · exact .inl h
        · exact .inr ⟨h, h2⟩
theorem look_of_mem {l : Ord} {z : Int} {c : Nat} (hn : (ids l).Nodup) (h : (z, c) ∈ l) : look l z = some c := by
  obtain ⟨i, hi⟩ := List.mem_iff_getElem?.1 h
  exact look_get hn hi
theorem SInv.new (m : Nat) : SInv m (List.replicate m none) [] [] := by
  have h : ∀ (i : Nat) (x : En), ¬ (List.replicate m (none : Option En))[i]? = some (some x) := fun i x h => by
    rw [List.getElem?_replicate] at h; split at h <;> cases h
  refine ⟨List.length_replicate, fun i c => ?_, fun k z => ?_, fun i k o s hi => absurd hi (h i _)⟩
  · simp only [List.not_mem_nil, false_iff]; rintro ⟨k, o, s, hi, _⟩; exact h i _ hi
  · simp only [List.not_mem_nil, false_iff]; rintro ⟨i, o, s, _, hi⟩; exact h i _ hi
theorem SInv.set {m n : Nat} {E : List (Option En)} {l : Ord} {M : List (ByteArray × Int)} {k : ByteArray} {o s : Nat} (h : SInv m E l M) (hn : E[n]? = some none) (hk : small k) (hk0 : k ≠ ByteArray.empty) :
    SInv m (E.set n (some (k, o, s))) (ins l n (o + s)) ((k, (n : Int)) :: M) := by
  have hnl : n < E.length := (List.getElem?_eq_some_iff.1 hn).1
  refine ⟨by rw [List.length_set]; exact h.len, fun i c => ?_, fun k' z => ?_, fun i k' o' s' hi => ?_⟩
  · rw [mem_ins_iff, h.ord]
    by_cases hi : n = i
    · subst hi
      rw [List.getElem?_set_self hnl]
      constructor
      · rintro (e | ⟨k', o', s', e, _⟩)
        · injection e with _ e; exact ⟨k, o, s, rfl, e⟩
        · rw [hn] at e; cases e
      · rintro ⟨k', o', s', e, rfl⟩
        injection e with e; injection e with e; injection e with _ e; injection e with e1 e2
        subst e1; subst e2
        exact .inl rfl
    · rw [List.getElem?_set_ne hi]
      constructor
      · rintro (e | e)
        · injection e with e _; exact absurd (by omega) hi
        · exact e
      · exact .inr
  · rw [List.mem_cons, h.idx]
    constructor
    · rintro (e | ⟨i, o', s', rfl, e⟩)
      · injection e with e1 e2
        subst e1; subst e2
        exact ⟨n, o, s, rfl, List.getElem?_set_self hnl⟩
      · have hi : n ≠ i := fun e' => by subst e'; rw [hn] at e; cases e
        exact ⟨i, o', s', rfl, by rw [List.getElem?_set_ne hi]; exact e⟩
    · rintro ⟨i, o', s', rfl, e⟩
      by_cases hi : n = i
      · subst hi
        rw [List.getElem?_set_self hnl] at e
        injection e with e; injection e with e; injection e with e _
        subst e
        exact .inl rfl
      · rw [List.getElem?_set_ne hi] at e
        exact .inr ⟨i, o', s', rfl, e⟩
  · by_cases hi' : n = i
    · subst hi'
      rw [List.getElem?_set_self hnl] at hi
      injection hi with hi; injection hi with hi; injection hi with e _
      subst e
      exact ⟨hk, hk0⟩
    · rw [List.getElem?_set_ne hi'] at hi
      exact h.sm i k' o' s' hi
theorem SInv.uniq {m i j : Nat} {E : List (Option En)} {l : Ord} {M : List (ByteArray × Int)} {k : ByteArray} {o s o' s' : Nat} (h : SInv m E l M) (hM : (keys M).Nodup) (h1 : E[i]? = some (some (k, o, s))) (h2 : E[j]? = some (some (k, o', s'))) : i = j := by
  have a1 := mget_some hM ((h.idx k i).2 ⟨i, o, s, rfl, h1⟩)
  have a2 := mget_some hM ((h.idx k j).2 ⟨j, o', s', rfl, h2⟩)
  rw [a1] at a2
  injection a2 with a2
  omega
theorem SInv.drop {m n : Nat} {E : List (Option En)} {l : Ord} {M : List (ByteArray × Int)} {k : ByteArray} {o s : Nat} (h : SInv m E l M) (hl : (ids l).Nodup) (hM : (keys M).Nodup) (hn : E[n]? = some (some (k, o, s))) :
    SInv m (E.set n none) (rem l n) (mdel M k) := by
  have hnl : n < E.length := (List.getElem?_eq_some_iff.1 hn).1
  refine ⟨by rw [List.length_set]; exact h.len, fun i c => ?_, fun k' z => ?_, fun i k' o' s' hi => ?_⟩
  · rw [mem_rem_iff hl, h.ord]
    by_cases hi : n = i
    · subst hi
      rw [List.getElem?_set_self hnl]
      constructor
      · rintro ⟨_, e⟩; exact absurd rfl e
      · rintro ⟨k', o', s', e, _⟩; cases e
    · rw [List.getElem?_set_ne hi]
      constructor
      · exact And.left
      · exact fun e => ⟨e, fun e' => hi (by have e' : (i : Int) = n := e'; omega)⟩
  · have hmm : (k', z) ∈ mdel M k ↔ (k', z) ∈ M ∧ k' ≠ k := by simp [mdel]
    rw [hmm, h.idx]
    constructor
    · rintro ⟨⟨i, o', s', rfl, e⟩, hk⟩
      have hi : n ≠ i := fun e' => by
        subst e'; rw [hn] at e; injection e with e; injection e with e; injection e with e _; exact hk e.symm
      exact ⟨i, o', s', rfl, by rw [List.getElem?_set_ne hi]; exact e⟩
    · rintro ⟨i, o', s', rfl, e⟩
      have hi : n ≠ i := fun e' => by subst e'; rw [List.getElem?_set_self hnl] at e; cases e
      rw [List.getElem?_set_ne hi] at e
      exact ⟨⟨i, o', s', rfl, e⟩, fun e' => by subst e'; exact hi (h.uniq hM hn e)⟩
  · have hi' : n ≠ i := fun e' => by subst e'; rw [List.getElem?_set_self hnl] at hi; cases hi
    rw [List.getElem?_set_ne hi'] at hi
    exact h.sm i k' o' s' hi
/-- The index has a place for each free number. -/
theorem SInv.room {m n : Nat} {E : List (Option En)} {l : Ord} {M : List (ByteArray × Int)} (h : SInv m E l M) (hM : (keys M).Nodup) (hn : E[n]? = some none) : M.length < m := by
  have hnl : n < E.length := (List.getElem?_eq_some_iff.1 hn).1
  have hnd : (M.map Prod.snd).Nodup := by
    have hMn : M.Nodup := (List.pairwise_map.1 hM).imp fun h e => h (by rw [e])
    refine (List.pairwise_map.2 ?_)
    refine hMn.imp_of_mem fun {a b} ha hb hab e => hab ?_
    obtain ⟨k1, z1⟩ := a
    obtain ⟨k2, z2⟩ := b
    obtain ⟨i, o, s, rfl, h1⟩ := (h.idx k1 z1).1 ha
    obtain ⟨j, o', s', rfl, h2⟩ := (h.idx k2 z2).1 hb
    have e : (i : Int) = j := e
    obtain rfl : i = j := by omega
    rw [h1] at h2
    injection h2 with h2; injection h2 with h2; injection h2 with h2 _
    rw [h2]
  have := range_lt (id := (n : Int)) (n := m) hnd (fun z hz => by
    obtain ⟨⟨k, z'⟩, hx, rfl⟩ := List.mem_map.1 hz
    obtain ⟨i, o, s, e, h1⟩ := (h.idx k z').1 hx
    have hi : i < E.length := (List.getElem?_eq_some_iff.1 h1).1
    rw [h.len] at hi
    dsimp only
    omega) (by have := h.len; omega) (fun hz => by
    obtain ⟨⟨k, z'⟩, hx, e'⟩ := List.mem_map.1 hz
    obtain ⟨i, o, s, e, h1⟩ := (h.idx k z').1 hx
    dsimp only at e'
    obtain rfl : i = n := by omega
    rw [hn] at h1; cases h1)
  rwa [List.length_map] at this

def svl (t m bR bX : Nat) (eV : Value) (E : List (Option En)) (base total : Nat) (rR rX : Res) : List Res :=
  [blk t [.pointer (some ⟨bR, 0, .none⟩), .pointer (some ⟨bX, 0, .none⟩), .int .i64 (m : Int), eV, .int .u64 (base : Int), .int .u64 (total : Int)] 101, row eV 46 3 m (ecells E), rR, rX]
/-- A table of tracked keys, in parts. -/
def SvL (t m : Nat) (E : List (Option En)) (l : Ord) (base total : Nat) (H : List Res) : Prop :=
  1 ≤ m ∧ m ≤ 64 ∧ ∃ bR bX eV rR rX M T, H = svl t m bR bX eV E base total rR rX ∧ RkO bR m l rR ∧ TbR xInt bX m T 0 M rX ∧ SInv m E l M
def SvR (t m : Nat) (E : List (Option En)) (l : Ord) (base total : Nat) (r : Res) : Prop := ∃ L, r = bun L ∧ SvL t m E l base total L

theorem build_table (m : Int) (bR bX : Nat) (A : Option Addr) (l c : Nat) (w : World) : (Instr.build 101 [(0, .agg #[.pointer (some ⟨bR, 0, .none⟩)]), (1, .agg #[.pointer (some ⟨bX, 0, .none⟩)]), (2, .int .i64 m), (3, .slice A l c)].toArray).run Tryz.prog w =
    .ok (.agg [.pointer (some ⟨bR, 0, .none⟩), .pointer (some ⟨bX, 0, .none⟩), .int .i64 m, .slice A l c, .int .u64 0, .int .u64 0].toArray) w := by kernel_rfl
theorem build_order (bR : Nat) (w : World) : (Instr.build 97 [(0, .pointer (some ⟨bR, 0, .none⟩))].toArray).run Tryz.prog w = .ok (.agg #[.pointer (some ⟨bR, 0, .none⟩)]) w := by kernel_rfl
theorem build_numbers (bX : Nat) (w : World) : (Instr.build 99 [(0, .pointer (some ⟨bX, 0, .none⟩))].toArray).run Tryz.prog w = .ok (.agg #[.pointer (some ⟨bX, 0, .none⟩)]) w := by kernel_rfl
theorem madeCellsE (n : Nat) : (madeCells (Value.agg #[.string ByteArray.empty, .int .u64 0, .int .u64 0]).cells (n * 3)).toList = ecells (List.replicate n none) := by
  have h : ∀ n, ((List.range (n * 3)).map fun i => (#[Value.string ByteArray.empty, .int .u64 0, .int .u64 0] : Array Value)[i % 3]!) = ecells (List.replicate n none) := by
    intro n
    induction n with
    | zero => rfl
    | succ n ih =>
      have e : ecells (List.replicate (n + 1) none) = ecells (List.replicate n none) ++ ecell none := by
        rw [List.replicate_succ', ecells, ecells, List.flatMap_append]; simp
      rw [e, Nat.succ_mul, ← ih, List.range_succ, List.range_succ, List.range_succ]
      simp only [List.map_append, List.map_cons, List.map_nil, List.append_assoc]
      congr 1
      have e0 : (n * 3) % 3 = 0 := by omega
      have e1 : (n * 3 + 1) % 3 = 1 := by omega
      have e2 : (n * 3 + 2) % 3 = 2 := by omega
      rw [e0, e1, e2]
      rfl
  rw [← h n]
  simp only [madeCells, Array.toList_map, Array.toList_range]
  rfl

theorem svnew_bad (n : Int) (w : World) (hn : n < 1 ∨ 64 < n) : Spec Tryz.prog 33 [.int .i64 n] w Nil fun r H => r = .tuple #[.pointer .none, .int .i64 1] ∧ H = [] := by
  refine enter (n := 39) Tryz.func33 rfl rfl [(0, _)] rfl ⟨rfl, trivial⟩ (Holds.start _ _) ?_
  refine w_seq ?_
  refine w_reg ?_
  refine wl_f (f_assign rfl) ?_
  refine wl_f (f_assign rfl) ?_
  refine wl_end [(0, _)] ⟨rfl, trivial⟩ ?_
  refine w_seq ?_
  refine w_seq ?_
  refine w_reg ?_
  refine wl_f (f_move rfl) ?_
  refine wl_f (f_lss rfl rfl) ?_
  refine wl_f (f_move rfl) ?_
  refine wl_or (j := 2) (c := decide (64 < n)) 2 [(0, _)] ⟨rfl, trivial⟩ rfl rfl rfl rfl rfl (fun hg1_5 => ?_) (fun w1_5 => ?_)
  · skip
    refine wl_gf rfl rfl (f_move rfl) ?_
    refine wl_gf rfl rfl (f_gtr rfl rfl) ?_
    exact wl_pend rfl rfl ⟨rfl, trivial⟩ (List.Sublist.refl _)
  refine wl_end [(0, _), (12, _)] ⟨rfl, rfl, trivial⟩ ?_
  refine w_ifb rfl (fun _ => ?_) (fun h => absurd (by simpa [Bool.or_eq_true] using hn) h)
  refine w_seq ?_
  refine w_reg ?_
  refine wl_f (f_assign rfl) ?_
  refine wl_f (f_assign rfl) ?_
  refine wl_end [(2, _), (3, _)] ⟨rfl, rfl, trivial⟩ ?_
  refine w_ret ?_
  refine ⟨_, _, fun a ha hh => results_tmps Tryz.results33 rfl a ha _, List.Sublist.refl _, ?_⟩
  exact ⟨rfl, rfl⟩
set_option maxHeartbeats 1000000 in
theorem svnew_ok (m : Nat) (w : World) (h1 : 1 ≤ m) (h2 : m ≤ 64) : Spec Tryz.prog 33 [.int .i64 m] w Nil fun r H => ∃ t r', r = .tuple #[.pointer (some ⟨t, 0, .none⟩), .int .i64 0] ∧ H = [r'] ∧ SvR t m (List.replicate m none) [] 0 0 r' := by
  refine enter (n := 39) Tryz.func33 rfl rfl [(0, _)] rfl ⟨rfl, trivial⟩ (Holds.start _ _) ?_
  refine w_seq ?_
  refine w_reg ?_
  refine wl_f (f_assign rfl) ?_
  refine wl_f (f_assign rfl) ?_
  refine wl_end [(0, _)] ⟨rfl, trivial⟩ ?_
  refine w_seq ?_
  refine w_seq ?_
  refine w_reg ?_
  refine wl_f (f_move rfl) ?_
  refine wl_f (f_lss rfl rfl) ?_
  refine wl_f (f_move rfl) ?_
  refine wl_or (j := 2) (c := decide (64 < (m : Int))) 2 [(0, _)] ⟨rfl, trivial⟩ rfl rfl rfl rfl rfl (fun hg1_5 => ?_) (fun w1_5 => ?_)
  · skip
    refine wl_gf rfl rfl (f_move rfl) ?_
    refine wl_gf rfl rfl (f_gtr rfl rfl) ?_
    exact wl_pend rfl rfl ⟨rfl, trivial⟩ (List.Sublist.refl _)
  refine wl_end [(0, _), (12, _)] ⟨rfl, rfl, trivial⟩ ?_
  refine w_ifb rfl (fun h => absurd h (by simp; omega)) (fun _ => ?_)
  refine w_skip ?_
  refine w_seq ?_
  refine w_reg ?_
  refine wl_f (f_move rfl) ?_
  refine wl_e (e_call0 rfl Tryz.func46 (by kernel_rfl) (fun w hh => rknew_ok m w (by omega) (by omega))) ?_
  rintro _ _ w1 ⟨_, rfl, bR, rR, rfl, rfl, hR⟩
  refine wl_f (f_move rfl) ?_
  refine wl_f (f_extract rfl rfl) ?_
  refine wl_f (f_extract rfl rfl) ?_
  refine wl_f (f_assign rfl) ?_
  refine wl_f (f_assign rfl) ?_
  refine wl_end [(0, _), (4, _), (5, _)] ⟨rfl, rfl, rfl, trivial⟩ ?_
  refine w_seq ?_
  refine w_seq ?_
  refine w_reg ?_
  refine wl_f (f_move rfl) ?_
  refine wl_f (f_neq rfl rfl) ?_
  refine wl_end [(0, _), (4, _), (5, _), (19, _)] ⟨rfl, rfl, rfl, rfl, trivial⟩ ?_
  refine w_ifb rfl (fun h => absurd h (by simp)) (fun _ => ?_)
  refine w_skip ?_
  refine w_seq ?_
  refine w_reg ?_
  refine wl_f (f_move rfl) ?_
  refine wl_e (e_make (l := 16) (cs := u64v (List.replicate 16 0)) rfl rfl t95 (by omega) (by omega) (made1 16).symm) ?_
  rintro _ _ w6_1 ⟨b6_1, rfl, rfl⟩
  refine wl_e (e_call0 rfl Tryz.func47 (by kernel_rfl) (fun w hh => ixnew_ok m (List.replicate 16 0) _ 0 w (by omega) (by omega) List.length_replicate (Rd.held0 hh (i := 0) rfl))) ?_
  rintro _ _ w2 ⟨_, rfl, bX, rX, rfl, rfl, hX⟩
  refine wl_f (f_move rfl) ?_
  refine wl_f (f_extract rfl rfl) ?_
  refine wl_f (f_extract rfl rfl) ?_
  refine wl_f (f_assign rfl) ?_
  refine wl_f (f_assign rfl) ?_
  refine wl_end [(0, _), (4, _), (5, _), (6, _)] ⟨rfl, rfl, rfl, rfl, trivial⟩ ?_
  refine w_seq ?_
  refine w_seq ?_
  refine w_reg ?_
  refine wl_f (f_move rfl) ?_
  refine wl_f (f_neq rfl rfl) ?_
  refine wl_end [(0, _), (4, _), (5, _), (6, _), (28, _)] ⟨rfl, rfl, rfl, rfl, rfl, trivial⟩ ?_
  refine w_ifb rfl (fun h => absurd h (by simp)) (fun _ => ?_)
  refine w_skip ?_
  refine w_seq ?_
  refine w_reg ?_
  refine wl_f (f_move rfl) ?_
  refine wl_f (f_build rfl (fun w => build_order _ w)) ?_
  refine wl_f (f_move rfl) ?_
  refine wl_f (f_build rfl (fun w => build_numbers _ w)) ?_
  refine wl_f (f_move rfl) ?_
  refine wl_f (f_move rfl) ?_
  refine wl_e (e_make (l := m) (cs := ecells (List.replicate m none)) rfl rfl t42 (by omega) (by omega) (madeCellsE m).symm) ?_
  rintro _ _ w9_6 ⟨b9_6, rfl, rfl⟩
  refine wl_f (f_build rfl (fun w => build_table _ _ _ _ _ _ w)) ?_
  refine wl_e (e_box (cs := [_, _, _, _, _, _]) rfl rfl) ?_
  rintro _ _ w9_8 ⟨b9_8, rfl, rfl⟩
  refine wl_f (f_assign rfl) ?_
  refine wl_f (f_assign rfl) ?_
  refine wl_end [(2, _), (3, _)] ⟨rfl, rfl, trivial⟩ ?_
  refine w_pick [0, 0, 2, 0] rfl ?_
  refine w_bun (H := []) [_, _, _, _] ?_
  refine w_ret ?_
  refine ⟨_, _, fun a ha hh => results_tmps Tryz.results33 rfl a ha _, List.Sublist.refl _, ?_⟩
  exact ⟨_, _, rfl, rfl, _, rfl, h1, h2, bR, bX, _, rR, rX, [], _, rfl, ⟨[], rfl, hR⟩, hX, SInv.new m⟩
end Go.Proofs.YtmagdjlcckgkpaaGreat
