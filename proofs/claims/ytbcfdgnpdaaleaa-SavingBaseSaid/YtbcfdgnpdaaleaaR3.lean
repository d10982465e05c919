/- Orders by count: of, has. -/
import Derived.Test.YtbcfdgnpdaaleaaR2
namespace Go.Proofs.Ytbcfdgnpdaaleaa
open Go.RowKit

theorem pcells_there {pl : List (Option (Nat × Nat))} {i : Nat} {o : Option (Nat × Nat)} (h : pl[i]? = some o) : (pcells pl)[0 + i * 3 + 0]? = some (.bool o.isSome) := by
  have h1 : (((pcells pl).drop (0 + i * 3)).take 3)[0]? = some (.bool o.isSome) := by rw [pcells_get h]; cases o <;> rfl
  rw [List.getElem?_take, if_pos (by omega), List.getElem?_drop] at h1
  exact h1
theorem mem_ids {l : Ord} {id : Int} : id ∈ ids l ↔ ∃ c, (id, c) ∈ l := by
  simp [ids]
theorem ids_flat {S : List Bk} {id : Int} : id ∈ ids (flat S) ↔ ∃ s ∈ S, ∃ y, (y, id) ∈ s.2.2.2 := by
  simp only [mem_ids, flat, List.mem_flatMap, bfl, List.mem_map, Prod.mk.injEq]
  constructor
  · rintro ⟨c, s, hs, p, hp, rfl, rfl⟩; exact ⟨s, hs, p.1, hp⟩
  · rintro ⟨s, hs, y, hy⟩; exact ⟨_, s, hs, _, hy, rfl, rfl⟩
theorem RInv.isIn {n : Nat} {S : List Bk} {pl : List (Option (Nat × Nat))} (h : RInv n S pl) (id : Int) : ((0 ≤ id ∧ id < n) ∧ ∃ x, pl[id.toNat]? = some (some x)) ↔ id ∈ ids (flat S) := by
  constructor
  · rintro ⟨h1, x, hx⟩
    refine Classical.byContradiction fun hn => ?_
    have := h.no id.toNat (by omega) (by rwa [show ((id.toNat : Nat) : Int) = id by omega])
    rw [hx] at this
    cases this
  · intro hi
    have h1 := h.rng id hi
    obtain ⟨s, hs, y, hy⟩ := ids_flat.1 hi
    exact ⟨h1, _, h.at_ s hs _ hy⟩

set_option maxHeartbeats 1000000 in
theorem rkhas_spec (b n : Nat) (S : List Bk) (r : Res) (id : Int) (w : World) (hr : RkR b n S r) (hs : Holds w r.foot [r] w) :
    Spec Try.prog 39 [.pointer (some ⟨b, 0, .none⟩), .int .i64 id] w r.foot fun v H => v = .bool (decide (id ∈ ids (flat S))) ∧ H = [r] := by
  obtain ⟨hn1, hn2, B, pV, pl, rB, rs, rfl, hrB, hrs, hI⟩ := hr
  have hpl := hI.len
  refine enter (n := 29) Try.func39 rfl rfl [(0, _), (1, _)] rfl ⟨rfl, rfl, trivial⟩ hs ?_
  refine w_with fun hh => ?_
  obtain ⟨g, cp, rfl⟩ := rowB_form hh (i := 0) (j := 1) rfl rfl (by omega)
  clear hh
  refine w_seq ?_
  refine w_reg ?_
  refine wl_f (f_assign rfl) ?_
  refine wl_end [(0, _), (1, _)] ⟨rfl, rfl, trivial⟩ ?_
  refine w_seq ?_
  refine w_reg ?_
  refine wl_f (f_move rfl) ?_
  refine wl_f (f_neqnil rfl rfl Try.underlying56) ?_
  refine wl_f (f_move rfl) ?_
  refine wl_and (j := 2) (c := decide (0 ≤ id)) 2 [(0, _), (1, _)] ⟨rfl, rfl, trivial⟩ rfl rfl rfl rfl rfl (fun hg1_5 => ?_) (fun w1_5 => ?_)
  · skip
    refine wl_gf rfl rfl (f_move rfl) ?_
    refine wl_gf rfl rfl (f_geq rfl rfl) ?_
    exact wl_pend rfl rfl ⟨rfl, rfl, trivial⟩ (List.Sublist.refl _)
  refine wl_f (f_move rfl) ?_
  refine wl_and (j := 6) (c := decide (id < (n : Int))) 6 [(0, _), (1, _)] ⟨rfl, rfl, trivial⟩ rfl rfl rfl rfl rfl (fun hg1_13 => ?_) (fun w1_13 => ?_)
  · skip
    refine wl_gf rfl rfl (f_move rfl) ?_
    refine wl_gf rfl rfl (f_move rfl) ?_
    refine wl_gf rfl rfl (f_nilCheck rfl) ?_
    refine wl_gf rfl rfl (f_fieldAddr 0 rfl Try.underlying92 rfl rfl (by kernel_rfl)) ?_
    refine wl_gf rfl rfl (f_loadB 0 0 rfl rfl rfl Try.underlying3 rfl rfl) ?_
    refine wl_gf rfl rfl (f_lss rfl rfl) ?_
    exact wl_pend rfl rfl ⟨rfl, rfl, trivial⟩ (List.Sublist.refl _)
  refine wl_f (f_move rfl) ?_
  refine wl_and (j := 14) (c := (pl.getD id.toNat none).isSome) 8 [] trivial rfl rfl rfl rfl rfl (fun hg1_23 => ?_) (fun w1_23 => ?_)
  · skip
    refine wl_gf rfl rfl (f_move rfl) ?_
    refine wl_gf rfl rfl (f_nilCheck rfl) ?_
    refine wl_gf rfl rfl (f_fieldAddr 3 rfl Try.underlying92 rfl rfl (by kernel_rfl)) ?_
    refine wl_gf rfl rfl (f_loadB 0 0 rfl rfl rfl Try.underlying90 rfl rfl) ?_
    refine wl_gf rfl rfl (f_move rfl) ?_
    simp only [Bool.and_eq_true, decide_eq_true_eq] at hg1_23
    obtain ⟨x, rfl⟩ : ∃ x : Nat, id = x := ⟨id.toNat, by omega⟩
    obtain ⟨o, ho⟩ : ∃ o, pl[x]? = some o := ⟨_, List.getElem?_eq_getElem (by omega)⟩
    refine wl_gf rfl rfl (f_indexAddr 3 (i := x) rfl rfl Try.underlying90 (by kernel_rfl) rfl (by omega)) ?_
    refine wl_gf rfl rfl (f_fieldAddr 0 rfl Try.underlying102 rfl rfl (by kernel_rfl)) ?_
    refine wl_gf rfl rfl (f_eqv (v' := .bool (pl.getD ((x : Int).toNat) none).isSome) (f_loadBr (v := .bool o.isSome) 0 1 rfl rfl rfl Try.underlying4 rfl (pcells_there ho)) (by simp [ho])) ?_
    exact wl_pend rfl rfl trivial (List.Sublist.refl _)
  refine wl_f (f_assign rfl) ?_
  refine wl_end [(4, _)] ⟨rfl, trivial⟩ ?_
  refine w_ret ?_
  refine ⟨_, _, fun a ha hh => results_tmps Try.results39 rfl a ha _, List.Sublist.refl _, ?_⟩
  refine ⟨?_, rfl⟩
  show Value.bool _ = _
  congr 1
  rw [Bool.eq_iff_iff]
  simp only [Bool.and_eq_true, decide_eq_true_eq, ← hI.isIn id]
  constructor
  · rintro ⟨⟨⟨_, h1⟩, h2⟩, h3⟩
    refine ⟨⟨h1, h2⟩, ?_⟩
    rw [List.getD_eq_getElem?_getD] at h3
    cases ho : pl[id.toNat]? with
    | none => rw [ho] at h3; cases h3
    | some o => rw [ho] at h3; cases o with
      | none => cases h3
      | some x => exact ⟨x, rfl⟩
  · rintro ⟨⟨h1, h2⟩, x, hx⟩
    exact ⟨⟨⟨rfl, h1⟩, h2⟩, by rw [List.getD_eq_getElem?_getD, hx]; rfl⟩

set_option maxHeartbeats 1000000 in
theorem rkofg_spec (b n len : Nat) (A : List Bk) (s : Bk) (C : List Bk) (B : Nat) (pV : Value) (pl : List (Option (Nat × Nat))) (rB : Res) (rs : List Res) (w : World) (hrB : ChR kBuc B n (bks (A ++ s :: C)) rB) (hs : Holds w (bun (rkg b n len B pV pl rB rs)).foot [bun (rkg b n len B pV pl rB rs)] w) :
    Spec Try.prog 40 [.pointer (some ⟨b, 0, .none⟩), .int .i64 (s.1 : Int)] w (bun (rkg b n len B pV pl rB rs)).foot fun v H => v = .agg #[.int .u64 (s.2.1 : Int), .pointer (some ⟨s.2.2.1, 0, .none⟩)] ∧ H = [bun (rkg b n len B pV pl rB rs)] := by
  rw [bks_app, bks_cons] at hrB
  refine enter (n := 17) Try.func40 rfl rfl [(0, _), (1, _)] rfl ⟨rfl, rfl, trivial⟩ hs ?_
  refine w_unb (rkg b n len B pV pl rB rs) ?_
  refine w_seq ?_
  refine w_reg ?_
  refine wl_e (e_allocs [.int .u64 0, .pointer .none] (by kernel_rfl)) ?_
  rintro _ _ w0_0 ⟨b0_0, rfl, rfl⟩
  refine wl_end [(0, _), (1, _), (4, _)] ⟨rfl, rfl, rfl, trivial⟩ ?_
  refine w_seq ?_
  refine w_reg ?_
  refine wl_f (f_move rfl) ?_
  refine wl_f (f_nilCheck rfl) ?_
  refine wl_f (f_fieldAddr 2 rfl Try.underlying92 rfl rfl (by kernel_rfl)) ?_
  (first | refine wl_f (f_loadb 0 rfl Try.underlying84 rfl rfl rfl) ?_ | refine wl_f (f_loadb 1 rfl Try.underlying84 rfl rfl rfl) ?_ | refine wl_f (f_loadb 2 rfl Try.underlying84 rfl rfl rfl) ?_ | refine wl_f (f_loadb 3 rfl Try.underlying84 rfl rfl rfl) ?_ | refine wl_f (f_loadb 4 rfl Try.underlying84 rfl rfl rfl) ?_ | refine wl_f (f_loadb 5 rfl Try.underlying84 rfl rfl rfl) ?_ | refine wl_f (f_loadb 6 rfl Try.underlying84 rfl rfl rfl) ?_)
  refine wl_f (f_move rfl) ?_
  refine wl_e (e_call1 rB [_, _, _, _] rfl Try.func52 (by kernel_rfl) (pk1 3 rfl) (fun w hh hs' => bValue_spec B n _ s.1 rB w hrB hs')) ?_
  rintro _ _ w1 ⟨_, rfl, rfl, hv⟩
  obtain rfl := hv.ok hrB.nd
  refine wl_f (f_move rfl) ?_
  refine wl_f (f_extract rfl rfl) ?_
  refine wl_f (f_extract rfl rfl) ?_
  refine wl_e (e_allocs [.int .u64 0, .pointer .none] (by kernel_rfl)) ?_
  rintro _ _ w1_9 ⟨b1_9, rfl, rfl⟩
  (first | refine wl_e0 (e_store0 (us := [_, _]) rfl rfl rfl (by kernel_rfl) (by simp [Value.oneCell']) rfl rfl) ?_ | refine wl_e0 (e_store1 (us := [_, _]) rfl rfl rfl (by kernel_rfl) (by simp [Value.oneCell']) rfl rfl) ?_ | refine wl_e0 (e_store2 (us := [_, _]) rfl rfl rfl (by kernel_rfl) (by simp [Value.oneCell']) rfl rfl) ?_ | refine wl_e0 (e_store3 (us := [_, _]) rfl rfl rfl (by kernel_rfl) (by simp [Value.oneCell']) rfl rfl) ?_)
  rintro _ _ w1_10 rfl
  refine wl_f (f_assign rfl) ?_
  refine wl_end [(4, _), (5, _)] ⟨rfl, rfl, trivial⟩ ?_
  refine w_seq ?_
  refine w_reg ?_
  (first | refine wl_f (f_loadsb (cs := [_, _]) 0 rfl Try.underlying89 rfl (by kernel_rfl) rfl rfl) ?_ | refine wl_f (f_loadsb (cs := [_, _]) 1 rfl Try.underlying89 rfl (by kernel_rfl) rfl rfl) ?_ | refine wl_f (f_loadsb (cs := [_, _]) 2 rfl Try.underlying89 rfl (by kernel_rfl) rfl rfl) ?_ | refine wl_f (f_loadsb (cs := [_, _]) 3 rfl Try.underlying89 rfl (by kernel_rfl) rfl rfl) ?_ | refine wl_f (f_loadsb (cs := [_, _]) 4 rfl Try.underlying89 rfl (by kernel_rfl) rfl rfl) ?_ | refine wl_f (f_loadsb (cs := [_, _]) 5 rfl Try.underlying89 rfl (by kernel_rfl) rfl rfl) ?_ | refine wl_f (f_loadsb (cs := [_, _]) 6 rfl Try.underlying89 rfl (by kernel_rfl) rfl rfl) ?_)
  (first | refine wl_e0 (e_store0 (us := [_, _]) rfl rfl rfl (by kernel_rfl) (by simp [Value.oneCell']) rfl rfl) ?_ | refine wl_e0 (e_store1 (us := [_, _]) rfl rfl rfl (by kernel_rfl) (by simp [Value.oneCell']) rfl rfl) ?_ | refine wl_e0 (e_store2 (us := [_, _]) rfl rfl rfl (by kernel_rfl) (by simp [Value.oneCell']) rfl rfl) ?_ | refine wl_e0 (e_store3 (us := [_, _]) rfl rfl rfl (by kernel_rfl) (by simp [Value.oneCell']) rfl rfl) ?_)
  rintro _ _ w2_1 rfl
  refine wl_end [(4, _)] ⟨rfl, trivial⟩ ?_
  refine w_pick [3, 3, 1, 2, 1] rfl ?_
  refine w_bun (H := [_]) [_, _, _, _] ?_
  refine w_pick [1, 0] rfl ?_
  refine w_ret ?_
  refine ⟨_, _, fun a ha hh => results_cell 0 Try.results40 rfl a ha hh Try.underlying89 rfl (by kernel_rfl) rfl, List.sublist_cons_self .., ?_⟩
  exact ⟨rfl, rfl⟩
theorem rkof_spec (b n : Nat) (A : List Bk) (s : Bk) (C : List Bk) (r : Res) (w : World) (hr : RkR b n (A ++ s :: C) r) (hs : Holds w r.foot [r] w) :
    Spec Try.prog 40 [.pointer (some ⟨b, 0, .none⟩), .int .i64 (s.1 : Int)] w r.foot fun v H => v = .agg #[.int .u64 (s.2.1 : Int), .pointer (some ⟨s.2.2.1, 0, .none⟩)] ∧ H = [r] := by
  obtain ⟨hn1, hn2, B, pV, pl, rB, rs, rfl, hrB, hrs, hI⟩ := hr
  exact rkofg_spec b n _ A s C B pV pl rB rs w hrB hs
end Go.Proofs.Ytbcfdgnpdaaleaa
