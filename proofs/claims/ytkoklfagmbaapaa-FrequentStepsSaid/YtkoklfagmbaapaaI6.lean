/- Tables: taking out. -/
import Derived.Test.YtkoklfagmbaapaaI5
namespace Go.Proofs.Ytkoklfagmbaapaa
open Go.RowKit

theorem GInv.occ_ne {α : Type} {hf : ByteArray → Nat} {N g j e : Nat} {cs : Cells α} (h : GInv hf N cs g j) (he : cs[e]? = some none) : g ≠ e := fun h' => by
  obtain ⟨x, hx⟩ := h.occ
  rw [h', he] at hx
  cases hx

theorem build_ucell0 (w : World) : (Instr.build 92 #[]).run Try.prog w = .ok (.agg [.bool false, .string ByteArray.empty, xU64.val xU64.zero].toArray) w := by kernel_rfl
set_option maxHeartbeats 4000000 in
theorem uxdelete_spec (b n : Nat) (T : List Nat) (seed : Int) (M : List (ByteArray × Nat)) (r : Res) (k : ByteArray) (w : World) (hk : small k) (hr : TbR xU64 b n T seed M r) (hs : Holds w r.foot [r] w) :
    Spec Try.prog 39 [.pointer (some ⟨b, 0, .none⟩), .string k] w r.foot fun v H => v = .tuple #[xU64.val ((mget M k).getD xU64.zero), .bool (mget M k).isSome] ∧ ∃ r', H = [r'] ∧ TbR xU64 b n T seed (mdel M k) r' := by
  have hr0 := hr
  obtain ⟨N, cs, hC, hI, hM, hle, hsm⟩ := hr
  obtain ⟨hn1, hn2, hN, hT, hcl, tV, cV, rfl⟩ := id hC
  have hhs : ∀ κ, hslot T seed N κ < N := fun κ => hslot_lt T seed (by omega) κ
  have hh0 := hhs k
  refine enter (n := 106) Try.func39 rfl rfl [(0, _), (1, _)] rfl ⟨rfl, rfl, trivial⟩ hs ?_
  refine w_seq ?_
  refine w_reg ?_
  refine wl_f (f_assign rfl) ?_
  refine wl_f (f_assign rfl) ?_
  refine wl_end [(0, _), (1, _)] ⟨rfl, rfl, trivial⟩ ?_
  refine w_seq ?_
  refine w_reg ?_
  refine wl_f (f_assign rfl) ?_
  refine wl_end [(0, _), (1, _), (6, _)] ⟨rfl, rfl, rfl, trivial⟩ ?_
  refine w_seq ?_
  refine w_seq ?_
  refine w_reg ?_
  refine wl_f (f_move rfl) ?_
  refine wl_f (f_eqlnil rfl rfl Try.underlying61) ?_
  refine wl_end [(0, _), (1, _), (6, _), (13, _)] ⟨rfl, rfl, rfl, rfl, trivial⟩ ?_
  refine w_iff rfl ?_
  refine w_skip ?_
  refine w_seq ?_
  refine w_reg ?_
  refine wl_f (f_move rfl) ?_
  refine wl_f (f_move rfl) ?_
  refine wl_e (e_call1 _ [] rfl Try.func50 (by kernel_rfl) (List.Perm.refl _) (fun w hh hs' => ufind_spec b n N _ T seed cs _ k w hk (by omega) hC hs')) ?_
  rintro _ _ w4 ⟨_, rfl, hf, rfl⟩
  obtain ⟨p, ok, rfl, hp, hok, hno⟩ := hf.form hcl hh0
  refine wl_f (f_move rfl) ?_
  refine wl_f (f_extract rfl rfl) ?_
  refine wl_f (f_extract rfl rfl) ?_
  refine wl_f (f_assign rfl) ?_
  refine wl_f (f_assign rfl) ?_
  refine wl_end [(0, _), (6, _), (7, _), (8, _)] ⟨rfl, rfl, rfl, rfl, trivial⟩ ?_
  refine w_seq ?_
  refine w_seq ?_
  refine w_reg ?_
  refine wl_f (f_move rfl) ?_
  refine wl_f (f_not rfl rfl) ?_
  refine wl_end [(0, _), (6, _), (7, _), (22, _)] ⟨rfl, rfl, rfl, rfl, trivial⟩ ?_
  refine w_ifb rfl (fun hc2 => ?_) (fun hc2 => ?_)
  · skip
    obtain ⟨i, hi, rfl, he, h1, h2⟩ := hno (by simpa using hc2)
    have hab := hI.absent hh0 hi he h1
    have hab' : k ∉ keys M := fun h => hab ((keys_in hM).1 h)
    refine w_seq ?_
    refine w_reg ?_
    refine wl_f (f_move rfl) ?_
    refine wl_f (f_assign rfl) ?_
    refine wl_f (f_assign rfl) ?_
    refine wl_end [(4, _), (5, _)] ⟨rfl, rfl, trivial⟩ ?_
    refine w_ret ?_
    refine ⟨_, _, fun a ha hh => results_tmps Try.results39 rfl a ha _, List.Sublist.refl _, ?_⟩
    rw [mget_none hab', mdel_none hab']; exact ⟨rfl, _, rfl, hr0⟩
  · skip
    obtain ⟨y, hy⟩ := hok (by simpa using hc2)
    have hnd : (keys M).Nodup := (keys_perm hM).nodup_iff.1 hI.nd
    have hg := mget_some hnd (at_mem hy hM)
    have hrest := rest_perm hI.nd hy hM
    have hp0 := ents_set_none hy
    obtain ⟨len1, hlen1⟩ : ∃ l, (ents (cs.set p none)).length = l := ⟨_, rfl⟩
    have hlen0 : (ents cs).length = len1 + 1 := by rw [hp0.length_eq, List.length_cons, hlen1]
    obtain ⟨e, heN, he⟩ := free_place (cs := cs) (by omega)
    rw [hcl] at heN
    have hep : e ≠ p := fun h => by rw [h, hy] at he; cases he
    have hD1 := dst_pos hp heN hep
    have hde := adv_dst hp heN
    have hdl := dst_lt hp heN
    generalize hD : dst N p e = D at hde hdl hD1
    rw [hg]
    refine w_with fun hh => ?_
    obtain ⟨g0, cc, e2⟩ := rowB_form hh (i := 0) (j := 2) rfl rfl (by omega)
    subst e2
    clear hh
    refine w_skip ?_
    refine w_seq ?_
    refine w_reg ?_
    refine wl_f (f_move rfl) ?_
    refine wl_f (f_nilCheck rfl) ?_
    refine wl_f (f_fieldAddr 4 rfl Try.underlying86 rfl rfl (by kernel_rfl)) ?_
    refine wl_f (f_loadB 0 0 rfl rfl rfl Try.underlying84 rfl rfl) ?_
    refine wl_f (f_move rfl) ?_
    refine wl_f (f_indexAddr 3 (i := p) rfl rfl Try.underlying84 (by kernel_rfl) rfl hp) ?_
    refine wl_f (f_fieldAddr 2 rfl Try.underlying92 rfl rfl (by kernel_rfl)) ?_
    refine wl_f (f_loadBr (v := xU64.val y) 0 2 rfl rfl rfl Try.underlying33 rfl (icells_j xU64 hy 2 rfl (by omega))) ?_
    refine wl_f (f_assign rfl) ?_
    refine wl_end [(0, _), (7, _), (9, _)] ⟨rfl, rfl, rfl, trivial⟩ ?_
    refine w_seq ?_
    refine w_unb (H := []) (ims xU64 b n N _ T seed tV (.slice (some ⟨g0, 0, .none⟩) N cc) cs) ?_
    refine w_reg ?_
    refine wl_f (f_move rfl) ?_
    refine wl_f (f_nilCheck rfl) ?_
    refine wl_f (f_fieldAddr 1 rfl Try.underlying86 rfl rfl (by kernel_rfl)) ?_
    (first | refine wl_f (f_loadb 0 rfl Try.underlying3 rfl rfl rfl) ?_ | refine wl_f (f_loadb 1 rfl Try.underlying3 rfl rfl rfl) ?_ | refine wl_f (f_loadb 2 rfl Try.underlying3 rfl rfl rfl) ?_ | refine wl_f (f_loadb 3 rfl Try.underlying3 rfl rfl rfl) ?_ | refine wl_f (f_loadb 4 rfl Try.underlying3 rfl rfl rfl) ?_ | refine wl_f (f_loadb 5 rfl Try.underlying3 rfl rfl rfl) ?_ | refine wl_f (f_loadb 6 rfl Try.underlying3 rfl rfl rfl) ?_)
    refine wl_f (f_eqv (v' := .int .i64 (len1 : Nat)) (f_sub rfl rfl (by omega)) (by rw [hlen0]; congr 1; omega)) ?_
    refine wl_f (f_nilCheck rfl) ?_
    refine wl_f (f_fieldAddr 1 rfl Try.underlying86 rfl rfl (by kernel_rfl)) ?_
    (first | refine wl_e0 (e_store0 (us := [_]) rfl rfl rfl (by kernel_rfl) (by simp [Value.oneCell']) rfl rfl) ?_ | refine wl_e0 (e_store1 (us := [_]) rfl rfl rfl (by kernel_rfl) (by simp [Value.oneCell']) rfl rfl) ?_ | refine wl_e0 (e_store2 (us := [_]) rfl rfl rfl (by kernel_rfl) (by simp [Value.oneCell']) rfl rfl) ?_ | refine wl_e0 (e_store3 (us := [_]) rfl rfl rfl (by kernel_rfl) (by simp [Value.oneCell']) rfl rfl) ?_)
    rintro _ _ w8_7 rfl
    refine wl_bun (H := []) [_, _, _] ?_
    refine wl_end [(0, _), (7, _), (9, _)] ⟨rfl, rfl, rfl, trivial⟩ ?_
    refine w_seq ?_
    refine w_reg ?_
    refine wl_f (f_move rfl) ?_
    refine wl_f (f_nilCheck rfl) ?_
    refine wl_f (f_fieldAddr 4 rfl Try.underlying86 rfl rfl (by kernel_rfl)) ?_
    refine wl_f (f_loadB 0 0 rfl rfl rfl Try.underlying84 rfl rfl) ?_
    refine wl_f (f_len rfl Try.underlying84) ?_
    refine wl_f (f_assign rfl) ?_
    refine wl_end [(0, _), (7, _), (9, _), (10, _)] ⟨rfl, rfl, rfl, rfl, trivial⟩ ?_
    refine w_seq ?_
    refine w_seq ?_
    refine w_reg ?_
    refine wl_f (f_move rfl) ?_
    refine wl_f (f_add rfl rfl (by omega)) ?_
    refine wl_f (f_move rfl) ?_
    refine wl_f (f_eqv (v' := .int .i64 (adv N p 1 : Nat)) (f_rem rfl rfl (by omega)) (by rw [adv_int hp (by omega)])) ?_
    refine wl_f (f_assign rfl) ?_
    refine wl_end [(0, _), (7, _), (9, _), (10, _), (11, _)] ⟨rfl, rfl, rfl, rfl, rfl, trivial⟩ ?_
    refine w_block ?_
    refine w_loop (fun kk m H w => ∃ (cs' : Cells Nat) (t j : Nat), m = [(0, .pointer (some ⟨b, 0, .none⟩)), (7, .int .i64 (adv N p t : Nat)), (9, xU64.val y), (10, .int .i64 (N : Nat)), (11, .int .i64 (adv N p (t + j) : Nat))] ∧
      H = [bun (ims xU64 b n N len1 T seed tV (.slice (some ⟨g0, 0, .none⟩) N cc) cs')] ∧ GInv (hslot T seed N) N cs' (adv N p t) j ∧ 1 ≤ j ∧ t + j ≤ D ∧ kk + (t + j) = D ∧ cs'[adv N p D]? = some none ∧ (ents (cs'.set (adv N p t) none)).Perm (mdel M k) ∧
      ∀ (q : Nat) (x : ByteArray × Nat), cs'[q]? = some (some x) → small x.1) (D - 1)
      ⟨cs, 0, 1, by rw [adv_zero hp], rfl, by rw [adv_zero hp]; exact GInv.start hI hy, Nat.le_refl _, by omega, by omega, by rw [hde]; exact he, by rw [adv_zero hp]; exact hrest, fun q x hx => hsm x (mem_ents.2 ⟨q, hx⟩)⟩ ?_
    rintro kk _ _ w5 ⟨cs', t, j, rfl, rfl, hG, hj1, htj, hkk, heD, hper, hsm'⟩
    have hgN := adv_lt hp (show t < N by omega)
    have hnN := adv_lt hp (show t + j < N by omega)
    have hadv : adv N (adv N p t) j = adv N p (t + j) := adv_adv hp (by omega)
    have hcl' := hG.len
    obtain ⟨o, ho⟩ : ∃ o, cs'[adv N p (t + j)]? = some o := ⟨_, List.getElem?_eq_getElem (by omega)⟩
    refine w_seq ?_
    refine w_seq ?_
    refine w_reg ?_
    refine wl_f (f_move rfl) ?_
    refine wl_f (f_nilCheck rfl) ?_
    refine wl_f (f_fieldAddr 4 rfl Try.underlying86 rfl rfl (by kernel_rfl)) ?_
    refine wl_f (f_loadB 0 0 rfl rfl rfl Try.underlying84 rfl rfl) ?_
    refine wl_f (f_move rfl) ?_
    refine wl_f (f_indexAddr 3 (i := adv N p (t + j)) rfl rfl Try.underlying84 (by kernel_rfl) rfl hnN) ?_
    refine wl_f (f_fieldAddr 0 rfl Try.underlying92 rfl rfl (by kernel_rfl)) ?_
    refine wl_f (f_loadBr (v := .bool o.isSome) 0 2 rfl rfl rfl Try.underlying4 rfl (icells_j xU64 ho 0 (by cases o <;> rfl) (by omega))) ?_
    refine wl_end [(0, _), (7, _), (9, _), (10, _), (11, _), (55, _)] ⟨rfl, rfl, rfl, rfl, rfl, rfl, trivial⟩ ?_
    refine w_ifb rfl (fun hc3 => ?_) (fun hc3 => ?_)
    · skip
      obtain ⟨⟨κ, vx⟩, rfl⟩ : ∃ x, o = some x := Option.isSome_iff_exists.1 hc3
      have hiD : t + j ≠ D := fun e => by rw [e, heD] at ho; cases ho
      have hκ := hhs κ
      have hsκ := hsm' _ _ ho
      have hdN := dst_lt hκ hnN
      have ho' : cs'[adv N (adv N p t) j]? = some (some (κ, vx)) := by rw [hadv]; exact ho
      have hdj : dst N (adv N p t) (adv N p (t + j)) = j := by rw [← hadv, dst_adv hgN (by omega)]
      have hC' : TbC xU64 b n N len1 T seed cs' (bun (ims xU64 b n N len1 T seed tV (.slice (some ⟨g0, 0, .none⟩) N cc) cs')) := ⟨hn1, hn2, hN, hT, hcl', _, _, rfl⟩
      refine w_skip ?_
      refine w_seq ?_
      refine w_post (fun m H w => ∃ (cs2 : Cells Nat) (t2 j2 : Nat), m = [(0, .pointer (some ⟨b, 0, .none⟩)), (7, .int .i64 (adv N p t2 : Nat)), (9, xU64.val y), (10, .int .i64 (N : Nat)), (11, .int .i64 (adv N p (t + j) : Nat))] ∧
        H = [bun (ims xU64 b n N len1 T seed tV (.slice (some ⟨g0, 0, .none⟩) N cc) cs2)] ∧ GInv (hslot T seed N) N cs2 (adv N p t2) j2 ∧ 1 ≤ j2 ∧ t2 + j2 = t + j + 1 ∧ cs2[adv N p D]? = some none ∧ (ents (cs2.set (adv N p t2) none)).Perm (mdel M k) ∧
        ∀ (q : Nat) (x : ByteArray × Nat), cs2[q]? = some (some x) → small x.1) ?_ ?_
      · skip
        refine w_block ?_
        refine w_seq ?_
        refine w_drawk [(0, true), (1, true), (2, true), (3, true), (4, true), (5, true), (6, true), (7, true), (8, true), (9, true), (12, true), (14, true), (16, true), (17, true), (18, true), (19, true), (20, true), (21, true), (22, true), (10, false), (11, true), (13, true), (15, true), (23, true)] ([(_, some 10)]) ([]) mixed (by kernel_rfl) (by kernel_rfl) rfl rfl (List.Perm.refl _) (fun w13_ => ?_)
        refine wk_f rfl (f_move rfl) ?_
        refine wk_f rfl (f_move rfl) ?_
        refine wk_f rfl (f_move rfl) ?_
        refine wk_f rfl (f_nilCheck rfl) ?_
        refine wk_f rfl (f_fieldAddr 4 rfl Try.underlying86 rfl rfl (by kernel_rfl)) ?_
        refine wk_f rfl (f_loadB 0 0 rfl rfl rfl Try.underlying84 rfl rfl) ?_
        refine wk_f rfl (f_move rfl) ?_
        refine wk_f rfl (f_indexAddr 3 (i := adv N p (t + j)) rfl rfl Try.underlying84 (by kernel_rfl) rfl hnN) ?_
        refine wk_f rfl (f_fieldAddr 1 rfl Try.underlying92 rfl rfl (by kernel_rfl)) ?_
        refine wk_f rfl (f_loadBr (v := .string κ) 0 2 rfl rfl rfl Try.underlying9 rfl (icells_j xU64 ho 1 rfl (by omega))) ?_
        refine wk_f rfl (f_move rfl) ?_
        refine wk_f rfl (f_move rfl) ?_
        refine wk_f rfl (f_move rfl) ?_
        refine wk_f rfl (f_move rfl) ?_
        refine wk_f rfl (f_sub rfl rfl (by omega)) ?_
        refine wk_f rfl (f_move rfl) ?_
        refine wk_f rfl (f_add rfl rfl (by omega)) ?_
        refine wk_f rfl (f_move rfl) ?_
        refine wk_f rfl (f_eqv (v' := .int .i64 (j : Nat)) (f_rem rfl rfl (by omega)) (by rw [dst_int hgN hnN, hdj])) ?_
        refine wk_e rfl (e_call1 _ [] rfl Try.func53 (by kernel_rfl) (List.Perm.refl _) (fun w hh hs' => uhome_spec b n N _ T seed cs' _ κ w hsκ hC' hs')) ?_
        rintro _ _ w13 ⟨_, rfl, rfl, rfl⟩
        refine ⟨_, List.Perm.refl _, ?_⟩
        refine wk_f rfl (f_sub rfl rfl (by omega)) ?_
        refine wk_f rfl (f_add rfl rfl (by omega)) ?_
        refine wk_f rfl (f_eqv (v' := .int .i64 (dst N (hslot T seed N κ) (adv N p (t + j)) : Nat)) (f_rem rfl rfl (by omega)) (by rw [dst_int hκ hnN])) ?_
        refine wk_f rfl (f_geq rfl rfl) ?_
        refine wk_end [(0, _), (7, _), (9, _), (10, _), (11, _), (83, _)] ⟨rfl, rfl, rfl, rfl, rfl, rfl, trivial⟩ ?_
        refine w_ifd rfl (fun hc4 => ?_) (fun hc4 => ?_)
        · skip
          have hmv := hG.move hhs hj1 (by omega) ho' (by
            rw [hadv]
            have : (j : Int) ≤ (dst N (hslot T seed N κ) (adv N p (t + j)) : Nat) := hc4
            omega)
          rw [hadv] at hmv
          refine w_seq ?_
          refine w_unb (H := []) (ims xU64 b n N _ T seed tV (.slice (some ⟨g0, 0, .none⟩) N cc) cs') ?_
          refine w_pick [2, 0, 0] rfl ?_
          refine w_drawk [(0, true), (1, true), (2, true), (3, true), (4, true), (5, true), (6, true), (7, true), (8, true), (9, true), (10, true), (11, true), (12, true), (13, false)] ([(_, some 13), (_, none), (_, none)]) ([]) mixed (by kernel_rfl) (by kernel_rfl) rfl rfl (List.Perm.refl _) (fun w14_ => ?_)
          refine wk_f rfl (f_move rfl) ?_
          refine wk_f rfl (f_nilCheck rfl) ?_
          refine wk_f rfl (f_fieldAddr 4 rfl Try.underlying86 rfl rfl (by kernel_rfl)) ?_
          (first | refine wk_f rfl (f_loadb 0 rfl Try.underlying84 rfl rfl rfl) ?_ | refine wk_f rfl (f_loadb 1 rfl Try.underlying84 rfl rfl rfl) ?_ | refine wk_f rfl (f_loadb 2 rfl Try.underlying84 rfl rfl rfl) ?_ | refine wk_f rfl (f_loadb 3 rfl Try.underlying84 rfl rfl rfl) ?_ | refine wk_f rfl (f_loadb 4 rfl Try.underlying84 rfl rfl rfl) ?_ | refine wk_f rfl (f_loadb 5 rfl Try.underlying84 rfl rfl rfl) ?_ | refine wk_f rfl (f_loadb 6 rfl Try.underlying84 rfl rfl rfl) ?_)
          refine wk_f rfl (f_move rfl) ?_
          refine wk_f rfl (f_move rfl) ?_
          refine wk_f rfl (f_nilCheck rfl) ?_
          refine wk_f rfl (f_fieldAddr 4 rfl Try.underlying86 rfl rfl (by kernel_rfl)) ?_
          (first | refine wk_f rfl (f_loadb 0 rfl Try.underlying84 rfl rfl rfl) ?_ | refine wk_f rfl (f_loadb 1 rfl Try.underlying84 rfl rfl rfl) ?_ | refine wk_f rfl (f_loadb 2 rfl Try.underlying84 rfl rfl rfl) ?_ | refine wk_f rfl (f_loadb 3 rfl Try.underlying84 rfl rfl rfl) ?_ | refine wk_f rfl (f_loadb 4 rfl Try.underlying84 rfl rfl rfl) ?_ | refine wk_f rfl (f_loadb 5 rfl Try.underlying84 rfl rfl rfl) ?_ | refine wk_f rfl (f_loadb 6 rfl Try.underlying84 rfl rfl rfl) ?_)
          refine wk_f rfl (f_move rfl) ?_
          refine wk_f rfl (f_indexAddr 3 (i := adv N p (t + j)) rfl rfl Try.underlying84 (by kernel_rfl) rfl hnN) ?_
          refine wk_f rfl (f_loadsr (cs := icell xU64 (some (κ, vx))) 0 rfl Try.underlying92 rfl (by kernel_rfl) rfl (icells_get xU64 ho)) ?_
          refine wk_f rfl (f_indexAddr 3 (i := adv N p t) rfl rfl Try.underlying84 (by kernel_rfl) rfl hgN) ?_
          refine wk_e0 rfl (e_storerN 0 (us := icell xU64 (some (κ, vx))) (xs' := icells xU64 (cs'.set (adv N p t) (some (κ, vx)))) rfl rfl rfl rfl (by kernel_rfl) (by simp [icell, xU64, Value.oneCell']) (by rw [icells_len]; show 0 + adv N p t * 3 + 3 ≤ _; omega) (icells_set xU64 _ (by omega))) ?_
          rintro _ _ w14 rfl
          refine ⟨_, pick_perm [1, 1] _ rfl, ?_⟩
          refine wk_end [(0, _), (9, _), (10, _), (11, _)] ⟨rfl, rfl, rfl, rfl, trivial⟩ ?_
          refine w_bun (H := []) [_, _, _] ?_
          refine w_reg ?_
          refine wl_f (f_move rfl) ?_
          refine wl_f (f_assign rfl) ?_
          refine wl_end [(0, _), (7, _), (9, _), (10, _), (11, _)] ⟨rfl, rfl, rfl, rfl, rfl, trivial⟩ ?_
          refine ⟨cs'.set (adv N p t) (some (κ, vx)), t + j, 1, rfl, rfl, hmv.1, Nat.le_refl _, rfl, ?_, hmv.2.trans hper, fun q x hx => ?_⟩
          · rw [List.getElem?_set_ne (hG.occ_ne heD)]; exact heD
          · by_cases hq : adv N p t = q
            · rw [← hq, List.getElem?_set_self (by omega)] at hx; injection hx with hx; injection hx with hx; subst hx; exact hsκ
            · rw [List.getElem?_set_ne hq] at hx; exact hsm' q x hx
        · skip
          refine w_sub [(0, _), (7, _), (9, _), (10, _), (11, _)] ⟨rfl, rfl, rfl, rfl, rfl, trivial⟩ (w_skip ?_)
          refine ⟨cs', t, j + 1, rfl, rfl, hG.pass ho' ?_, by omega, by omega, heD, hper, hsm'⟩
          rw [hadv]
          have : ¬ (j : Int) ≤ (dst N (hslot T seed N κ) (adv N p (t + j)) : Nat) := hc4
          omega
      · rintro _ _ w15 ⟨cs2, t2, j2, rfl, rfl, hG2, hj2, htj2, heD2, hper2, hsm2⟩
        refine w_reg ?_
        refine wl_f (f_move rfl) ?_
        refine wl_f (f_add rfl rfl (by omega)) ?_
        refine wl_f (f_move rfl) ?_
        refine wl_f (f_eqv (v' := .int .i64 (adv N p (t2 + j2) : Nat)) (f_rem rfl rfl (by omega)) (by rw [adv_int hnN (by omega), adv_adv hp (by omega), htj2])) ?_
        refine wl_f (f_assign rfl) ?_
        refine wl_end [(0, _), (7, _), (9, _), (10, _), (11, _)] ⟨rfl, rfl, rfl, rfl, rfl, trivial⟩ ?_
        exact ⟨kk - 1, by omega, cs2, t2, j2, rfl, rfl, hG2, hj2, by omega, by omega, heD2, hper2, hsm2⟩
    · skip
      obtain rfl : o = none := by
        cases o with
        | none => rfl
        | some x => exact absurd rfl hc3
      have hI2 := hG.done hhs hj1 (by omega) (by rw [hadv]; exact ho)
      refine w_exit0 ?_
      refine w_seq ?_
      refine w_unb (H := []) (ims xU64 b n N _ T seed tV (.slice (some ⟨g0, 0, .none⟩) N cc) cs') ?_
      refine w_reg ?_
      refine wl_f (f_move rfl) ?_
      refine wl_f (f_nilCheck rfl) ?_
      refine wl_f (f_fieldAddr 4 rfl Try.underlying86 rfl rfl (by kernel_rfl)) ?_
      (first | refine wl_f (f_loadb 0 rfl Try.underlying84 rfl rfl rfl) ?_ | refine wl_f (f_loadb 1 rfl Try.underlying84 rfl rfl rfl) ?_ | refine wl_f (f_loadb 2 rfl Try.underlying84 rfl rfl rfl) ?_ | refine wl_f (f_loadb 3 rfl Try.underlying84 rfl rfl rfl) ?_ | refine wl_f (f_loadb 4 rfl Try.underlying84 rfl rfl rfl) ?_ | refine wl_f (f_loadb 5 rfl Try.underlying84 rfl rfl rfl) ?_ | refine wl_f (f_loadb 6 rfl Try.underlying84 rfl rfl rfl) ?_)
      refine wl_f (f_move rfl) ?_
      refine wl_f (f_build rfl build_ucell0) ?_
      refine wl_f (f_indexAddr 3 (i := adv N p t) rfl rfl Try.underlying84 (by kernel_rfl) rfl hgN) ?_
      refine wl_e0 (e_storerN 2 (us := icell xU64 none) (xs' := icells xU64 (cs'.set (adv N p t) none)) rfl rfl rfl rfl (by kernel_rfl) (by simp [icell, xU64, Value.oneCell']) (by rw [icells_len]; show 0 + adv N p t * 3 + 3 ≤ _; omega) (icells_set xU64 _ (by omega))) ?_
      rintro _ _ w16_7 rfl
      refine wl_end [(9, _)] ⟨rfl, trivial⟩ ?_
      refine w_seq ?_
      refine w_reg ?_
      refine wl_f (f_move rfl) ?_
      refine wl_f (f_assign rfl) ?_
      refine wl_f (f_assign rfl) ?_
      refine wl_end [(4, _), (5, _)] ⟨rfl, rfl, trivial⟩ ?_
      refine w_bun (H := []) [_, _, _] ?_
      refine w_ret ?_
      refine ⟨_, _, fun a ha hh => results_tmps Try.results39 rfl a ha _, List.Sublist.refl _, ?_⟩
      have hl2 : (ents (cs'.set (adv N p t) none)).length = len1 := by rw [hper.length_eq, ← hrest.length_eq, hlen1]
      refine ⟨rfl, _, rfl, N, cs'.set (adv N p t) none, ⟨hn1, hn2, hN, hT, by rw [List.length_set]; exact hcl', tV, .slice (some ⟨g0, 0, .none⟩) N cc, by rw [hl2]; rfl⟩, hI2, hper, by omega, fun x hx => ?_⟩
      obtain ⟨q, hq⟩ := mem_ents.1 hx
      have hqg : adv N p t ≠ q := fun h => by rw [← h, List.getElem?_set_self (by omega)] at hq; cases hq
      rw [List.getElem?_set_ne hqg] at hq
      exact hsm' q x hq
end Go.Proofs.Ytkoklfagmbaapaa
