/- Texts of this proof, part MB4: what the code does, step by step. They have no conditions. -/
import Derived.Test.YtmagdjlcckgkpaaGreatMB3
import Derived.Test.YtmagdjlcckgkpaaGreatMB1
/- Tables: taking out. -/
namespace Go.Proofs.YtmagdjlcckgkpaaGreat
open Go.RowKit

theorem GInv.occ_ne {α : Type} {hf : ByteArray → Nat} {N g j e : Nat} {cs : Cells α} (h : GInv hf N cs g j) (he : cs[e]? = some none) : g ≠ e := fun h' => by
  obtain ⟨x, hx⟩ := h.occ
  rw [h', he] at hx
  cases hx

theorem build_icell0 (w : World) : (Instr.build 154 #[]).run Tryz.prog w = .ok (.agg [.bool false, .string ByteArray.empty, xInt.val xInt.zero].toArray) w := by kernel_rfl
set_option maxHeartbeats 4000000 in
theorem ixdelete_spec (b n : Nat) (T : List Nat) (seed : Int) (M : List (ByteArray × Int)) (r : Res) (k : ByteArray) (w : World) (hk : small k) (hr : TbR xInt b n T seed M r) (hs : Holds w r.foot [r] w) :
    Spec Tryz.prog 101 [.pointer (some ⟨b, 0, .none⟩), .string k] w r.foot fun v H => v = .tuple #[xInt.val ((mget M k).getD xInt.zero), .bool (mget M k).isSome] ∧ ∃ r', H = [r'] ∧ TbR xInt b n T seed (mdel M k) r' := by
  have hr0 := hr
  obtain ⟨N, cs, hC, hI, hM, hle, hsm⟩ := hr
  obtain ⟨hn1, hn2, hN, hT, hcl, tV, cV, rfl⟩ := id hC
  have hhs : ∀ κ, hslot T seed N κ < N := fun κ => hslot_lt T seed (by omega) κ
  have hh0 := hhs k
  refine enter (n := 106) Tryz.func101 rfl rfl [(0, _), (1, _)] rfl ⟨rfl, rfl, trivial⟩ hs ?_
  refine w_seq (w_reg (wl_f (f_assign rfl) (wl_f (f_assign rfl) (wl_end [(0, _), (1, _)] ⟨rfl, rfl, trivial⟩ ?_))))
  refine w_seq (w_reg (wl_f (f_assign rfl) (wl_end [(0, _), (1, _), (6, _)] ⟨rfl, rfl, rfl, trivial⟩ ?_)))
  refine w_seq (w_seq (w_reg (wl_f (f_move rfl) (wl_f (f_eqlnil rfl rfl Tryz.underlying92) ?_))))
  refine wl_end [(0, _), (1, _), (6, _), (13, _)] ⟨rfl, rfl, rfl, rfl, trivial⟩ ?_
  refine w_iff rfl ?_
  refine w_skip ?_
  refine w_seq (w_reg (wl_f (f_move rfl) (wl_f (f_move rfl) (wl_e (e_call1 _ [] rfl Tryz.func91 (by kernel_rfl) (List.Perm.refl _) (fun w hh hs' => ifind_spec b n N _ T seed cs _ k w hk (by omega) hC hs')) ?_))))
  rintro _ _ w4 ⟨_, rfl, hf, rfl⟩
  obtain ⟨p, ok, rfl, hp, hok, hno⟩ := hf.form hcl hh0
  refine wl_f (f_move rfl) (wl_f (f_extract rfl rfl) ?_)
  refine wl_f (f_extract rfl rfl) ?_
  refine wl_f (f_assign rfl) (wl_f (f_assign rfl) (wl_end [(0, _), (6, _), (7, _), (8, _)] ⟨rfl, rfl, rfl, rfl, trivial⟩ ?_))
  refine w_seq (w_seq (w_reg (wl_f (f_move rfl) (wl_f (f_not rfl rfl) ?_))))
  refine wl_end [(0, _), (6, _), (7, _), (22, _)] ⟨rfl, rfl, rfl, rfl, trivial⟩ ?_
  refine w_ifb rfl (fun hc2 => ?_) (fun hc2 => ?_)
  · skip
    obtain ⟨i, hi, rfl, he, h1, h2⟩ := hno (by simpa using hc2)
    have hab := hI.absent hh0 hi he h1
    have hab' : k ∉ keys M := fun h => hab ((keys_in hM).1 h)
    refine w_seq (w_reg (wl_f (f_move rfl) (wl_f (f_assign rfl) (wl_f (f_assign rfl) (wl_end [(4, _), (5, _)] ⟨rfl, rfl, trivial⟩ ?_)))))
    refine w_ret ?_
    refine ⟨_, _, fun a ha hh => results_tmps Tryz.results101 rfl a ha _, List.Sublist.refl _, ?_⟩
    rw [mget_none hab', mdel_none hab']; exact ⟨rfl, _, rfl, hr0⟩
  · skip
    obtain ⟨y, hy⟩ := hok (by simpa using hc2)
    have hnd : (keys M).Nodup := (keys_perm hM).nodup_iff.1 hI.nd
    have hg := mget_some hnd (at_mem hy hM)
    have hrest := rest_perm hI.nd hy hM
    have hp0 := ents_set_none hy
    obtain ⟨len1, hlen1⟩ : ∃ l, (ents (cs.set p none)).length = l := ⟨_, rfl⟩
    have hlen0 : (ents cs).length = len1 + 1 := by rw [hp0.length_eq, List.length_cons, hlen1]
    obtain ⟨e, heN, he⟩ := free_place (cs := cs) (by omega)
    rw [hcl] at heN
    have hep : e ≠ p := fun h => by rw [h, hy] at he; cases he
    have hD1 := dst_pos hp heN hep
    have hde := adv_dst hp heN
    have hdl := dst_lt hp heN
    generalize hD : dst N p e = D at hde hdl hD1
    rw [hg]
    refine w_with fun hh => ?_
    obtain ⟨g0, cc, e2⟩ := rowB_form hh (i := 0) (j := 2) rfl rfl (by omega)
    subst e2
    clear hh
    refine w_skip ?_
    refine w_seq (w_reg (wl_f (f_move rfl) (wl_f (f_nilCheck rfl) (wl_f (f_fieldAddr 4 rfl Tryz.underlying124 rfl rfl (by kernel_rfl)) ?_))))
    refine wl_f (f_loadB 0 0 rfl rfl rfl Tryz.underlying122 rfl rfl) ?_
    refine wl_f (f_move rfl) (wl_f (f_indexAddr 3 (i := p) rfl rfl Tryz.underlying122 (by kernel_rfl) rfl hp) ?_)
    refine wl_f (f_fieldAddr 2 rfl Tryz.underlying154 rfl rfl (by kernel_rfl)) ?_
    refine wl_f (f_loadBr (v := xInt.val y) 0 2 rfl rfl rfl Tryz.underlying3 rfl (icells_j xInt hy 2 rfl (by omega))) ?_
    refine wl_f (f_assign rfl) (wl_end [(0, _), (7, _), (9, _)] ⟨rfl, rfl, rfl, trivial⟩ ?_)
    refine w_seq (w_unb (H := []) (ims xInt b n N _ T seed tV (.slice (some ⟨g0, 0, .none⟩) N cc) cs) ?_)
    refine w_reg (wl_f (f_move rfl) (wl_f (f_nilCheck rfl) (wl_f (f_fieldAddr 1 rfl Tryz.underlying124 rfl rfl (by kernel_rfl)) ?_)))
    refine wl_f (f_loadb 0 rfl Tryz.underlying3 rfl rfl rfl) ?_
    refine wl_f (f_eqv (v' := .int .i64 (len1 : Nat)) (f_sub rfl rfl (by omega)) (by rw [hlen0]; congr 1; omega)) ?_
    refine wl_f (f_nilCheck rfl) (wl_f (f_fieldAddr 1 rfl Tryz.underlying124 rfl rfl (by kernel_rfl)) ?_)
    refine wl_e0 (e_store0 (us := [_]) rfl rfl rfl (by kernel_rfl) (by simp [Value.oneCell']) rfl rfl) ?_
    rintro _ _ w8_7 rfl
    refine wl_bun (H := []) [_, _, _] ?_
    refine wl_end [(0, _), (7, _), (9, _)] ⟨rfl, rfl, rfl, trivial⟩ ?_
    refine w_seq (w_reg (wl_f (f_move rfl) (wl_f (f_nilCheck rfl) (wl_f (f_fieldAddr 4 rfl Tryz.underlying124 rfl rfl (by kernel_rfl)) ?_))))
    refine wl_f (f_loadB 0 0 rfl rfl rfl Tryz.underlying122 rfl rfl) ?_
    refine wl_f (f_len rfl Tryz.underlying122) ?_
    refine wl_f (f_assign rfl) (wl_end [(0, _), (7, _), (9, _), (10, _)] ⟨rfl, rfl, rfl, rfl, trivial⟩ ?_)
    refine w_seq (w_seq (w_reg (wl_f (f_move rfl) (wl_f (f_add rfl rfl (by omega)) ?_))))
    refine wl_f (f_move rfl) (wl_f (f_eqv (v' := .int .i64 (adv N p 1 : Nat)) (f_rem rfl rfl (by omega)) (by rw [adv_int hp (by omega)])) ?_)
    refine wl_f (f_assign rfl) (wl_end [(0, _), (7, _), (9, _), (10, _), (11, _)] ⟨rfl, rfl, rfl, rfl, rfl, trivial⟩ ?_)
    refine w_block ?_
    refine w_loop (fun kk m H w => ∃ (cs' : Cells Int) (t j : Nat), m = [(0, .pointer (some ⟨b, 0, .none⟩)), (7, .int .i64 (adv N p t : Nat)), (9, xInt.val y), (10, .int .i64 (N : Nat)), (11, .int .i64 (adv N p (t + j) : Nat))] ∧
      H = [bun (ims xInt b n N len1 T seed tV (.slice (some ⟨g0, 0, .none⟩) N cc) cs')] ∧ GInv (hslot T seed N) N cs' (adv N p t) j ∧ 1 ≤ j ∧ t + j ≤ D ∧ kk + (t + j) = D ∧ cs'[adv N p D]? = some none ∧ (ents (cs'.set (adv N p t) none)).Perm (mdel M k) ∧
      ∀ (q : Nat) (x : ByteArray × Int), cs'[q]? = some (some x) → small x.1) (D - 1)
      ⟨cs, 0, 1, by rw [adv_zero hp], rfl, by rw [adv_zero hp]; exact GInv.start hI hy, Nat.le_refl _, by omega, by omega, by rw [hde]; exact he, by rw [adv_zero hp]; exact hrest, fun q x hx => hsm x (mem_ents.2 ⟨q, hx⟩)⟩ ?_
    rintro kk _ _ w5 ⟨cs', t, j, rfl, rfl, hG, hj1, htj, hkk, heD, hper, hsm'⟩
    have hgN := adv_lt hp (show t < N by omega)
    have hnN := adv_lt hp (show t + j < N by omega)
    have hadv : adv N (adv N p t) j = adv N p (t + j) := adv_adv hp (by omega)
    have hcl' := hG.len
    obtain ⟨o, ho⟩ : ∃ o, cs'[adv N p (t + j)]? = some o := ⟨_, List.getElem?_eq_getElem (by omega)⟩
    refine w_seq (w_seq (w_reg (wl_f (f_move rfl) (wl_f (f_nilCheck rfl) (wl_f (f_fieldAddr 4 rfl Tryz.underlying124 rfl rfl (by kernel_rfl)) ?_)))))
    refine wl_f (f_loadB 0 0 rfl rfl rfl Tryz.underlying122 rfl rfl) ?_
    refine wl_f (f_move rfl) (wl_f (f_indexAddr 3 (i := adv N p (t + j)) rfl rfl Tryz.underlying122 (by kernel_rfl) rfl hnN) ?_)
    refine wl_f (f_fieldAddr 0 rfl Tryz.underlying154 rfl rfl (by kernel_rfl)) ?_
    refine wl_f (f_loadBr (v := .bool o.isSome) 0 2 rfl rfl rfl Tryz.underlying4 rfl (icells_j xInt ho 0 (by cases o <;> rfl) (by omega))) ?_
    refine wl_end [(0, _), (7, _), (9, _), (10, _), (11, _), (55, _)] ⟨rfl, rfl, rfl, rfl, rfl, rfl, trivial⟩ ?_
    refine w_ifb rfl (fun hc3 => ?_) (fun hc3 => ?_)
    · skip
      obtain ⟨⟨κ, vx⟩, rfl⟩ : ∃ x, o = some x := Option.isSome_iff_exists.1 hc3
      have hiD : t + j ≠ D := fun e => by rw [e, heD] at ho; cases ho
      have hκ := hhs κ
      have hsκ := hsm' _ _ ho
      have hdN := dst_lt hκ hnN
      have ho' : cs'[adv N (adv N p t) j]? = some (some (κ, vx)) := by rw [hadv]; exact ho
      have hdj : dst N (adv N p t) (adv N p (t + j)) = j := by rw [← hadv, dst_adv hgN (by omega)]
      have hC' : TbC xInt b n N len1 T seed cs' (bun (ims xInt b n N len1 T seed tV (.slice (some ⟨g0, 0, .none⟩) N cc) cs')) := ⟨hn1, hn2, hN, hT, hcl', _, _, rfl⟩
      refine w_skip ?_
      refine w_seq ?_
      refine w_post (fun m H w => ∃ (cs2 : Cells Int) (t2 j2 : Nat), m = [(0, .pointer (some ⟨b, 0, .none⟩)), (7, .int .i64 (adv N p t2 : Nat)), (9, xInt.val y), (10, .int .i64 (N : Nat)), (11, .int .i64 (adv N p (t + j) : Nat))] ∧
        H = [bun (ims xInt b n N len1 T seed tV (.slice (some ⟨g0, 0, .none⟩) N cc) cs2)] ∧ GInv (hslot T seed N) N cs2 (adv N p t2) j2 ∧ 1 ≤ j2 ∧ t2 + j2 = t + j + 1 ∧ cs2[adv N p D]? = some none ∧ (ents (cs2.set (adv N p t2) none)).Perm (mdel M k) ∧
        ∀ (q : Nat) (x : ByteArray × Int), cs2[q]? = some (some x) → small x.1) ?_ ?_
      · skip
        refine w_block ?_
        refine w_seq ?_
        refine w_drawk [(0, true), (1, true), (2, true), (3, true), (4, true), (5, true), (6, true), (7, true), (8, true), (9, true), (12, true), (14, true), (16, true), (17, true), (18, true), (19, true), (20, true), (21, true), (22, true), (10, false), (11, true), (13, true), (15, true), (23, true)] ([(_, some 10)]) ([]) mixed (by kernel_rfl) (by kernel_rfl) rfl rfl (List.Perm.refl _) (fun w13_ => ?_)
        refine wk_f rfl (f_move rfl) (wk_f rfl (f_move rfl) (wk_f rfl (f_move rfl) (wk_f rfl (f_nilCheck rfl) (wk_f rfl (f_fieldAddr 4 rfl Tryz.underlying124 rfl rfl (by kernel_rfl)) ?_))))
        refine wk_f rfl (f_loadB 0 0 rfl rfl rfl Tryz.underlying122 rfl rfl) ?_
        refine wk_f rfl (f_move rfl) (wk_f rfl (f_indexAddr 3 (i := adv N p (t + j)) rfl rfl Tryz.underlying122 (by kernel_rfl) rfl hnN) ?_)
        refine wk_f rfl (f_fieldAddr 1 rfl Tryz.underlying154 rfl rfl (by kernel_rfl)) ?_
        refine wk_f rfl (f_loadBr (v := .string κ) 0 2 rfl rfl rfl Tryz.underlying9 rfl (icells_j xInt ho 1 rfl (by omega))) ?_
        refine wk_f rfl (f_move rfl) (wk_f rfl (f_move rfl) (wk_f rfl (f_move rfl) (wk_f rfl (f_move rfl) (wk_f rfl (f_sub rfl rfl (by omega)) ?_))))
        refine wk_f rfl (f_move rfl) (wk_f rfl (f_add rfl rfl (by omega)) ?_)
        refine wk_f rfl (f_move rfl) (wk_f rfl (f_eqv (v' := .int .i64 (j : Nat)) (f_rem rfl rfl (by omega)) (by rw [dst_int hgN hnN, hdj])) ?_)
        refine wk_e rfl (e_call1 _ [] rfl Tryz.func102 (by kernel_rfl) (List.Perm.refl _) (fun w hh hs' => ihome_spec b n N _ T seed cs' _ κ w hsκ hC' hs')) ?_
        rintro _ _ w13 ⟨_, rfl, rfl, rfl⟩
        refine ⟨_, List.Perm.refl _, ?_⟩
        refine wk_f rfl (f_sub rfl rfl (by omega)) ?_
        refine wk_f rfl (f_add rfl rfl (by omega)) ?_
        refine wk_f rfl (f_eqv (v' := .int .i64 (dst N (hslot T seed N κ) (adv N p (t + j)) : Nat)) (f_rem rfl rfl (by omega)) (by rw [dst_int hκ hnN])) ?_
        refine wk_f rfl (f_geq rfl rfl) ?_
        refine wk_end [(0, _), (7, _), (9, _), (10, _), (11, _), (83, _)] ⟨rfl, rfl, rfl, rfl, rfl, rfl, trivial⟩ ?_
        refine w_ifd rfl (fun hc4 => ?_) (fun hc4 => ?_)
        · skip
          have hmv := hG.move hhs hj1 (by omega) ho' (by
            rw [hadv]
            have : (j : Int) ≤ (dst N (hslot T seed N κ) (adv N p (t + j)) : Nat) := hc4
            omega)
          rw [hadv] at hmv
          refine w_seq (w_unb (H := []) (ims xInt b n N _ T seed tV (.slice (some ⟨g0, 0, .none⟩) N cc) cs') ?_)
          refine w_pick [2, 0, 0] rfl ?_
          refine w_drawk [(0, true), (1, true), (2, true), (3, true), (4, true), (5, true), (6, true), (7, true), (8, true), (9, true), (10, true), (11, true), (12, true), (13, false)] ([(_, some 13), (_, none), (_, none)]) ([]) mixed (by kernel_rfl) (by kernel_rfl) rfl rfl (List.Perm.refl _) (fun w14_ => ?_)
          refine wk_f rfl (f_move rfl) (wk_f rfl (f_nilCheck rfl) (wk_f rfl (f_fieldAddr 4 rfl Tryz.underlying124 rfl rfl (by kernel_rfl)) ?_))
          refine wk_f rfl (f_loadb 1 rfl Tryz.underlying122 rfl rfl rfl) ?_
          refine wk_f rfl (f_move rfl) (wk_f rfl (f_move rfl) (wk_f rfl (f_nilCheck rfl) (wk_f rfl (f_fieldAddr 4 rfl Tryz.underlying124 rfl rfl (by kernel_rfl)) ?_)))
          refine wk_f rfl (f_loadb 1 rfl Tryz.underlying122 rfl rfl rfl) ?_
          refine wk_f rfl (f_move rfl) (wk_f rfl (f_indexAddr 3 (i := adv N p (t + j)) rfl rfl Tryz.underlying122 (by kernel_rfl) rfl hnN) ?_)
          refine wk_f rfl (f_loadsr (cs := icell xInt (some (κ, vx))) 0 rfl Tryz.underlying154 rfl (by kernel_rfl) rfl (icells_get xInt ho)) ?_
          refine wk_f rfl (f_indexAddr 3 (i := adv N p t) rfl rfl Tryz.underlying122 (by kernel_rfl) rfl hgN) ?_
          refine wk_e0 rfl (e_storerN 0 (us := icell xInt (some (κ, vx))) (xs' := icells xInt (cs'.set (adv N p t) (some (κ, vx)))) rfl rfl rfl rfl (by kernel_rfl) (by simp [icell, xInt, Value.oneCell']) (by rw [icells_len]; show 0 + adv N p t * 3 + 3 ≤ _; omega) (icells_set xInt _ (by omega))) ?_
          rintro _ _ w14 rfl
          refine ⟨_, pick_perm [1, 1] _ rfl, ?_⟩
          refine wk_end [(0, _), (9, _), (10, _), (11, _)] ⟨rfl, rfl, rfl, rfl, trivial⟩ ?_
          refine w_bun (H := []) [_, _, _] ?_
          refine w_reg (wl_f (f_move rfl) (wl_f (f_assign rfl) (wl_end [(0, _), (7, _), (9, _), (10, _), (11, _)] ⟨rfl, rfl, rfl, rfl, rfl, trivial⟩ ?_)))
          refine ⟨cs'.set (adv N p t) (some (κ, vx)), t + j, 1, rfl, rfl, hmv.1, Nat.le_refl _, rfl, ?_, hmv.2.trans hper, fun q x hx => ?_⟩
          · rw [List.getElem?_set_ne (hG.occ_ne heD)]; exact heD
          · by_cases hq : adv N p t = q
            · rw [← hq, List.getElem?_set_self (by omega)] at hx; injection hx with hx; injection hx with hx; subst hx; exact hsκ
            · rw [List.getElem?_set_ne hq] at hx; exact hsm' q x hx
        · skip
          refine w_sub [(0, _), (7, _), (9, _), (10, _), (11, _)] ⟨rfl, rfl, rfl, rfl, rfl, trivial⟩ (w_skip ?_)
          refine ⟨cs', t, j + 1, rfl, rfl, hG.pass ho' ?_, by omega, by omega, heD, hper, hsm'⟩
          rw [hadv]
          have : ¬ (j : Int) ≤ (dst N (hslot T seed N κ) (adv N p (t + j)) : Nat) := hc4
          omega
      · rintro _ _ w15 ⟨cs2, t2, j2, rfl, rfl, hG2, hj2, htj2, heD2, hper2, hsm2⟩
        refine w_reg (wl_f (f_move rfl) (wl_f (f_add rfl rfl (by omega)) ?_))
        refine wl_f (f_move rfl) (wl_f (f_eqv (v' := .int .i64 (adv N p (t2 + j2) : Nat)) (f_rem rfl rfl (by omega)) (by rw [adv_int hnN (by omega), adv_adv hp (by omega), htj2])) ?_)
        refine wl_f (f_assign rfl) (wl_end [(0, _), (7, _), (9, _), (10, _), (11, _)] ⟨rfl, rfl, rfl, rfl, rfl, trivial⟩ ?_)
        exact ⟨kk - 1, by omega, cs2, t2, j2, rfl, rfl, hG2, hj2, by omega, by omega, heD2, hper2, hsm2⟩
    · skip
      obtain rfl : o = none := by
        cases o with
        | none => rfl
        | some x => exact absurd rfl hc3
      have hI2 := hG.done hhs hj1 (by omega) (by rw [hadv]; exact ho)
      refine w_exit0 ?_
      refine w_seq (w_unb (H := []) (ims xInt b n N _ T seed tV (.slice (some ⟨g0, 0, .none⟩) N cc) cs') ?_)
      refine w_reg (wl_f (f_move rfl) (wl_f (f_nilCheck rfl) (wl_f (f_fieldAddr 4 rfl Tryz.underlying124 rfl rfl (by kernel_rfl)) ?_)))
      refine wl_f (f_loadb 0 rfl Tryz.underlying122 rfl rfl rfl) ?_
      refine wl_f (f_move rfl) (wl_f (f_build rfl build_icell0) ?_)
      refine wl_f (f_indexAddr 3 (i := adv N p t) rfl rfl Tryz.underlying122 (by kernel_rfl) rfl hgN) ?_
      refine wl_e0 (e_storerN 2 (us := icell xInt none) (xs' := icells xInt (cs'.set (adv N p t) none)) rfl rfl rfl rfl (by kernel_rfl) (by simp [icell, xInt, Value.oneCell']) (by rw [icells_len]; show 0 + adv N p t * 3 + 3 ≤ _; omega) (icells_set xInt _ (by omega))) ?_
      rintro _ _ w16_7 rfl
      refine wl_end [(9, _)] ⟨rfl, trivial⟩ ?_
      refine w_seq (w_reg (wl_f (f_move rfl) (wl_f (f_assign rfl) (wl_f (f_assign rfl) (wl_end [(4, _), (5, _)] ⟨rfl, rfl, trivial⟩ ?_)))))
      refine w_bun (H := []) [_, _, _] ?_
      refine w_ret ?_
      refine ⟨_, _, fun a ha hh => results_tmps Tryz.results101 rfl a ha _, List.Sublist.refl _, ?_⟩
      have hl2 : (ents (cs'.set (adv N p t) none)).length = len1 := by rw [hper.length_eq, ← hrest.length_eq, hlen1]
      refine ⟨rfl, _, rfl, N, cs'.set (adv N p t) none, ⟨hn1, hn2, hN, hT, by rw [List.length_set]; exact hcl', tV, .slice (some ⟨g0, 0, .none⟩) N cc, by rw [hl2]; rfl⟩, hI2, hper, by omega, fun x hx => ?_⟩
      obtain ⟨q, hq⟩ := mem_ents.1 hx
      have hqg : adv N p t ≠ q := fun h => by rw [← h, List.getElem?_set_self (by omega)] at hq; cases hq
      rw [List.getElem?_set_ne hqg] at hq
      exact hsm' q x hq
theorem build_ucell0 (w : World) : (Instr.build 212 #[]).run Tryz.prog w = .ok (.agg [.bool false, .string ByteArray.empty, xU64.val xU64.zero].toArray) w := by kernel_rfl
set_option maxHeartbeats 4000000 in
theorem uxdelete_spec (b n : Nat) (T : List Nat) (seed : Int) (M : List (ByteArray × Nat)) (r : Res) (k : ByteArray) (w : World) (hk : small k) (hr : TbR xU64 b n T seed M r) (hs : Holds w r.foot [r] w) :
    Spec Tryz.prog 158 [.pointer (some ⟨b, 0, .none⟩), .string k] w r.foot fun v H => v = .tuple #[xU64.val ((mget M k).getD xU64.zero), .bool (mget M k).isSome] ∧ ∃ r', H = [r'] ∧ TbR xU64 b n T seed (mdel M k) r' := by
  have hr0 := hr
  obtain ⟨N, cs, hC, hI, hM, hle, hsm⟩ := hr
  obtain ⟨hn1, hn2, hN, hT, hcl, tV, cV, rfl⟩ := id hC
  have hhs : ∀ κ, hslot T seed N κ < N := fun κ => hslot_lt T seed (by omega) κ
  have hh0 := hhs k
  refine enter (n := 106) Tryz.func158 rfl rfl [(0, _), (1, _)] rfl ⟨rfl, rfl, trivial⟩ hs ?_
  refine w_seq (w_reg (wl_f (f_assign rfl) (wl_f (f_assign rfl) (wl_end [(0, _), (1, _)] ⟨rfl, rfl, trivial⟩ ?_))))
  refine w_seq (w_reg (wl_f (f_assign rfl) (wl_end [(0, _), (1, _), (6, _)] ⟨rfl, rfl, rfl, trivial⟩ ?_)))
  refine w_seq (w_seq (w_reg (wl_f (f_move rfl) (wl_f (f_eqlnil rfl rfl Tryz.underlying102) ?_))))
  refine wl_end [(0, _), (1, _), (6, _), (13, _)] ⟨rfl, rfl, rfl, rfl, trivial⟩ ?_
  refine w_iff rfl ?_
  refine w_skip ?_
  refine w_seq (w_reg (wl_f (f_move rfl) (wl_f (f_move rfl) (wl_e (e_call1 _ [] rfl Tryz.func159 (by kernel_rfl) (List.Perm.refl _) (fun w hh hs' => ufind_spec b n N _ T seed cs _ k w hk (by omega) hC hs')) ?_))))
  rintro _ _ w4 ⟨_, rfl, hf, rfl⟩
  obtain ⟨p, ok, rfl, hp, hok, hno⟩ := hf.form hcl hh0
  refine wl_f (f_move rfl) (wl_f (f_extract rfl rfl) ?_)
  refine wl_f (f_extract rfl rfl) ?_
  refine wl_f (f_assign rfl) (wl_f (f_assign rfl) (wl_end [(0, _), (6, _), (7, _), (8, _)] ⟨rfl, rfl, rfl, rfl, trivial⟩ ?_))
  refine w_seq (w_seq (w_reg (wl_f (f_move rfl) (wl_f (f_not rfl rfl) ?_))))
  refine wl_end [(0, _), (6, _), (7, _), (22, _)] ⟨rfl, rfl, rfl, rfl, trivial⟩ ?_
  refine w_ifb rfl (fun hc2 => ?_) (fun hc2 => ?_)
  · skip
    obtain ⟨i, hi, rfl, he, h1, h2⟩ := hno (by simpa using hc2)
    have hab := hI.absent hh0 hi he h1
    have hab' : k ∉ keys M := fun h => hab ((keys_in hM).1 h)
    refine w_seq (w_reg (wl_f (f_move rfl) (wl_f (f_assign rfl) (wl_f (f_assign rfl) (wl_end [(4, _), (5, _)] ⟨rfl, rfl, trivial⟩ ?_)))))
    refine w_ret ?_
    refine ⟨_, _, fun a ha hh => results_tmps Tryz.results158 rfl a ha _, List.Sublist.refl _, ?_⟩
    rw [mget_none hab', mdel_none hab']; exact ⟨rfl, _, rfl, hr0⟩
  · skip
    obtain ⟨y, hy⟩ := hok (by simpa using hc2)
    have hnd : (keys M).Nodup := (keys_perm hM).nodup_iff.1 hI.nd
    have hg := mget_some hnd (at_mem hy hM)
    have hrest := rest_perm hI.nd hy hM
    have hp0 := ents_set_none hy
    obtain ⟨len1, hlen1⟩ : ∃ l, (ents (cs.set p none)).length = l := ⟨_, rfl⟩
    have hlen0 : (ents cs).length = len1 + 1 := by rw [hp0.length_eq, List.length_cons, hlen1]
    obtain ⟨e, heN, he⟩ := free_place (cs := cs) (by omega)
    rw [hcl] at heN
    have hep : e ≠ p := fun h => by rw [h, hy] at he; cases he
    have hD1 := dst_pos hp heN hep
    have hde := adv_dst hp heN
    have hdl := dst_lt hp heN
    generalize hD : dst N p e = D at hde hdl hD1
    rw [hg]
    refine w_with fun hh => ?_
    obtain ⟨g0, cc, e2⟩ := rowB_form hh (i := 0) (j := 2) rfl rfl (by omega)
    subst e2
    clear hh
    refine w_skip ?_
    refine w_seq (w_reg (wl_f (f_move rfl) (wl_f (f_nilCheck rfl) (wl_f (f_fieldAddr 4 rfl Tryz.underlying127 rfl rfl (by kernel_rfl)) ?_))))
    refine wl_f (f_loadB 0 0 rfl rfl rfl Tryz.underlying125 rfl rfl) ?_
    refine wl_f (f_move rfl) (wl_f (f_indexAddr 3 (i := p) rfl rfl Tryz.underlying125 (by kernel_rfl) rfl hp) ?_)
    refine wl_f (f_fieldAddr 2 rfl Tryz.underlying212 rfl rfl (by kernel_rfl)) ?_
    refine wl_f (f_loadBr (v := xU64.val y) 0 2 rfl rfl rfl Tryz.underlying33 rfl (icells_j xU64 hy 2 rfl (by omega))) ?_
    refine wl_f (f_assign rfl) (wl_end [(0, _), (7, _), (9, _)] ⟨rfl, rfl, rfl, trivial⟩ ?_)
    refine w_seq (w_unb (H := []) (ims xU64 b n N _ T seed tV (.slice (some ⟨g0, 0, .none⟩) N cc) cs) ?_)
    refine w_reg (wl_f (f_move rfl) (wl_f (f_nilCheck rfl) (wl_f (f_fieldAddr 1 rfl Tryz.underlying127 rfl rfl (by kernel_rfl)) ?_)))
    refine wl_f (f_loadb 0 rfl Tryz.underlying3 rfl rfl rfl) ?_
    refine wl_f (f_eqv (v' := .int .i64 (len1 : Nat)) (f_sub rfl rfl (by omega)) (by rw [hlen0]; congr 1; omega)) ?_
    refine wl_f (f_nilCheck rfl) (wl_f (f_fieldAddr 1 rfl Tryz.underlying127 rfl rfl (by kernel_rfl)) ?_)
    refine wl_e0 (e_store0 (us := [_]) rfl rfl rfl (by kernel_rfl) (by simp [Value.oneCell']) rfl rfl) ?_
    rintro _ _ w8_7 rfl
    refine wl_bun (H := []) [_, _, _] ?_
    refine wl_end [(0, _), (7, _), (9, _)] ⟨rfl, rfl, rfl, trivial⟩ ?_
    refine w_seq (w_reg (wl_f (f_move rfl) (wl_f (f_nilCheck rfl) (wl_f (f_fieldAddr 4 rfl Tryz.underlying127 rfl rfl (by kernel_rfl)) ?_))))
    refine wl_f (f_loadB 0 0 rfl rfl rfl Tryz.underlying125 rfl rfl) ?_
    refine wl_f (f_len rfl Tryz.underlying125) ?_
    refine wl_f (f_assign rfl) (wl_end [(0, _), (7, _), (9, _), (10, _)] ⟨rfl, rfl, rfl, rfl, trivial⟩ ?_)
    refine w_seq (w_seq (w_reg (wl_f (f_move rfl) (wl_f (f_add rfl rfl (by omega)) ?_))))
    refine wl_f (f_move rfl) (wl_f (f_eqv (v' := .int .i64 (adv N p 1 : Nat)) (f_rem rfl rfl (by omega)) (by rw [adv_int hp (by omega)])) ?_)
    refine wl_f (f_assign rfl) (wl_end [(0, _), (7, _), (9, _), (10, _), (11, _)] ⟨rfl, rfl, rfl, rfl, rfl, trivial⟩ ?_)
    refine w_block ?_
    refine w_loop (fun kk m H w => ∃ (cs' : Cells Nat) (t j : Nat), m = [(0, .pointer (some ⟨b, 0, .none⟩)), (7, .int .i64 (adv N p t : Nat)), (9, xU64.val y), (10, .int .i64 (N : Nat)), (11, .int .i64 (adv N p (t + j) : Nat))] ∧
      H = [bun (ims xU64 b n N len1 T seed tV (.slice (some ⟨g0, 0, .none⟩) N cc) cs')] ∧ GInv (hslot T seed N) N cs' (adv N p t) j ∧ 1 ≤ j ∧ t + j ≤ D ∧ kk + (t + j) = D ∧ cs'[adv N p D]? = some none ∧ (ents (cs'.set (adv N p t) none)).Perm (mdel M k) ∧
      ∀ (q : Nat) (x : ByteArray × Nat), cs'[q]? = some (some x) → small x.1) (D - 1)
      ⟨cs, 0, 1, by rw [adv_zero hp], rfl, by rw [adv_zero hp]; exact GInv.start hI hy, Nat.le_refl _, by omega, by omega, by rw [hde]; exact he, by rw [adv_zero hp]; exact hrest, fun q x hx => hsm x (mem_ents.2 ⟨q, hx⟩)⟩ ?_
    rintro kk _ _ w5 ⟨cs', t, j, rfl, rfl, hG, hj1, htj, hkk, heD, hper, hsm'⟩
    have hgN := adv_lt hp (show t < N by omega)
    have hnN := adv_lt hp (show t + j < N by omega)
    have hadv : adv N (adv N p t) j = adv N p (t + j) := adv_adv hp (by omega)
    have hcl' := hG.len
    obtain ⟨o, ho⟩ : ∃ o, cs'[adv N p (t + j)]? = some o := ⟨_, List.getElem?_eq_getElem (by omega)⟩
    refine w_seq (w_seq (w_reg (wl_f (f_move rfl) (wl_f (f_nilCheck rfl) (wl_f (f_fieldAddr 4 rfl Tryz.underlying127 rfl rfl (by kernel_rfl)) ?_)))))
    refine wl_f (f_loadB 0 0 rfl rfl rfl Tryz.underlying125 rfl rfl) ?_
    refine wl_f (f_move rfl) (wl_f (f_indexAddr 3 (i := adv N p (t + j)) rfl rfl Tryz.underlying125 (by kernel_rfl) rfl hnN) ?_)
    refine wl_f (f_fieldAddr 0 rfl Tryz.underlying212 rfl rfl (by kernel_rfl)) ?_
    refine wl_f (f_loadBr (v := .bool o.isSome) 0 2 rfl rfl rfl Tryz.underlying4 rfl (icells_j xU64 ho 0 (by cases o <;> rfl) (by omega))) ?_
    refine wl_end [(0, _), (7, _), (9, _), (10, _), (11, _), (55, _)] ⟨rfl, rfl, rfl, rfl, rfl, rfl, trivial⟩ ?_
    refine w_ifb rfl (fun hc3 => ?_) (fun hc3 => ?_)
    · skip
      obtain ⟨⟨κ, vx⟩, rfl⟩ : ∃ x, o = some x := Option.isSome_iff_exists.1 hc3
      have hiD : t + j ≠ D := fun e => by rw [e, heD] at ho; cases ho
      have hκ := hhs κ
      have hsκ := hsm' _ _ ho
      have hdN := dst_lt hκ hnN
      have ho' : cs'[adv N (adv N p t) j]? = some (some (κ, vx)) := by rw [hadv]; exact ho
      have hdj : dst N (adv N p t) (adv N p (t + j)) = j := by rw [← hadv, dst_adv hgN (by omega)]
      have hC' : TbC xU64 b n N len1 T seed cs' (bun (ims xU64 b n N len1 T seed tV (.slice (some ⟨g0, 0, .none⟩) N cc) cs')) := ⟨hn1, hn2, hN, hT, hcl', _, _, rfl⟩
      refine w_skip ?_
      refine w_seq ?_
      refine w_post (fun m H w => ∃ (cs2 : Cells Nat) (t2 j2 : Nat), m = [(0, .pointer (some ⟨b, 0, .none⟩)), (7, .int .i64 (adv N p t2 : Nat)), (9, xU64.val y), (10, .int .i64 (N : Nat)), (11, .int .i64 (adv N p (t + j) : Nat))] ∧
        H = [bun (ims xU64 b n N len1 T seed tV (.slice (some ⟨g0, 0, .none⟩) N cc) cs2)] ∧ GInv (hslot T seed N) N cs2 (adv N p t2) j2 ∧ 1 ≤ j2 ∧ t2 + j2 = t + j + 1 ∧ cs2[adv N p D]? = some none ∧ (ents (cs2.set (adv N p t2) none)).Perm (mdel M k) ∧
        ∀ (q : Nat) (x : ByteArray × Nat), cs2[q]? = some (some x) → small x.1) ?_ ?_
      · skip
        refine w_block ?_
        refine w_seq ?_
        refine w_drawk [(0, true), (1, true), (2, true), (3, true), (4, true), (5, true), (6, true), (7, true), (8, true), (9, true), (12, true), (14, true), (16, true), (17, true), (18, true), (19, true), (20, true), (21, true), (22, true), (10, false), (11, true), (13, true), (15, true), (23, true)] ([(_, some 10)]) ([]) mixed (by kernel_rfl) (by kernel_rfl) rfl rfl (List.Perm.refl _) (fun w13_ => ?_)
        refine wk_f rfl (f_move rfl) (wk_f rfl (f_move rfl) (wk_f rfl (f_move rfl) (wk_f rfl (f_nilCheck rfl) (wk_f rfl (f_fieldAddr 4 rfl Tryz.underlying127 rfl rfl (by kernel_rfl)) ?_))))
        refine wk_f rfl (f_loadB 0 0 rfl rfl rfl Tryz.underlying125 rfl rfl) ?_
        refine wk_f rfl (f_move rfl) (wk_f rfl (f_indexAddr 3 (i := adv N p (t + j)) rfl rfl Tryz.underlying125 (by kernel_rfl) rfl hnN) ?_)
        refine wk_f rfl (f_fieldAddr 1 rfl Tryz.underlying212 rfl rfl (by kernel_rfl)) ?_
        refine wk_f rfl (f_loadBr (v := .string κ) 0 2 rfl rfl rfl Tryz.underlying9 rfl (icells_j xU64 ho 1 rfl (by omega))) ?_
        refine wk_f rfl (f_move rfl) (wk_f rfl (f_move rfl) (wk_f rfl (f_move rfl) (wk_f rfl (f_move rfl) (wk_f rfl (f_sub rfl rfl (by omega)) ?_))))
        refine wk_f rfl (f_move rfl) (wk_f rfl (f_add rfl rfl (by omega)) ?_)
        refine wk_f rfl (f_move rfl) (wk_f rfl (f_eqv (v' := .int .i64 (j : Nat)) (f_rem rfl rfl (by omega)) (by rw [dst_int hgN hnN, hdj])) ?_)
        refine wk_e rfl (e_call1 _ [] rfl Tryz.func162 (by kernel_rfl) (List.Perm.refl _) (fun w hh hs' => uhome_spec b n N _ T seed cs' _ κ w hsκ hC' hs')) ?_
        rintro _ _ w13 ⟨_, rfl, rfl, rfl⟩
        refine ⟨_, List.Perm.refl _, ?_⟩
        refine wk_f rfl (f_sub rfl rfl (by omega)) ?_
        refine wk_f rfl (f_add rfl rfl (by omega)) ?_
        refine wk_f rfl (f_eqv (v' := .int .i64 (dst N (hslot T seed N κ) (adv N p (t + j)) : Nat)) (f_rem rfl rfl (by omega)) (by rw [dst_int hκ hnN])) ?_
        refine wk_f rfl (f_geq rfl rfl) ?_
        refine wk_end [(0, _), (7, _), (9, _), (10, _), (11, _), (83, _)] ⟨rfl, rfl, rfl, rfl, rfl, rfl, trivial⟩ ?_
        refine w_ifd rfl (fun hc4 => ?_) (fun hc4 => ?_)
        · skip
          have hmv := hG.move hhs hj1 (by omega) ho' (by
            rw [hadv]
            have : (j : Int) ≤ (dst N (hslot T seed N κ) (adv N p (t + j)) : Nat) := hc4
            omega)
          rw [hadv] at hmv
          refine w_seq (w_unb (H := []) (ims xU64 b n N _ T seed tV (.slice (some ⟨g0, 0, .none⟩) N cc) cs') ?_)
          refine w_pick [2, 0, 0] rfl ?_
          refine w_drawk [(0, true), (1, true), (2, true), (3, true), (4, true), (5, true), (6, true), (7, true), (8, true), (9, true), (10, true), (11, true), (12, true), (13, false)] ([(_, some 13), (_, none), (_, none)]) ([]) mixed (by kernel_rfl) (by kernel_rfl) rfl rfl (List.Perm.refl _) (fun w14_ => ?_)
          refine wk_f rfl (f_move rfl) (wk_f rfl (f_nilCheck rfl) (wk_f rfl (f_fieldAddr 4 rfl Tryz.underlying127 rfl rfl (by kernel_rfl)) ?_))
          refine wk_f rfl (f_loadb 1 rfl Tryz.underlying125 rfl rfl rfl) ?_
          refine wk_f rfl (f_move rfl) (wk_f rfl (f_move rfl) (wk_f rfl (f_nilCheck rfl) (wk_f rfl (f_fieldAddr 4 rfl Tryz.underlying127 rfl rfl (by kernel_rfl)) ?_)))
          refine wk_f rfl (f_loadb 1 rfl Tryz.underlying125 rfl rfl rfl) ?_
          refine wk_f rfl (f_move rfl) (wk_f rfl (f_indexAddr 3 (i := adv N p (t + j)) rfl rfl Tryz.underlying125 (by kernel_rfl) rfl hnN) ?_)
          refine wk_f rfl (f_loadsr (cs := icell xU64 (some (κ, vx))) 0 rfl Tryz.underlying212 rfl (by kernel_rfl) rfl (icells_get xU64 ho)) ?_
          refine wk_f rfl (f_indexAddr 3 (i := adv N p t) rfl rfl Tryz.underlying125 (by kernel_rfl) rfl hgN) ?_
          refine wk_e0 rfl (e_storerN 0 (us := icell xU64 (some (κ, vx))) (xs' := icells xU64 (cs'.set (adv N p t) (some (κ, vx)))) rfl rfl rfl rfl (by kernel_rfl) (by simp [icell, xU64, Value.oneCell']) (by rw [icells_len]; show 0 + adv N p t * 3 + 3 ≤ _; omega) (icells_set xU64 _ (by omega))) ?_
          rintro _ _ w14 rfl
          refine ⟨_, pick_perm [1, 1] _ rfl, ?_⟩
          refine wk_end [(0, _), (9, _), (10, _), (11, _)] ⟨rfl, rfl, rfl, rfl, trivial⟩ ?_
          refine w_bun (H := []) [_, _, _] ?_
          refine w_reg (wl_f (f_move rfl) (wl_f (f_assign rfl) (wl_end [(0, _), (7, _), (9, _), (10, _), (11, _)] ⟨rfl, rfl, rfl, rfl, rfl, trivial⟩ ?_)))
          refine ⟨cs'.set (adv N p t) (some (κ, vx)), t + j, 1, rfl, rfl, hmv.1, Nat.le_refl _, rfl, ?_, hmv.2.trans hper, fun q x hx => ?_⟩
          · rw [List.getElem?_set_ne (hG.occ_ne heD)]; exact heD
          · by_cases hq : adv N p t = q
            · rw [← hq, List.getElem?_set_self (by omega)] at hx; injection hx with hx; injection hx with hx; subst hx; exact hsκ
            · rw [List.getElem?_set_ne hq] at hx; exact hsm' q x hx
        · skip
          refine w_sub [(0, _), (7, _), (9, _), (10, _), (11, _)] ⟨rfl, rfl, rfl, rfl, rfl, trivial⟩ (w_skip ?_)
          refine ⟨cs', t, j + 1, rfl, rfl, hG.pass ho' ?_, by omega, by omega, heD, hper, hsm'⟩
          rw [hadv]
          have : ¬ (j : Int) ≤ (dst N (hslot T seed N κ) (adv N p (t + j)) : Nat) := hc4
          omega
      · rintro _ _ w15 ⟨cs2, t2, j2, rfl, rfl, hG2, hj2, htj2, heD2, hper2, hsm2⟩
        refine w_reg (wl_f (f_move rfl) (wl_f (f_add rfl rfl (by omega)) ?_))
        refine wl_f (f_move rfl) (wl_f (f_eqv (v' := .int .i64 (adv N p (t2 + j2) : Nat)) (f_rem rfl rfl (by omega)) (by rw [adv_int hnN (by omega), adv_adv hp (by omega), htj2])) ?_)
        refine wl_f (f_assign rfl) (wl_end [(0, _), (7, _), (9, _), (10, _), (11, _)] ⟨rfl, rfl, rfl, rfl, rfl, trivial⟩ ?_)
        exact ⟨kk - 1, by omega, cs2, t2, j2, rfl, rfl, hG2, hj2, by omega, by omega, heD2, hper2, hsm2⟩
    · skip
      obtain rfl : o = none := by
        cases o with
        | none => rfl
        | some x => exact absurd rfl hc3
      have hI2 := hG.done hhs hj1 (by omega) (by rw [hadv]; exact ho)
      refine w_exit0 ?_
      refine w_seq (w_unb (H := []) (ims xU64 b n N _ T seed tV (.slice (some ⟨g0, 0, .none⟩) N cc) cs') ?_)
      refine w_reg (wl_f (f_move rfl) (wl_f (f_nilCheck rfl) (wl_f (f_fieldAddr 4 rfl Tryz.underlying127 rfl rfl (by kernel_rfl)) ?_)))
      refine wl_f (f_loadb 0 rfl Tryz.underlying125 rfl rfl rfl) ?_
      refine wl_f (f_move rfl) (wl_f (f_build rfl build_ucell0) ?_)
      refine wl_f (f_indexAddr 3 (i := adv N p t) rfl rfl Tryz.underlying125 (by kernel_rfl) rfl hgN) ?_
      refine wl_e0 (e_storerN 2 (us := icell xU64 none) (xs' := icells xU64 (cs'.set (adv N p t) none)) rfl rfl rfl rfl (by kernel_rfl) (by simp [icell, xU64, Value.oneCell']) (by rw [icells_len]; show 0 + adv N p t * 3 + 3 ≤ _; omega) (icells_set xU64 _ (by omega))) ?_
      rintro _ _ w16_7 rfl
      refine wl_end [(9, _)] ⟨rfl, trivial⟩ ?_
      refine w_seq (w_reg (wl_f (f_move rfl) (wl_f (f_assign rfl) (wl_f (f_assign rfl) (wl_end [(4, _), (5, _)] ⟨rfl, rfl, trivial⟩ ?_)))))
      refine w_bun (H := []) [_, _, _] ?_
      refine w_ret ?_
      refine ⟨_, _, fun a ha hh => results_tmps Tryz.results158 rfl a ha _, List.Sublist.refl _, ?_⟩
      have hl2 : (ents (cs'.set (adv N p t) none)).length = len1 := by rw [hper.length_eq, ← hrest.length_eq, hlen1]
      refine ⟨rfl, _, rfl, N, cs'.set (adv N p t) none, ⟨hn1, hn2, hN, hT, by rw [List.length_set]; exact hcl', tV, .slice (some ⟨g0, 0, .none⟩) N cc, by rw [hl2]; rfl⟩, hI2, hper, by omega, fun x hx => ?_⟩
      obtain ⟨q, hq⟩ := mem_ents.1 hx
      have hqg : adv N p t ≠ q := fun h => by rw [← h, List.getElem?_set_self (by omega)] at hq; cases hq
      rw [List.getElem?_set_ne hqg] at hq
      exact hsm' q x hq
end Go.Proofs.YtmagdjlcckgkpaaGreat

/- The deck: numbers, words, tables of words, short texts. -/
namespace Go.Proofs.YtmagdjlcckgkpaaGreat
open Go.RowKit

theorem t41 : SlT Tryz.prog 41 5 1 1 (.int .u8 0) := .mk' Tryz.underlying41 (by kernel_rfl) rfl (by decide)
theorem iv_get1 (l : List Int) (i : Nat) (h : i < l.length) : (iv l)[i * 1]? = some (.int .i64 l[i]) := by simp [iv, h]

/-- A deck whose list can be read. -/
def deck (b : Nat) (lv : Value) (p : Nat) : Res := blk b [lv, .int .i64 p] 77
def DRd (w : World) (b : Nat) (lv : Value) (L : List Int) (p : Nat) : Prop := Rd w (fun k => k = b) 1 lv L.length (iv L) ∧ L.length ≤ 140737488355328 ∧ p ≤ L.length

theorem tmod_bounds (x n : Int) (h : 1 ≤ n) : -n < x.tmod n ∧ x.tmod n < n := by
  have h1 := Int.tmod_lt_of_pos x (b := n) (by omega)
  have h2 := Int.tmod_lt_of_pos (-x) (b := n) (by omega)
  rw [Int.neg_tmod] at h2
  omega

theorem within_spec (x : Int) (n : Nat) (w : World) (hn : 1 ≤ n ∧ n ≤ 4398046511104) :
    Spec Tryz.prog 49 [.int .i64 x, .int .i64 n] w Nil fun r H => ∃ y : Nat, r = .int .i64 y ∧ y < n ∧ H = [] := by
  have hb := tmod_bounds x n (by omega)
  refine enter (n := 12) Tryz.func49 rfl rfl [(0, _), (1, _)] rfl ⟨rfl, rfl, trivial⟩ (Holds.start _ _) ?_
  refine w_seq (w_reg (wl_f (f_assign rfl) (wl_end [(0, _), (1, _)] ⟨rfl, rfl, trivial⟩ ?_)))
  refine w_seq (w_reg (wl_f (f_move rfl) (wl_f (f_move rfl) (wl_f (f_remw rfl rfl (by omega) rfl) ?_))))
  refine wl_f (f_move rfl) (wl_f (f_add rfl rfl (by omega)) ?_)
  refine wl_f (f_move rfl) ?_
  refine wl_f (f_remw (r := (((x.tmod n + n) % n).toNat : Nat)) rfl rfl (by omega) ?_) ?_
  · rw [Int.tmod_eq_emod_of_nonneg (by omega), Int.toNat_of_nonneg (Int.emod_nonneg _ (by omega))]
  refine wl_f (f_assign rfl) (wl_end [(4, _)] ⟨rfl, trivial⟩ ?_)
  refine w_ret ?_
  refine ⟨_, _, fun a ha hh => results_tmps Tryz.results49 rfl a ha _, List.Sublist.refl _, ?_⟩
  exact ⟨_, rfl, by have := Int.emod_lt_of_pos (x.tmod n + n) (b := (n : Int)) (by omega); have := Int.emod_nonneg (x.tmod n + n) (b := (n : Int)) (by omega); omega, rfl⟩

theorem next_spec (b : Nat) (lv : Value) (L : List Int) (p n : Nat) (w : World) (hd : DRd w b lv L p) (hs : Holds w (deck b lv p).foot [deck b lv p] w) (hn : 1 ≤ n ∧ n ≤ 4398046511104) :
    Spec Tryz.prog 35 [.pointer (some ⟨b, 0, .none⟩), .int .i64 n] w (deck b lv p).foot fun r H => ∃ y p' : Nat, r = .int .i64 y ∧ y < n ∧ H = [deck b lv p'] ∧ p' ≤ L.length := by
  obtain ⟨hrd, hL, hp⟩ := hd
  obtain ⟨A, c, rfl, -, hc', g⟩ := hrd
  refine enter (n := 35) Tryz.func35 rfl rfl [(0, _), (1, _)] rfl ⟨rfl, rfl, trivial⟩ hs ?_
  refine w_seq (w_reg (wl_f (f_assign rfl) (wl_end [(0, _), (1, _)] ⟨rfl, rfl, trivial⟩ ?_)))
  refine w_seq (w_seq ?_)
  refine w_draw [(0, true), (1, true), (2, true), (3, true), (4, true), (5, true), (6, true), (7, true), (8, true), (9, true)] (_) ([]) mixed (by kernel_rfl) (by kernel_rfl) rfl (perm_all _) (fun w1_ => ?_)
  refine wd_f rfl (f_move rfl) (wd_f rfl (f_nilCheck rfl) (wd_f rfl (f_fieldAddr 1 rfl Tryz.underlying77 rfl rfl (by kernel_rfl)) ?_))
  refine wd_f rfl (f_loadb 0 rfl Tryz.underlying3 rfl rfl rfl) ?_
  refine wd_f rfl (f_move rfl) (wd_f rfl (f_nilCheck rfl) (wd_f rfl (f_fieldAddr 0 rfl Tryz.underlying77 rfl rfl (by kernel_rfl)) ?_))
  refine wd_f rfl (f_loadb 0 rfl Tryz.underlying22 rfl rfl rfl) ?_
  refine wd_f rfl (f_len rfl Tryz.underlying22) ?_
  refine wd_f rfl (f_geq rfl rfl) ?_
  refine wd_end [(0, _), (1, _), (14, _)] ⟨rfl, rfl, rfl, trivial⟩ ?_
  refine w_ifd rfl (fun hc1 => ?_) (fun hc1 => ?_)
  · skip
    refine w_seq (w_reg (wl_f (f_assign rfl) (wl_end [(4, _)] ⟨rfl, trivial⟩ ?_)))
    refine w_ret ?_
    refine ⟨_, _, fun a ha hh => results_tmps Tryz.results35 rfl a ha _, List.Sublist.refl _, ?_⟩
    exact ⟨0, p, rfl, by omega, rfl, hp⟩
  · skip
    obtain ⟨b1, o1, rfl, hF, -, d1⟩ := g.resolve_left (by omega)
    refine w_skip ?_
    refine w_seq (w_reg (wl_f (f_move rfl) (wl_f (f_nilCheck rfl) (wl_f (f_fieldAddr 1 rfl Tryz.underlying77 rfl rfl (by kernel_rfl)) ?_))))
    refine wl_f (f_loadb 0 rfl Tryz.underlying3 rfl rfl rfl) ?_
    refine wl_f (f_add rfl rfl (by omega)) ?_
    refine wl_f (f_nilCheck rfl) (wl_f (f_fieldAddr 1 rfl Tryz.underlying77 rfl rfl (by kernel_rfl)) ?_)
    refine wl_e0 (e_store0 (us := [_]) rfl rfl rfl (by kernel_rfl) (by simp [Value.oneCell']) rfl rfl) ?_
    rintro _ _ w3_7 rfl
    refine wl_end [(0, _), (1, _)] ⟨rfl, rfl, trivial⟩ ?_
    refine w_seq ?_
    refine w_draw [(0, true), (1, true), (2, true), (3, true), (4, true), (5, true), (6, true), (7, true), (8, true), (9, true), (10, true), (11, true), (12, false), (13, true)] (_) ([]) mixed (by kernel_rfl) (by kernel_rfl) rfl (perm_all _) (fun w4_ => ?_)
    refine wd_f rfl (f_move rfl) (wd_f rfl (f_nilCheck rfl) (wd_f rfl (f_fieldAddr 0 rfl Tryz.underlying77 rfl rfl (by kernel_rfl)) ?_))
    refine wd_f rfl (f_loadb 0 rfl Tryz.underlying22 rfl rfl rfl) ?_
    refine wd_f rfl (f_move rfl) (wd_f rfl (f_nilCheck rfl) (wd_f rfl (f_fieldAddr 1 rfl Tryz.underlying77 rfl rfl (by kernel_rfl)) ?_))
    refine wd_f rfl (f_loadb 0 rfl Tryz.underlying3 rfl rfl rfl) ?_
    refine wd_f rfl (f_sub rfl rfl (by omega)) ?_
    refine wd_f rfl (f_indexAddr 1 (i := p) rfl rfl Tryz.underlying22 (by kernel_rfl) (by omega) (by omega)) ?_
    refine wd_f rfl (f_loado rfl Tryz.underlying3 rfl (d1 (p * 1) _ (iv_get1 L p (by omega))) hF) ?_
    refine wd_f rfl (f_move rfl) (wd_e rfl (e_call0 rfl Tryz.func49 (by kernel_rfl) (fun w hh => within_spec _ n w hn)) ?_)
    rintro _ _ w4 ⟨_, rfl, y, rfl, hy, rfl⟩
    refine ⟨_, List.perm_append_comm_assoc _ _ _, ?_⟩
    refine wd_f rfl (f_assign rfl) (wd_end [(4, _)] ⟨rfl, trivial⟩ ?_)
    refine w_ret ?_
    refine ⟨_, _, fun a ha hh => results_tmps Tryz.results35 rfl a ha _, List.Sublist.refl _, ?_⟩
    exact ⟨y, p + 1, rfl, hy, rfl, by omega⟩
theorem new_spec (A : Option Addr) (l c : Nat) (w : World) : Spec Tryz.prog 9 [.slice A l c] w Nil fun r H => ∃ b, r = .pointer (some ⟨b, 0, .none⟩) ∧ H = [deck b (.slice A l c) 0] := by
  refine enter (n := 6) Tryz.func9 rfl rfl [(0, _)] rfl ⟨rfl, trivial⟩ (Holds.start _ _) ?_
  refine w_seq (w_reg (wl_f (f_assign rfl) (wl_end [(0, _)] ⟨rfl, trivial⟩ ?_)))
  refine w_seq (w_reg (wl_f (f_move rfl) (wl_f (f_build (us := [(0, .slice A l c)]) (v := .agg [.slice A l c, .int .i64 0].toArray) rfl (fun w => by kernel_rfl)) ?_)))
  refine wl_e (e_box (cs := [_, _]) rfl rfl) ?_
  rintro _ _ w1_2 ⟨b1_2, rfl, rfl⟩
  refine wl_f (f_assign rfl) (wl_end [(2, _)] ⟨rfl, trivial⟩ ?_)
  refine w_ret ?_
  refine ⟨_, _, fun a ha hh => results_tmps Tryz.results9 rfl a ha _, List.Sublist.refl _, ?_⟩
  exact ⟨_, rfl, rfl⟩
theorem u64v_set {l : List Nat} {x : Nat} (a : Nat) (hx : x < l.length) : (u64v l).take (0 + x * 1) ++ [.int .u64 (a : Int)] ++ (u64v l).drop (0 + x * 1 + 1) = u64v (l.set x a) := by
  rw [List.set_eq_take_append_cons_drop, if_pos hx]
  simp [u64v, List.map_take, List.map_drop]
theorem made1 (n : Nat) : (madeCells (Value.int .u64 0).cells (n * 1)).toList = u64v (List.replicate n 0) := by
  simp only [madeCells, Array.toList_map, Array.toList_range, Nat.mul_one]
  have h : ∀ i, ((Value.int .u64 0).cells)[i % (Value.int .u64 0).cells.size]! = Value.int .u64 ((0 : Nat) : Int) := fun i => by
    show (#[Value.int .u64 0] : Array Value)[i % 1]! = _
    rw [Nat.mod_one]; rfl
  induction n with
  | zero => rfl
  | succ n ih => rw [List.range_succ, List.map_append, ih, List.replicate_succ']; simp only [u64v, List.map_append, List.map_cons, List.map_nil, h]
set_option maxHeartbeats 1000000 in
theorem short_spec (b : Nat) (lv : Value) (L : List Int) (p : Nat) (w : World) (hd : DRd w b lv L p) (hs : Holds w (deck b lv p).foot [deck b lv p] w) :
    Spec Tryz.prog 10 [.pointer (some ⟨b, 0, .none⟩)] w (deck b lv p).foot fun r H => ∃ (s : ByteArray) (p' : Nat), r = .string s ∧ s.size ≤ 9 ∧ H = [deck b lv p'] ∧ p' ≤ L.length := by
  refine enter (n := 14) Tryz.func10 rfl rfl [(0, _)] rfl ⟨rfl, trivial⟩ hs ?_
  refine w_seq (w_reg (wl_f (f_assign rfl) (wl_end [(0, _)] ⟨rfl, trivial⟩ ?_)))
  refine w_seq ?_
  refine w_drawk [(0, true), (4, true), (1, false), (2, true), (3, true), (5, false), (6, true), (7, true), (8, false), (9, false), (10, true), (11, true)] ([]) ([_]) mixed (by kernel_rfl) (by kernel_rfl) rfl rfl (List.Perm.refl _) (fun w1_ => ?_)
  refine wk_f rfl (f_move rfl) (wk_f rfl (f_move rfl) (wk_e rfl (e_call1 (deck b lv p) [] rfl Tryz.func35 (by kernel_rfl) (List.Perm.refl _) (fun w hh hs' => next_spec b lv L p 2 w ⟨hd.1.old1 hh (List.Perm.refl _), hd.2⟩ hs' (by omega))) ?_))
  rintro _ _ w1 ⟨_, rfl, y1, p1, rfl, hy1, rfl, hp1⟩
  refine ⟨_, List.Perm.refl _, ?_⟩
  refine wk_f rfl (f_eqv (v' := .int .i64 ((1 + y1 : Nat) : Int)) (f_add rfl rfl (by omega)) (by congr 1)) ?_
  refine wk_f rfl (f_slices (l := 0) (u := 1 + y1) rfl Tryz.underlying9 rfl ⟨_, rfl⟩ (by omega) (show 1 + y1 ≤ 8 by omega)) ?_
  refine wk_e rfl (e_call1 (deck b lv p1) [] rfl Tryz.func35 (by kernel_rfl) (List.Perm.refl _) (fun w hh hs' => next_spec b lv L p1 5 w ⟨hd.1.old1 hh (List.Perm.refl _), hd.2.1, hp1⟩ hs' (by omega))) ?_
  rintro _ _ w2 ⟨_, rfl, y2, p2, rfl, hy2, rfl, hp2⟩
  refine ⟨_, List.Perm.refl _, ?_⟩
  refine wk_f rfl (f_eqv (v' := .int .i64 ((97 + y2 : Nat) : Int)) (f_add rfl rfl (by omega)) (by congr 1)) ?_
  refine wk_f rfl (f_convb rfl Tryz.underlying3 Tryz.underlying5 (by omega)) ?_
  refine wk_e rfl (e_lit1 (cs := [_]) t41 rfl rfl rfl (by omega)) ?_
  rintro _ _ w1_8 ⟨b1_8, rfl, rfl⟩
  refine ⟨_, List.perm_middle.symm, ?_⟩
  refine wk_e rfl (f_b2s (xs := [97 + y2]) rfl Tryz.underlying41 Tryz.underlying5 Tryz.underlying9 (fun w hh => Rd.held0 hh (i := 0) rfl)).eff ?_
  rintro _ _ _ ⟨rfl, rfl⟩
  refine ⟨_, List.Perm.refl _, ?_⟩
  refine wk_f rfl (f_adds rfl rfl (by rw [str_size, ByteArray.size_extract]; show min (1 + y1) 8 - 0 + 1 ≤ _; omega)) ?_
  refine wk_f rfl (f_assign rfl) (wk_endp [(2, _)] [1] ⟨rfl, trivial⟩ rfl ?_)
  refine w_ret ?_
  refine ⟨_, _, fun a ha hh => results_tmps Tryz.results10 rfl a ha _, List.Sublist.refl _, ?_⟩
  exact ⟨_, p2, rfl, by rw [ByteArray.size_append, str_size, ByteArray.size_extract]; show min (1 + y1) 8 - 0 + 1 ≤ _; omega, rfl, hp2⟩
end Go.Proofs.YtmagdjlcckgkpaaGreat

/- Tables: the example of the chapter. -/
namespace Go.Proofs.YtmagdjlcckgkpaaGreat
open Go.RowKit

def sv (l : List ByteArray) : List Value := l.map Value.string
theorem sv_get {l : List ByteArray} {i : Nat} {s : ByteArray} (h : l[i]? = some s) : (sv l)[i * 1]? = some (.string s) := by simp [sv, h]
theorem TbR.nd {α : Type} {K : VI α} {b n : Nat} {T : List Nat} {seed : Int} {M : List (ByteArray × α)} {r : Res} (h : TbR K b n T seed M r) : (keys M).Nodup := by
  obtain ⟨N, cs, hC, hI, hM, hle, hsm⟩ := h
  exact (keys_perm hM).nodup_iff.1 hI.nd
theorem TbR.len {α : Type} {K : VI α} {b n : Nat} {T : List Nat} {seed : Int} {M : List (ByteArray × α)} {r : Res} (h : TbR K b n T seed M r) : M.length ≤ n := by
  obtain ⟨N, cs, hC, hI, hM, hle, hsm⟩ := h
  rw [← hM.length_eq]; exact hle
theorem small_of {s : ByteArray} (h : s.size ≤ 100) : small s := by unfold small; omega
end Go.Proofs.YtmagdjlcckgkpaaGreat

/- The proof kit, twelfth part: the order of texts; sorted lists of texts. -/
namespace Go.Proofs.YtmagdjlcckgkpaaGreat
open Go.RowKit

/-! ### The order of texts -/
theorem bl_irrefl : ∀ l : List UInt8, Op.bytesLess l l = false
  | [] => rfl
  | a :: l => by simp [Op.bytesLess, bl_irrefl l]
theorem bl_trans : ∀ a b c : List UInt8, Op.bytesLess a b = true → Op.bytesLess b c = true → Op.bytesLess a c = true
  | _, [], _, h, _ => by simp [Op.bytesLess] at h
  | _, _ :: _, [], _, h => by simp [Op.bytesLess] at h
  | [], _ :: _, _ :: _, _, _ => rfl
  | a :: x, b :: y, c :: z, h1, h2 => by
    simp only [Op.bytesLess, Bool.or_eq_true, Bool.and_eq_true, decide_eq_true_eq, beq_iff_eq] at *
    rcases h1 with h1 | ⟨rfl, h1⟩
    · rcases h2 with h2 | ⟨rfl, h2⟩
      · exact .inl (UInt8.lt_trans h1 h2)
      · exact .inl h1
    · rcases h2 with h2 | ⟨rfl, h2⟩
      · exact .inl h2
      · exact .inr ⟨rfl, bl_trans x y z h1 h2⟩
theorem bl_total : ∀ a b : List UInt8, Op.bytesLess a b = false → Op.bytesLess b a = false → a = b
  | [], [], _, _ => rfl
  | [], _ :: _, h, _ => by simp [Op.bytesLess] at h
  | _ :: _, [], _, h => by simp [Op.bytesLess] at h
  | a :: x, b :: y, h1, h2 => by
    simp only [Op.bytesLess, Bool.or_eq_false_iff, Bool.and_eq_false_iff, decide_eq_false_iff_not, beq_eq_false_iff_ne] at *
    have e : a = b := UInt8.le_antisymm (UInt8.not_lt.1 h2.1) (UInt8.not_lt.1 h1.1)
    subst e
    rw [bl_total x y (h1.2.resolve_left (by simp)) (h2.2.resolve_left (by simp))]
def nlt (a b : ByteArray) : Bool := Op.bytesLess a.data.toList b.data.toList
theorem nlt_irrefl (a : ByteArray) : nlt a a = false := bl_irrefl _
theorem nlt_trans {a b c : ByteArray} (h1 : nlt a b = true) (h2 : nlt b c = true) : nlt a c = true := bl_trans _ _ _ h1 h2
theorem nlt_total {a b : ByteArray} (h1 : nlt a b = false) (h2 : nlt b a = false) : a = b := by
  have := bl_total _ _ h1 h2
  cases a; cases b
  exact congrArg ByteArray.mk (Array.ext' this)
theorem nlt_ne {a b : ByteArray} (h : nlt a b = true) : a ≠ b := fun e => by subst e; rw [nlt_irrefl] at h; cases h
theorem nlt_asymm {a b : ByteArray} (h : nlt a b = true) : nlt b a = false := by
  cases h' : nlt b a with
  | false => rfl
  | true => have := nlt_trans h h'; rw [nlt_irrefl] at this; cases this
/-- a is not above b, b not above c: a is not above c. -/
theorem nle_trans {a b c : ByteArray} (h1 : nlt b a = false) (h2 : nlt c b = false) : nlt c a = false := by
  cases h : nlt c a with
  | false => rfl
  | true =>
    cases h3 : nlt a b with
    | true => rw [nlt_trans h h3] at h2; cases h2
    | false => rw [nlt_total h3 h1] at h; rw [h] at h2; cases h2


/-! ### Sorted lists of texts -/
def Srts (l : List ByteArray) : Prop := l.Pairwise fun a b => nlt a b = true
def Wks (l : List ByteArray) : Prop := l.Pairwise fun a b => nlt b a = false
theorem srts_unique : ∀ {a b : List ByteArray}, Srts a → Srts b → a.Perm b → a = b
  | [], b, _, _, p => by rw [List.nil_perm.1 p]
  | x :: a, [], _, _, p => by have := p.length_eq; simp at this
  | x :: a, y :: b, ha, hb, p => by
    obtain ⟨ha1, ha2⟩ := List.pairwise_cons.1 ha
    obtain ⟨hb1, hb2⟩ := List.pairwise_cons.1 hb
    have e : x = y := by
      rcases List.mem_cons.1 (p.mem_iff.1 (List.mem_cons_self ..)) with h | h
      · exact h
      · rcases List.mem_cons.1 (p.mem_iff.2 (List.mem_cons_self ..)) with h' | h'
        · exact h'.symm
        · have := nlt_asymm (hb1 x h)
          rw [ha1 y h'] at this
          cases this
    subst e
    rw [srts_unique ha2 hb2 (List.Perm.cons_inv p)]
theorem wks_srts {l : List ByteArray} (h : Wks l) (hn : l.Nodup) : Srts l := by
  refine (List.Pairwise.and h hn).imp fun {a b} hab => ?_
  cases h' : nlt a b with
  | true => rfl
  | false => exact absurd (nlt_total h' hab.1) hab.2
theorem wks_insert {q r : List ByteArray} {t : ByteArray} (h : Wks (q ++ r)) (hq : ∀ y ∈ q, nlt t y = false) (hr : ∀ y ∈ r, nlt t y = true) : Wks (q ++ t :: r) := by
  unfold Wks at *
  rw [List.pairwise_append] at h ⊢
  refine ⟨h.1, List.pairwise_cons.2 ⟨fun y hy => nlt_asymm (hr y hy), h.2.1⟩, fun a ha b hb => ?_⟩
  rcases List.mem_cons.1 hb with rfl | hb
  · exact hq a ha
  · exact h.2.2 a ha b hb
end Go.Proofs.YtmagdjlcckgkpaaGreat

/- Sorting at most twelve texts; the keys of a table. -/
namespace Go.Proofs.YtmagdjlcckgkpaaGreat
open Go.RowKit

set_option maxRecDepth 100000 in
theorem len64_spec (k : Nat) (w : World) (hk : k < 256) : Spec Tryz.prog 134 [.int .u64 k] w Nil fun r H => ∃ n : Int, r = .int .i64 n ∧ H = [] := by
  refine enter (n := 25) Tryz.func134 rfl rfl [(0, _)] rfl ⟨rfl, trivial⟩ (Holds.start _ _) ?_
  refine w_seq (w_reg (wl_f (f_assign rfl) (wl_end [(0, _), (2, _)] ⟨rfl, rfl, trivial⟩ ?_)))
  refine w_seq (w_seq (w_reg (wl_f (f_move rfl) (wl_f (f_geq rfl rfl) ?_))))
  refine wl_end [(0, _), (2, _), (4, _)] ⟨rfl, rfl, rfl, trivial⟩ ?_
  refine w_ifd rfl (fun h => absurd h (by omega)) (fun _ => ?_)
  refine w_skip ?_
  refine w_seq (w_seq (w_reg (wl_f (f_move rfl) (wl_f (f_geq rfl rfl) ?_))))
  refine wl_end [(0, _), (2, _), (8, _)] ⟨rfl, rfl, rfl, trivial⟩ ?_
  refine w_ifd rfl (fun h => absurd h (by omega)) (fun _ => ?_)
  refine w_skip ?_
  refine w_seq (w_seq (w_reg (wl_f (f_move rfl) (wl_f (f_geq rfl rfl) ?_))))
  refine wl_end [(0, _), (2, _), (14, _)] ⟨rfl, rfl, rfl, trivial⟩ ?_
  refine w_ifd rfl (fun h => absurd h (by omega)) (fun _ => ?_)
  refine w_skip ?_
  refine w_seq (w_reg (wl_f (f_move rfl) (wl_f (f_move rfl) (wl_f (f_convb rfl Tryz.underlying33 Tryz.underlying5 (by omega)) ?_))))
  refine wl_f (f_indexs rfl rfl Tryz.underlying9 rfl (Array.getElem?_eq_getElem (show k < 256 from hk))) ?_
  generalize hb : UInt8.toNat _ = b
  have hb' : b < 256 := hb ▸ UInt8.toNat_lt _
  clear hb
  refine wl_f (f_convi rfl Tryz.underlying5 Tryz.underlying3 (by omega)) ?_
  refine wl_f (f_addw rfl rfl) ?_
  refine wl_f (f_assign rfl) (wl_end [(2, _)] ⟨rfl, trivial⟩ ?_)
  refine w_ret ?_
  refine ⟨_, _, fun a ha hh => results_tmps Tryz.results134 rfl a ha _, List.Sublist.refl _, ?_⟩
  exact ⟨_, rfl, rfl⟩
theorem len_spec (k : Nat) (w : World) (hk : k < 256) : Spec Tryz.prog 117 [.int .u64 k] w Nil fun r H => ∃ n : Int, r = .int .i64 n ∧ H = [] := by
  refine enter (n := 8) Tryz.func117 rfl rfl [(0, _)] rfl ⟨rfl, trivial⟩ (Holds.start _ _) ?_
  refine w_seq (w_reg (wl_f (f_assign rfl) (wl_end [(0, _)] ⟨rfl, trivial⟩ ?_)))
  refine w_seq (w_iff rfl ?_)
  refine w_skip ?_
  refine w_seq (w_reg (wl_f (f_move rfl) (wl_e (e_call0 rfl Tryz.func134 (by kernel_rfl) (fun w hh => len64_spec k w hk)) ?_)))
  rintro _ _ w1 ⟨_, rfl, n, rfl, rfl⟩
  refine wl_f (f_assign rfl) (wl_end [(2, _)] ⟨rfl, trivial⟩ ?_)
  refine w_ret ?_
  refine ⟨_, _, fun a ha hh => results_tmps Tryz.results117 rfl a ha _, List.Sublist.refl _, ?_⟩
  exact ⟨_, rfl, rfl⟩


theorem isnan_spec (a : ByteArray) (w : World) : Spec Tryz.prog 143 [.string a] w Nil fun r H => r = .bool false ∧ H = [] := by
  refine enter (n := 6) Tryz.func143 rfl rfl [(0, _)] rfl ⟨rfl, trivial⟩ (Holds.start _ _) ?_
  refine w_seq (w_reg (wl_f (f_assign rfl) (wl_end [(0, _)] ⟨rfl, trivial⟩ ?_)))
  refine w_seq (w_reg (wl_f (f_move rfl) (wl_f (f_move rfl) (wl_f (f_neqs rfl rfl) ?_))))
  refine wl_f (f_assign rfl) (wl_end [(2, _)] ⟨rfl, trivial⟩ ?_)
  refine w_ret ?_
  refine ⟨_, _, fun a ha hh => results_tmps Tryz.results143 rfl a ha _, List.Sublist.refl _, ?_⟩
  exact ⟨by show Value.bool _ = _; simp, rfl⟩
theorem less_spec (a b : ByteArray) (w : World) : Spec Tryz.prog 130 [.string a, .string b] w Nil fun r H => r = .bool (nlt a b) ∧ H = [] := by
  refine enter (n := 17) Tryz.func130 rfl rfl [(0, _), (1, _)] rfl ⟨rfl, rfl, trivial⟩ (Holds.start _ _) ?_
  refine w_seq (w_reg (wl_f (f_assign rfl) (wl_end [(0, _), (1, _)] ⟨rfl, rfl, trivial⟩ ?_)))
  refine w_seq (w_reg (wl_f (f_move rfl) (wl_e (e_call0 rfl Tryz.func143 (by kernel_rfl) (fun w hh => isnan_spec a w)) ?_)))
  rintro _ _ w1 ⟨_, rfl, rfl, rfl⟩
  refine wl_f (f_move rfl) (wl_gs rfl rfl ?_)
  refine wl_gs rfl rfl ?_
  skip
  refine wl_gs rfl rfl ?_
  refine wl_f (f_pick0 rfl rfl) ?_
  refine wl_f (f_move rfl) (wl_gf rfl rfl (f_move rfl) ?_)
  refine wl_gf rfl rfl (f_move rfl) ?_
  refine wl_gf rfl rfl (f_lsss rfl rfl) ?_
  refine wl_f (f_pick0 rfl rfl) ?_
  refine wl_f (f_assign rfl) (wl_end [(4, _)] ⟨rfl, trivial⟩ ?_)
  refine w_ret ?_
  refine ⟨_, _, fun a ha hh => results_tmps Tryz.results130 rfl a ha _, List.Sublist.refl _, ?_⟩
  exact ⟨rfl, rfl⟩
theorem sv_len (l : List ByteArray) : (sv l).length = l.length := by simp [sv]
theorem sv_app (a b : List ByteArray) : sv (a ++ b) = sv a ++ sv b := by simp [sv]
theorem sc_get (a b : List ByteArray) (x : ByteArray) {i : Nat} (h : a.length = i) : ((sv (a ++ x :: b)).drop (0 + i * 1)).take 1 = [.string x] := by
  rw [sv_app, List.drop_left' (by rw [sv_len]; omega)]
  rfl
theorem sc_set (a b : List ByteArray) (x y : ByteArray) {i : Nat} (h : a.length = i) : (sv (a ++ x :: b)).take (0 + i * 1) ++ [.string y] ++ (sv (a ++ x :: b)).drop (0 + i * 1 + 1) = sv (a ++ y :: b) := by
  rw [sv_app, List.take_left' (by rw [sv_len]; omega), ← List.drop_drop, List.drop_left' (by rw [sv_len]; omega), sv_app]
  simp [sv]
theorem take_snoc {α : Type} (l : List α) (i : Nat) (t : α) (h : l[i]? = some t) : l.take (i + 1) = l.take i ++ [t] := by rw [List.take_add_one, h]; rfl

set_option maxHeartbeats 1000000 in
theorem insertion_spec (g cap : Nat) (l : List ByteArray) (w : World) (h0 : 0 < l.length) (hn : l.length ≤ 1000000)
    (hs : Holds w (row (.slice (some ⟨g, 0, .none⟩) l.length cap) 9 1 l.length (sv l)).foot [row (.slice (some ⟨g, 0, .none⟩) l.length cap) 9 1 l.length (sv l)] w) :
    Spec Tryz.prog 124 [.slice (some ⟨g, 0, .none⟩) l.length cap, .int .i64 0, .int .i64 l.length] w (row (.slice (some ⟨g, 0, .none⟩) l.length cap) 9 1 l.length (sv l)).foot
      fun _ H => ∃ l', H = [row (.slice (some ⟨g, 0, .none⟩) l.length cap) 9 1 l.length (sv l')] ∧ l'.Perm l ∧ Wks l' := by
  refine enter (n := 49) Tryz.func124 rfl rfl [(0, _), (1, _), (2, _)] rfl ⟨rfl, rfl, rfl, trivial⟩ hs ?_
  refine w_seq (w_reg (wl_f (f_move rfl) (wl_f (f_add rfl rfl (by omega)) ?_)))
  refine wl_f (f_assign rfl) (wl_end [(0, _), (1, _), (2, _), (6, _)] ⟨rfl, rfl, rfl, rfl, trivial⟩ ?_)
  refine w_block ?_
  refine w_loop (fun k m H w => ∃ (i : Nat) (p : List ByteArray), m = [(0, .slice (some ⟨g, 0, .none⟩) l.length cap), (1, .int .i64 0), (2, .int .i64 l.length), (6, .int .i64 i)] ∧
    H = [row (.slice (some ⟨g, 0, .none⟩) l.length cap) 9 1 l.length (sv (p ++ l.drop i))] ∧ p.length = i ∧ 1 ≤ i ∧ k + i = l.length ∧ p.Perm (l.take i) ∧ Wks p) (l.length - 1)
    ⟨1, l.take 1, rfl, by rw [List.take_append_drop], by rw [List.length_take]; omega, by omega, by omega, List.Perm.refl _, by
      obtain ⟨x, l', rfl⟩ := List.exists_cons_of_length_pos h0
      exact List.pairwise_singleton _ _⟩ ?_
  rintro k _ _ w1 ⟨i, p, rfl, rfl, hpl, hi1, hk, hperm, hwk⟩
  refine w_seq (w_seq (w_reg (wl_f (f_move rfl) (wl_f (f_move rfl) (wl_f (f_lss rfl rfl) ?_)))))
  refine wl_end [(0, _), (1, _), (2, _), (6, _), (12, _)] ⟨rfl, rfl, rfl, rfl, rfl, trivial⟩ ?_
  refine w_ifd rfl (fun hc1 => ?_) (fun hc1 => ?_)
  · skip
    obtain ⟨t, ht⟩ : ∃ t, l[i]? = some t := ⟨l[i]'(by omega), List.getElem?_eq_getElem (by omega)⟩
    have hdrop : l.drop i = t :: l.drop (i + 1) := by
      obtain ⟨hlt, he⟩ := List.getElem?_eq_some_iff.1 ht
      rw [← he, List.drop_eq_getElem_cons hlt]
    refine w_skip ?_
    refine w_seq (w_block ?_)
    refine w_seq (w_reg (wl_f (f_move rfl) (wl_f (f_assign rfl) (wl_end [(0, _), (1, _), (2, _), (6, _), (7, _)] ⟨rfl, rfl, rfl, rfl, rfl, trivial⟩ ?_))))
    refine w_block ?_
    refine w_loop (fun j m H w => ∃ (q r : List ByteArray), m = [(0, .slice (some ⟨g, 0, .none⟩) l.length cap), (1, .int .i64 0), (2, .int .i64 l.length), (6, .int .i64 i), (7, .int .i64 j)] ∧
      H = [row (.slice (some ⟨g, 0, .none⟩) l.length cap) 9 1 l.length (sv (q ++ t :: (r ++ l.drop (i + 1))))] ∧ q.length = j ∧ q ++ r = p ∧ ∀ x ∈ r, nlt t x = true) i
      ⟨p, [], rfl, by rw [hdrop]; simp, hpl, by simp, by simp⟩ ?_
    rintro j _ _ w2 ⟨q, r, rfl, rfl, hq, hqr, hr⟩
    refine w_seq (w_seq ?_)
    refine w_post (fun m H w' => ∃ c : Bool, m = [(0, .slice (some ⟨g, 0, .none⟩) l.length cap), (1, .int .i64 0), (2, .int .i64 l.length), (6, .int .i64 i), (7, .int .i64 j), (30, .bool c)] ∧
      H = [row (.slice (some ⟨g, 0, .none⟩) l.length cap) 9 1 l.length (sv (q ++ t :: (r ++ l.drop (i + 1))))] ∧ (c = true → ∃ q' y, q = q' ++ [y] ∧ nlt t y = true) ∧ (c = false → ∀ y ∈ q, nlt t y = false)) ?_ ?_
    · by_cases hG4 : (0 : Int) < (j : Int)
      · skip
        obtain ⟨q', y, rfl⟩ : ∃ q' y, q = q' ++ [y] := ⟨q.dropLast, q.getLast (by rintro rfl; simp at hq; omega), (List.dropLast_concat_getLast _).symm⟩
        have hq' : q'.length + 1 = j := by simpa using hq
        have hlen : j < l.length := by
          have := congrArg List.length hqr
          simp at this
          omega
        refine w_draw [(0, true), (1, true), (2, true), (3, true), (4, true), (5, true), (6, true), (7, true), (8, true), (9, true), (10, true), (11, true), (12, true), (13, false), (14, true)] (_) ([]) mixed (by kernel_rfl) (by kernel_rfl) rfl (perm_all _) (fun w4_ => ?_)
        refine wd_f rfl (f_move rfl) (wd_f rfl (f_move rfl) (wd_f rfl (f_eqv (f_gtr rfl rfl) (congrArg Value.bool (decide_eq_true hG4))) ?_))
        refine wd_f rfl (f_move rfl) (wd_gf rfl rfl rfl (f_move rfl) ?_)
        refine wd_gf rfl rfl rfl (f_move rfl) ?_
        refine wd_gf rfl rfl rfl (f_indexAddr 1 (i := j) rfl rfl Tryz.underlying30 (by kernel_rfl) rfl hlen) ?_
        refine wd_gf rfl rfl rfl (f_loadr1 (v := .string t) 0 rfl Tryz.underlying9 rfl rfl (sc_get _ _ _ hq)) ?_
        refine wd_gf rfl rfl rfl (f_move rfl) ?_
        refine wd_gf rfl rfl rfl (f_move rfl) ?_
        refine wd_gf rfl rfl rfl (f_sub rfl rfl (by omega)) ?_
        refine wd_gf rfl rfl rfl (f_indexAddr 1 (i := q'.length) rfl rfl Tryz.underlying30 (by kernel_rfl) (by omega) (by omega)) ?_
        refine wd_gf rfl rfl rfl (f_loadr1 (v := .string y) 0 rfl Tryz.underlying9 rfl rfl (by rw [List.append_assoc, List.singleton_append]; exact sc_get q' _ y rfl)) ?_
        refine wd_ge rfl rfl rfl (e_call0 rfl Tryz.func130 (by kernel_rfl) (fun w hh => less_spec t y w)) ?_
        rintro _ _ w4 ⟨_, rfl, rfl, rfl⟩
        refine ⟨_, List.Perm.refl _, ?_⟩
        refine wd_f rfl (f_pick rfl rfl rfl) ?_
        refine wd_end [(0, _), (1, _), (2, _), (6, _), (7, _), (30, _)] ⟨rfl, rfl, rfl, rfl, rfl, rfl, trivial⟩ ?_
        refine ⟨nlt t y, rfl, rfl, fun h => ⟨q', y, rfl, h⟩, fun h z hz => ?_⟩
        rcases List.mem_append.1 hz with hz | hz
        · rw [← hqr] at hwk
          have := (List.pairwise_append.1 (List.pairwise_append.1 hwk).1).2.2 z hz y (List.mem_singleton.2 rfl)
          exact nle_trans this h
        · rw [List.mem_singleton] at hz; subst hz; exact h
      · skip
        refine w_draw [(0, true), (1, true), (2, true), (3, true), (4, true), (5, true), (6, true), (7, true), (8, true), (9, true), (10, true), (11, true), (12, true), (13, false), (14, true)] (_) ([]) mixed (by kernel_rfl) (by kernel_rfl) rfl (perm_all _) (fun w4_ => ?_)
        refine wd_f rfl (f_move rfl) (wd_f rfl (f_move rfl) (wd_f rfl (f_eqv (f_gtr rfl rfl) (congrArg Value.bool (decide_eq_false hG4))) ?_))
        refine wd_f rfl (f_move rfl) (wd_gs rfl rfl rfl ?_)
        refine wd_gs rfl rfl rfl ?_
        refine wd_gs rfl rfl rfl ?_
        refine wd_gs rfl rfl rfl ?_
        refine wd_gs rfl rfl rfl ?_
        refine wd_gs rfl rfl rfl ?_
        refine wd_gs rfl rfl rfl ?_
        refine wd_gs rfl rfl rfl ?_
        refine wd_gs rfl rfl rfl ?_
        refine wd_ges rfl rfl rfl ?_
        refine wd_f rfl (f_pick rfl rfl rfl) ?_
        refine wd_end [(0, _), (1, _), (2, _), (6, _), (7, _), (30, _)] ⟨rfl, rfl, rfl, rfl, rfl, rfl, trivial⟩ ?_
        refine ⟨false, rfl, rfl, fun h => (by cases h), fun _ y hy => ?_⟩
        have : q = [] := List.eq_nil_of_length_eq_zero (by omega)
        subst this; cases hy
    rintro _ _ w5 ⟨c, rfl, rfl, hct, hcf⟩
    refine w_ifb rfl (fun hc2 => ?_) (fun hc2 => ?_)
    · skip
      obtain ⟨q', y, rfl, hty⟩ := hct hc2
      have hq' : q'.length + 1 = j := by simpa using hq
      have hlen : j < l.length := by
        have := congrArg List.length hqr
        simp at this
        omega
      rw [List.append_assoc, List.singleton_append]
      refine w_skip ?_
      refine w_seq (w_block ?_)
      refine w_drawk [(0, true), (1, true), (2, true), (3, true), (4, true), (5, true), (6, true), (7, true), (8, true), (9, true), (10, true), (11, true), (12, true), (13, true), (14, true), (15, false), (16, true), (17, false)] ([(_, some 15)]) ([]) mixed (by kernel_rfl) (by kernel_rfl) rfl rfl (List.Perm.refl _) (fun w6_ => ?_)
      refine wk_f rfl (f_move rfl) (wk_f rfl (f_move rfl) (wk_f rfl (f_move rfl) (wk_f rfl (f_move rfl) (wk_f rfl (f_sub rfl rfl (by omega)) ?_))))
      refine wk_f rfl (f_move rfl) (wk_f rfl (f_move rfl) (wk_f rfl (f_sub rfl rfl (by omega)) ?_))
      refine wk_f rfl (f_indexAddr 1 (i := q'.length) rfl rfl Tryz.underlying30 (by kernel_rfl) (by omega) (by omega)) ?_
      refine wk_f rfl (f_loadr1 (v := .string y) 0 rfl Tryz.underlying9 rfl rfl (sc_get q' _ y rfl)) ?_
      refine wk_f rfl (f_move rfl) (wk_f rfl (f_move rfl) (wk_f rfl (f_indexAddr 1 (i := j) rfl rfl Tryz.underlying30 (by kernel_rfl) rfl (by omega)) ?_))
      refine wk_f rfl (f_loadr1 (v := .string t) 0 rfl Tryz.underlying9 rfl rfl (by have := sc_get (q' ++ [y]) (r ++ l.drop (i + 1)) t hq; rwa [List.append_assoc, List.singleton_append] at this)) ?_
      refine wk_f rfl (f_indexAddr 1 (i := j) rfl rfl Tryz.underlying30 (by kernel_rfl) rfl (by omega)) ?_
      refine wk_e0 rfl (e_storer0 (us := [.string y]) (xs' := sv (q' ++ y :: y :: (r ++ l.drop (i + 1)))) rfl rfl rfl (by kernel_rfl) (by simp [Value.oneCell']) (by rw [sv_len]; simp; omega) (by have := sc_set (q' ++ [y]) (r ++ l.drop (i + 1)) t y hq; simpa using this)) ?_
      rintro _ _ w6_15 rfl
      refine ⟨_, List.Perm.refl _, ?_⟩
      refine wk_f rfl (f_indexAddr 1 (i := q'.length) rfl rfl Tryz.underlying30 (by kernel_rfl) (by omega) (by omega)) ?_
      refine wk_e0 rfl (e_storer0 (us := [.string t]) (xs' := sv (q' ++ t :: y :: (r ++ l.drop (i + 1)))) rfl rfl rfl (by kernel_rfl) (by simp [Value.oneCell']) (by rw [sv_len]; simp; try omega) (sc_set q' _ y t rfl)) ?_
      rintro _ _ w6_17 rfl
      refine ⟨_, List.Perm.refl _, ?_⟩
      refine wk_end [(0, _), (1, _), (2, _), (6, _), (7, _)] ⟨rfl, rfl, rfl, rfl, rfl, trivial⟩ ?_
      refine w_reg (wl_f (f_move rfl) (wl_f (f_sub rfl rfl (by omega)) ?_))
      refine wl_f (f_assign rfl) (wl_end [(0, _), (1, _), (2, _), (6, _), (7, _)] ⟨rfl, rfl, rfl, rfl, rfl, trivial⟩ ?_)
      refine ⟨j - 1, by omega, q', y :: r, ?_, rfl, by omega, by rw [← hqr]; simp, ?_⟩
      · rw [show ((j - 1 : Nat) : Int) = (j : Int) - 1 by omega]
      · intro x hx
        rcases List.mem_cons.1 hx with rfl | hx
        · exact hty
        · exact hr x hx
    · skip
      have hall := hcf (by simpa using hc2)
      refine w_exit0 ?_
      refine w_reg (wl_f (f_move rfl) (wl_f (f_add rfl rfl (by omega)) ?_))
      refine wl_f (f_assign rfl) (wl_end [(0, _), (1, _), (2, _), (6, _)] ⟨rfl, rfl, rfl, rfl, trivial⟩ ?_)
      refine ⟨k - 1, by omega, i + 1, q ++ t :: r, rfl, by simp, ?_, by omega, by omega, ?_, ?_⟩
      · have := congrArg List.length hqr
        simp at this ⊢
        omega
      · rw [take_snoc l i t ht]
        refine List.Perm.trans ?_ ((hperm.append_right [t]))
        rw [← hqr, List.append_assoc]
        exact List.Perm.append_left q (List.perm_append_singleton t r).symm
      · rw [← hqr] at hwk
        exact wks_insert hwk hall hr
  · skip
    rw [List.take_of_length_le (by omega)] at hperm
    rw [List.drop_eq_nil_of_le (by omega), List.append_nil]
    refine w_exit0 ?_
    refine ⟨_, _, fun a ha hh => results_tmps (l := []) Tryz.results124 rfl a ha _, List.Sublist.refl _, ?_⟩
    exact ⟨p, rfl, hperm, hwk⟩
theorem insertion0_spec (v : Value) (w : World) : Spec Tryz.prog 124 [v, .int .i64 0, .int .i64 0] w Nil fun _ H => H = [] := by
  refine enter (n := 49) Tryz.func124 rfl rfl [(0, _), (1, _), (2, _)] rfl ⟨rfl, rfl, rfl, trivial⟩ (Holds.start _ _) ?_
  refine w_seq (w_reg (wl_f (f_move rfl) (wl_f (f_add rfl rfl (by omega)) ?_)))
  refine wl_f (f_assign rfl) (wl_end [(0, _), (1, _), (2, _), (6, _)] ⟨rfl, rfl, rfl, rfl, trivial⟩ ?_)
  refine w_block ?_
  refine w_loop (fun k m H w => m = [(0, v), (1, .int .i64 0), (2, .int .i64 0), (6, .int .i64 1)] ∧ H = []) 0 ⟨rfl, rfl⟩ ?_
  rintro k _ _ w1 ⟨rfl, rfl⟩
  refine w_seq (w_seq (w_reg (wl_f (f_move rfl) (wl_f (f_move rfl) (wl_f (f_lss rfl rfl) ?_)))))
  refine wl_end [(0, _), (1, _), (2, _), (6, _), (12, _)] ⟨rfl, rfl, rfl, rfl, rfl, trivial⟩ ?_
  refine w_ifd rfl (fun h => absurd h (by omega)) (fun _ => ?_)
  refine w_exit0 ?_
  refine ⟨_, _, fun a ha hh => results_tmps (l := []) Tryz.results124 rfl a ha _, List.Sublist.refl _, ?_⟩
  rfl
set_option maxHeartbeats 1000000 in
theorem pdq_spec (g cap : Nat) (l : List ByteArray) (lim : Int) (w : World) (h0 : 0 < l.length) (hn : l.length ≤ 12)
    (hs : Holds w (row (.slice (some ⟨g, 0, .none⟩) l.length cap) 9 1 l.length (sv l)).foot [row (.slice (some ⟨g, 0, .none⟩) l.length cap) 9 1 l.length (sv l)] w) :
    Spec Tryz.prog 116 [.slice (some ⟨g, 0, .none⟩) l.length cap, .int .i64 0, .int .i64 l.length, .int .i64 lim] w (row (.slice (some ⟨g, 0, .none⟩) l.length cap) 9 1 l.length (sv l)).foot
      fun _ H => ∃ l', H = [row (.slice (some ⟨g, 0, .none⟩) l.length cap) 9 1 l.length (sv l')] ∧ l'.Perm l ∧ Wks l' := by
  refine enter (n := 134) Tryz.func116 rfl rfl [(0, _), (1, _), (2, _), (3, _)] rfl ⟨rfl, rfl, rfl, rfl, trivial⟩ hs ?_
  refine w_seq (w_reg (wl_f (f_assign rfl) (wl_end [(0, _), (1, _), (2, _), (3, _), (8, _)] ⟨rfl, rfl, rfl, rfl, rfl, trivial⟩ ?_)))
  refine w_seq (w_reg (wl_f (f_assign rfl) (wl_end [(0, _), (1, _), (2, _), (3, _), (8, _), (9, _)] ⟨rfl, rfl, rfl, rfl, rfl, rfl, trivial⟩ ?_)))
  refine w_block ?_
  refine w_loop (fun k m H w => m = [(0, .slice (some ⟨g, 0, .none⟩) l.length cap), (1, .int .i64 0), (2, .int .i64 l.length), (3, .int .i64 lim), (8, .bool true), (9, .bool true)] ∧
    H = [row (.slice (some ⟨g, 0, .none⟩) l.length cap) 9 1 l.length (sv l)]) 0 ⟨rfl, rfl⟩ ?_
  rintro k _ _ w1 ⟨rfl, rfl⟩
  refine w_block ?_
  refine w_seq (w_reg (wl_f (f_move rfl) (wl_f (f_move rfl) (wl_f (f_sub rfl rfl (by omega)) ?_))))
  refine wl_f (f_assign rfl) (wl_end [(0, _), (1, _), (2, _), (3, _), (8, _), (9, _), (10, _)] ⟨rfl, rfl, rfl, rfl, rfl, rfl, rfl, trivial⟩ ?_)
  refine w_seq (w_seq (w_reg (wl_f (f_move rfl) (wl_f (f_leq rfl rfl) ?_))))
  refine wl_end [(0, _), (1, _), (2, _), (3, _), (8, _), (9, _), (10, _), (23, _)] ⟨rfl, rfl, rfl, rfl, rfl, rfl, rfl, rfl, trivial⟩ ?_
  refine w_ifd rfl (fun _ => ?_) (fun h => absurd h (by omega))
  refine w_seq (w_reg (wl_f (f_move rfl) (wl_f (f_move rfl) (wl_f (f_move rfl) (wl_e (e_call1 (row (.slice (some ⟨g, 0, .none⟩) l.length cap) 9 1 l.length (sv l)) [] rfl Tryz.func124 (by kernel_rfl) (List.Perm.refl _) (fun w hh hs' => insertion_spec g cap l w h0 (by omega) hs')) ?_)))))
  rintro _ _ w2 ⟨_, rfl, l', rfl, hp, hw⟩
  refine wl_end [] trivial ?_
  refine w_ret ?_
  refine ⟨_, _, fun a ha hh => results_tmps Tryz.results116 rfl a ha _, List.Sublist.refl _, ?_⟩
  exact ⟨l', rfl, hp, hw⟩
theorem pdq0_spec (v : Value) (lim : Int) (w : World) : Spec Tryz.prog 116 [v, .int .i64 0, .int .i64 0, .int .i64 lim] w Nil fun _ H => H = [] := by
  refine enter (n := 134) Tryz.func116 rfl rfl [(0, _), (1, _), (2, _), (3, _)] rfl ⟨rfl, rfl, rfl, rfl, trivial⟩ (Holds.start _ _) ?_
  refine w_seq (w_reg (wl_f (f_assign rfl) (wl_end [(0, _), (1, _), (2, _), (3, _), (8, _)] ⟨rfl, rfl, rfl, rfl, rfl, trivial⟩ ?_)))
  refine w_seq (w_reg (wl_f (f_assign rfl) (wl_end [(0, _), (1, _), (2, _), (3, _), (8, _), (9, _)] ⟨rfl, rfl, rfl, rfl, rfl, rfl, trivial⟩ ?_)))
  refine w_block ?_
  refine w_loop (fun k m H w => m = [(0, v), (1, .int .i64 0), (2, .int .i64 0), (3, .int .i64 lim), (8, .bool true), (9, .bool true)] ∧ H = []) 0 ⟨rfl, rfl⟩ ?_
  rintro k _ _ w1 ⟨rfl, rfl⟩
  refine w_block ?_
  refine w_seq (w_reg (wl_f (f_move rfl) (wl_f (f_move rfl) (wl_f (f_sub rfl rfl (by omega)) ?_))))
  refine wl_f (f_assign rfl) (wl_end [(0, _), (1, _), (2, _), (3, _), (8, _), (9, _), (10, _)] ⟨rfl, rfl, rfl, rfl, rfl, rfl, rfl, trivial⟩ ?_)
  refine w_seq (w_seq (w_reg (wl_f (f_move rfl) (wl_f (f_leq rfl rfl) ?_))))
  refine wl_end [(0, _), (1, _), (2, _), (3, _), (8, _), (9, _), (10, _), (23, _)] ⟨rfl, rfl, rfl, rfl, rfl, rfl, rfl, rfl, trivial⟩ ?_
  refine w_ifd rfl (fun _ => ?_) (fun h => absurd h (by omega))
  refine w_seq (w_reg (wl_f (f_move rfl) (wl_f (f_move rfl) (wl_f (f_move rfl) (wl_e (e_call0 rfl Tryz.func124 (by kernel_rfl) (fun w hh => insertion0_spec v w)) ?_)))))
  rintro _ _ w2 ⟨_, rfl, rfl⟩
  refine wl_end [] trivial ?_
  refine w_ret ?_
  refine ⟨_, _, fun a ha hh => results_tmps Tryz.results116 rfl a ha _, List.Sublist.refl _, ?_⟩
  rfl
theorem sort_spec (g cap : Nat) (l : List ByteArray) (w : World) (h0 : 0 < l.length) (hn : l.length ≤ 12)
    (hs : Holds w (row (.slice (some ⟨g, 0, .none⟩) l.length cap) 9 1 l.length (sv l)).foot [row (.slice (some ⟨g, 0, .none⟩) l.length cap) 9 1 l.length (sv l)] w) :
    Spec Tryz.prog 99 [.slice (some ⟨g, 0, .none⟩) l.length cap] w (row (.slice (some ⟨g, 0, .none⟩) l.length cap) 9 1 l.length (sv l)).foot
      fun _ H => ∃ l', H = [row (.slice (some ⟨g, 0, .none⟩) l.length cap) 9 1 l.length (sv l')] ∧ l'.Perm l ∧ Wks l' := by
  refine enter (n := 11) Tryz.func99 rfl rfl [(0, _)] rfl ⟨rfl, trivial⟩ hs ?_
  refine w_seq (w_reg (wl_f (f_move rfl) (wl_f (f_len rfl Tryz.underlying30) ?_)))
  refine wl_f (f_assign rfl) (wl_end [(0, _), (2, _)] ⟨rfl, rfl, trivial⟩ ?_)
  refine w_reg (wl_f (f_move rfl) (wl_f (f_move rfl) (wl_f (f_move rfl) (wl_f (f_convu rfl Tryz.underlying3 Tryz.underlying54 (by omega)) ?_))))
  refine wl_e (e_call0 rfl Tryz.func117 (by kernel_rfl) (fun w hh => len_spec l.length w (by omega))) ?_
  rintro _ _ w1 ⟨_, rfl, lim, rfl, rfl⟩
  refine wl_e (e_call1 (row (.slice (some ⟨g, 0, .none⟩) l.length cap) 9 1 l.length (sv l)) [] rfl Tryz.func116 (by kernel_rfl) (List.Perm.refl _) (fun w hh hs' => pdq_spec g cap l lim w h0 hn hs')) ?_
  rintro _ _ w2 ⟨_, rfl, l', rfl, hp, hw⟩
  refine wl_end [] trivial ?_
  refine ⟨_, _, fun a ha hh => results_tmps (l := []) Tryz.results99 rfl a ha _, List.Sublist.refl _, ?_⟩
  exact ⟨l', rfl, hp, hw⟩
theorem sort0_spec (A : Option Addr) (cap : Nat) (w : World) : Spec Tryz.prog 99 [.slice A 0 cap] w Nil fun _ H => H = [] := by
  refine enter (n := 11) Tryz.func99 rfl rfl [(0, _)] rfl ⟨rfl, trivial⟩ (Holds.start _ _) ?_
  refine w_seq (w_reg (wl_f (f_move rfl) (wl_f (f_len rfl Tryz.underlying30) ?_)))
  refine wl_f (f_assign rfl) (wl_end [(0, _), (2, _)] ⟨rfl, rfl, trivial⟩ ?_)
  refine w_reg (wl_f (f_move rfl) (wl_f (f_move rfl) (wl_f (f_move rfl) (wl_f (f_convu rfl Tryz.underlying3 Tryz.underlying54 (by omega)) ?_))))
  refine wl_e (e_call0 rfl Tryz.func117 (by kernel_rfl) (fun w hh => len_spec 0 w (by omega))) ?_
  rintro _ _ w1 ⟨_, rfl, lim, rfl, rfl⟩
  refine wl_e (e_call0 rfl Tryz.func116 (by kernel_rfl) (fun w hh => pdq0_spec _ lim w)) ?_
  rintro _ _ w2 ⟨_, rfl, rfl⟩
  refine wl_end [] trivial ?_
  refine ⟨_, _, fun a ha hh => results_tmps (l := []) Tryz.results99 rfl a ha _, List.Sublist.refl _, ?_⟩
  rfl

def okey {α : Type} (o : Option (ByteArray × α)) : ByteArray := match o with
  | none => ByteArray.empty
  | some x => x.1
def oval (o : Option (ByteArray × Int)) : Int := match o with
  | none => 0
  | some x => x.2
def ovalU (o : Option (ByteArray × Nat)) : Nat := match o with
  | none => 0
  | some x => x.2
theorem ents_take_none {α : Type} {cs : Cells α} {i : Nat} (h : cs[i]? = some none) : ents (cs.take (i + 1)) = ents (cs.take i) := by rw [List.take_add_one, h, ents_app]; simp [ents]
theorem ents_take_some {α : Type} {cs : Cells α} {i : Nat} {x : ByteArray × α} (h : cs[i]? = some (some x)) : ents (cs.take (i + 1)) = ents (cs.take i) ++ [x] := by rw [List.take_add_one, h, ents_app]; simp [ents]
theorem ents_take_len {α : Type} (cs : Cells α) (i : Nat) : (ents (cs.take i)).length ≤ (ents cs).length := by
  conv => rhs; rw [← List.take_append_drop i cs, ents_app, List.length_append]
  exact Nat.le_add_right _ _

set_option maxHeartbeats 2000000 in
theorem ikeys_spec (b n : Nat) (T : List Nat) (seed : Int) (M : List (ByteArray × Int)) (r : Res) (w : World) (hn12 : n ≤ 12) (hr : TbR xInt b n T seed M r) (hs : Holds w r.foot [r] w) :
    Spec Tryz.prog 86 [.pointer (some ⟨b, 0, .none⟩)] w r.foot fun u H => ∃ l, H = [row u 9 1 l.length (sv l), r] ∧ l.Perm (keys M) ∧ Srts l := by
  obtain ⟨N, cs, hC, hI, hM, hle, hsm⟩ := hr
  obtain ⟨hn1, hn2, hN, hT, hcl, tV, cV, rfl⟩ := id hC
  refine enter (n := 28) Tryz.func86 rfl rfl [(0, _)] rfl ⟨rfl, trivial⟩ hs ?_
  refine w_seq (w_reg (wl_f (f_assign rfl) (wl_end [(0, _)] ⟨rfl, trivial⟩ ?_)))
  refine w_seq (w_seq (w_reg (wl_f (f_move rfl) (wl_f (f_eqlnil rfl rfl Tryz.underlying92) ?_))))
  refine wl_end [(0, _), (7, _)] ⟨rfl, rfl, trivial⟩ ?_
  refine w_iff rfl ?_
  refine w_skip ?_
  refine w_seq (w_reg (wl_f (f_assign rfl) (wl_end [(0, _), (3, _)] ⟨rfl, rfl, trivial⟩ ?_)))
  refine w_seq (w_seq (w_with fun hh => ?_))
  obtain ⟨g, cc, e2⟩ := rowB_form hh (i := 0) (j := 2) rfl rfl (by omega)
  subst e2
  clear hh
  refine w_reg (wl_f (f_move rfl) (wl_f (f_nilCheck rfl) (wl_f (f_fieldAddr 4 rfl Tryz.underlying124 rfl rfl (by kernel_rfl)) ?_)))
  refine wl_f (f_loadB 0 0 rfl rfl rfl Tryz.underlying122 rfl rfl) ?_
  refine wl_f (f_len rfl Tryz.underlying122) ?_
  refine wl_f (f_move rfl) (wl_end [(3, _), (11, _), (12, _), (13, _)] ⟨rfl, rfl, rfl, rfl, trivial⟩ ?_)
  refine w_block ?_
  refine w_nilrow 9 1 ?_
  refine w_loop (fun k m H w => ∃ (v : Value) (i : Nat), m = [(3, v), (11, .slice (some ⟨g, 0, .none⟩) N cc), (12, .int .i64 N), (13, .int .i64 i)] ∧
    H = [row v 9 1 (keys (ents (cs.take i))).length (sv (keys (ents (cs.take i)))), bun (ims xInt b n N (ents cs).length T seed tV (.slice (some ⟨g, 0, .none⟩) N cc) cs)] ∧ k + i = N) N ⟨_, 0, rfl, rfl, rfl⟩ ?_
  rintro k _ _ w5 ⟨v, i, rfl, rfl, hk⟩
  refine w_seq (w_reg (wl_f (f_lss rfl rfl) ?_))
  refine wl_end [(3, _), (11, _), (12, _), (13, _), (14, _)] ⟨rfl, rfl, rfl, rfl, rfl, trivial⟩ ?_
  refine w_seq ?_
  refine w_ifd rfl (fun hc2 => ?_) (fun hc2 => ?_)
  · skip
    have hi : i < N := by
      have : (i : Int) < (N : Int) := hc2
      omega
    obtain ⟨o, ho⟩ : ∃ o, cs[i]? = some o := ⟨_, List.getElem?_eq_getElem (by omega)⟩
    have hkl : (keys (ents (cs.take i))).length ≤ 12 := by
      have := ents_take_len cs i
      rw [keys, List.length_map]; omega
    refine w_skip ?_
    refine w_seq ?_
    refine w_post (fun m H w => ∃ v' : Value, m = [(3, v'), (11, .slice (some ⟨g, 0, .none⟩) N cc), (12, .int .i64 N), (13, .int .i64 i)] ∧
      H = [row v' 9 1 (keys (ents (cs.take (i + 1)))).length (sv (keys (ents (cs.take (i + 1))))), bun (ims xInt b n N (ents cs).length T seed tV (.slice (some ⟨g, 0, .none⟩) N cc) cs)]) ?_ ?_
    · skip
      refine w_block ?_
      refine w_seq (w_reg (wl_f (f_indexAddr 3 (i := i) rfl rfl Tryz.underlying122 (by kernel_rfl) rfl hi) ?_))
      refine wl_f (f_loadsBr (cs := [.bool o.isSome, .string (okey o), .int .i64 (oval o)]) 1 2 rfl rfl rfl Tryz.underlying154 rfl (by kernel_rfl) (by have := icells_get xInt ho; cases o <;> exact this)) ?_
      refine wl_e (e_allocs [.bool false, .string ByteArray.empty, .int .i64 0] (by kernel_rfl)) ?_
      rintro _ _ w6_2 ⟨b6_2, rfl, rfl⟩
      refine wl_e0 (e_store0 (us := [_, _, _]) rfl rfl rfl (by kernel_rfl) (by simp [Value.oneCell']) rfl rfl) ?_
      rintro _ _ w6_3 rfl
      refine wl_end [(3, _), (5, _), (11, _), (12, _), (13, _)] ⟨rfl, rfl, rfl, rfl, rfl, trivial⟩ ?_
      refine w_seq (w_reg (wl_f (f_fieldAddr 0 rfl Tryz.underlying154 rfl rfl (by kernel_rfl)) ?_))
      refine wl_f (f_loadb 0 rfl Tryz.underlying4 rfl rfl rfl) ?_
      refine wl_end [(3, _), (5, _), (11, _), (12, _), (13, _), (18, _)] ⟨rfl, rfl, rfl, rfl, rfl, rfl, trivial⟩ ?_
      refine w_ifb rfl (fun hc3 => ?_) (fun hc3 => ?_)
      · skip
        obtain ⟨x, rfl⟩ : ∃ x, o = some x := Option.isSome_iff_exists.1 hc3
        have hks : keys (ents (cs.take (i + 1))) = keys (ents (cs.take i)) ++ [x.1] := by rw [ents_take_some ho]; simp [keys]
        refine w_reg (wl_f (f_move rfl) (wl_f (f_fieldAddr 1 rfl Tryz.underlying154 rfl rfl (by kernel_rfl)) ?_))
        refine wl_f (f_loadb 0 rfl Tryz.underlying9 rfl rfl rfl) ?_
        refine wl_e (e_lit1 (cs := [_]) t30 rfl rfl rfl (by omega)) ?_
        rintro _ _ w8_3 ⟨b8_3, rfl, rfl⟩
        refine wl_e (e_appN 2 t30 rfl rfl rfl (fun w hh => Rd.held0 hh (i := 0) rfl) (by simp [Value.oneCell']) (by omega) (by omega)) ?_
        rintro v2 _ w8 ⟨_, rfl⟩
        refine wl_f (f_assign rfl) (wl_pick [2, 2] rfl ?_)
        refine wl_end [(3, _), (11, _), (12, _), (13, _)] ⟨rfl, rfl, rfl, rfl, trivial⟩ ?_
        exact ⟨v2, rfl, by rw [hks, List.length_append, sv_app]; rfl⟩
      · skip
        obtain rfl : o = none := by
          cases o with
          | none => rfl
          | some x => exact absurd rfl hc3
        refine w_rm0 ?_
        refine w_sub [(3, _), (11, _), (12, _), (13, _)] ⟨rfl, rfl, rfl, rfl, trivial⟩ (w_skip ?_)
        exact ⟨v, rfl, by rw [ents_take_none ho]⟩
    · rintro _ _ w9 ⟨v', rfl, rfl⟩
      refine w_reg (wl_f (f_add rfl rfl (by omega)) ?_)
      refine wl_f (f_move rfl) (wl_end [(3, _), (11, _), (12, _), (13, _)] ⟨rfl, rfl, rfl, rfl, trivial⟩ ?_)
      exact ⟨k - 1, by omega, v', i + 1, rfl, rfl, by omega⟩
  · skip
    have hi : i = N := by
      have : ¬ (i : Int) < (N : Int) := hc2
      omega
    subst hi
    rw [List.take_of_length_le (by omega)]
    have hkl : (keys (ents cs)).length ≤ 12 := by rw [keys, List.length_map]; omega
    have hknd : (keys (ents cs)).Nodup := hI.nd
    have hkp : (keys (ents cs)).Perm (keys M) := keys_perm hM
    generalize hL : keys (ents cs) = L at hkl hknd hkp
    refine w_exit0 ?_
    refine w_seq ?_
    refine w_post (fun m H w => ∃ l, m = [(3, v)] ∧ H = [row v 9 1 l.length (sv l), bun (ims xInt b n i (ents cs).length T seed tV (.slice (some ⟨g, 0, .none⟩) i cc) cs)] ∧ l.Perm L ∧ Wks l) ?_ ?_
    · by_cases h0 : 0 < L.length
      · refine w_with fun hh => ?_
        obtain ⟨g2, cp2, e2⟩ := row_form hh (i := 0) rfl h0
        subst e2
        clear hh
        refine w_reg (wl_f (f_move rfl) (wl_e (e_call1 (row (.slice (some ⟨g2, 0, .none⟩) L.length cp2) 9 1 L.length (sv L)) [_] rfl Tryz.func99 (by kernel_rfl) (List.Perm.refl _) (fun w hh hs' => sort_spec g2 cp2 L w h0 hkl hs')) ?_))
        rintro _ _ w10 ⟨_, rfl, l', rfl, hp, hw⟩
        refine wl_end [(3, _)] ⟨rfl, trivial⟩ ?_
        exact ⟨l', rfl, by rw [hp.length_eq]; rfl, hp, hw⟩
      · obtain rfl : L = [] := List.length_eq_zero_iff.1 (by omega)
        refine w_with fun hh => ?_
        obtain ⟨A2, cp2, e2⟩ := row_slice hh (i := 0) rfl
        subst e2
        clear hh
        refine w_reg (wl_f (f_move rfl) (wl_e (e_call0 rfl Tryz.func99 (by kernel_rfl) (fun w hh => sort0_spec A2 cp2 w)) ?_))
        rintro _ _ w10 ⟨_, rfl, rfl⟩
        refine wl_end [(3, _)] ⟨rfl, trivial⟩ ?_
        exact ⟨[], rfl, rfl, List.Perm.refl _, List.Pairwise.nil⟩
    rintro _ _ w11 ⟨l, rfl, rfl, hpl, hwl⟩
    refine w_seq (w_reg (wl_f (f_move rfl) (wl_f (f_assign rfl) (wl_end [(2, _)] ⟨rfl, trivial⟩ ?_))))
    refine w_ret ?_
    refine ⟨_, _, fun a ha hh => results_tmps Tryz.results86 rfl a ha _, List.Sublist.refl _, ?_⟩
    exact ⟨l, rfl, hpl.trans hkp, wks_srts hwl (hpl.nodup_iff.2 hknd)⟩
set_option maxHeartbeats 2000000 in
theorem ukeys_spec (b n : Nat) (T : List Nat) (seed : Int) (M : List (ByteArray × Nat)) (r : Res) (w : World) (hn12 : n ≤ 12) (hr : TbR xU64 b n T seed M r) (hs : Holds w r.foot [r] w) :
    Spec Tryz.prog 161 [.pointer (some ⟨b, 0, .none⟩)] w r.foot fun u H => ∃ l, H = [row u 9 1 l.length (sv l), r] ∧ l.Perm (keys M) ∧ Srts l := by
  obtain ⟨N, cs, hC, hI, hM, hle, hsm⟩ := hr
  obtain ⟨hn1, hn2, hN, hT, hcl, tV, cV, rfl⟩ := id hC
  refine enter (n := 28) Tryz.func161 rfl rfl [(0, _)] rfl ⟨rfl, trivial⟩ hs ?_
  refine w_seq (w_reg (wl_f (f_assign rfl) (wl_end [(0, _)] ⟨rfl, trivial⟩ ?_)))
  refine w_seq (w_seq (w_reg (wl_f (f_move rfl) (wl_f (f_eqlnil rfl rfl Tryz.underlying102) ?_))))
  refine wl_end [(0, _), (7, _)] ⟨rfl, rfl, trivial⟩ ?_
  refine w_iff rfl ?_
  refine w_skip ?_
  refine w_seq (w_reg (wl_f (f_assign rfl) (wl_end [(0, _), (3, _)] ⟨rfl, rfl, trivial⟩ ?_)))
  refine w_seq (w_seq (w_with fun hh => ?_))
  obtain ⟨g, cc, e2⟩ := rowB_form hh (i := 0) (j := 2) rfl rfl (by omega)
  subst e2
  clear hh
  refine w_reg (wl_f (f_move rfl) (wl_f (f_nilCheck rfl) (wl_f (f_fieldAddr 4 rfl Tryz.underlying127 rfl rfl (by kernel_rfl)) ?_)))
  refine wl_f (f_loadB 0 0 rfl rfl rfl Tryz.underlying125 rfl rfl) ?_
  refine wl_f (f_len rfl Tryz.underlying125) ?_
  refine wl_f (f_move rfl) (wl_end [(3, _), (11, _), (12, _), (13, _)] ⟨rfl, rfl, rfl, rfl, trivial⟩ ?_)
  refine w_block ?_
  refine w_nilrow 9 1 ?_
  refine w_loop (fun k m H w => ∃ (v : Value) (i : Nat), m = [(3, v), (11, .slice (some ⟨g, 0, .none⟩) N cc), (12, .int .i64 N), (13, .int .i64 i)] ∧
    H = [row v 9 1 (keys (ents (cs.take i))).length (sv (keys (ents (cs.take i)))), bun (ims xU64 b n N (ents cs).length T seed tV (.slice (some ⟨g, 0, .none⟩) N cc) cs)] ∧ k + i = N) N ⟨_, 0, rfl, rfl, rfl⟩ ?_
  rintro k _ _ w5 ⟨v, i, rfl, rfl, hk⟩
  refine w_seq (w_reg (wl_f (f_lss rfl rfl) ?_))
  refine wl_end [(3, _), (11, _), (12, _), (13, _), (14, _)] ⟨rfl, rfl, rfl, rfl, rfl, trivial⟩ ?_
  refine w_seq ?_
  refine w_ifd rfl (fun hc2 => ?_) (fun hc2 => ?_)
  · skip
    have hi : i < N := by
      have : (i : Int) < (N : Int) := hc2
      omega
    obtain ⟨o, ho⟩ : ∃ o, cs[i]? = some o := ⟨_, List.getElem?_eq_getElem (by omega)⟩
    have hkl : (keys (ents (cs.take i))).length ≤ 12 := by
      have := ents_take_len cs i
      rw [keys, List.length_map]; omega
    refine w_skip ?_
    refine w_seq ?_
    refine w_post (fun m H w => ∃ v' : Value, m = [(3, v'), (11, .slice (some ⟨g, 0, .none⟩) N cc), (12, .int .i64 N), (13, .int .i64 i)] ∧
      H = [row v' 9 1 (keys (ents (cs.take (i + 1)))).length (sv (keys (ents (cs.take (i + 1))))), bun (ims xU64 b n N (ents cs).length T seed tV (.slice (some ⟨g, 0, .none⟩) N cc) cs)]) ?_ ?_
    · skip
      refine w_block ?_
      refine w_seq (w_reg (wl_f (f_indexAddr 3 (i := i) rfl rfl Tryz.underlying125 (by kernel_rfl) rfl hi) ?_))
      refine wl_f (f_loadsBr (cs := [.bool o.isSome, .string (okey o), .int .u64 (ovalU o : Nat)]) 1 2 rfl rfl rfl Tryz.underlying212 rfl (by kernel_rfl) (by have := icells_get xU64 ho; cases o <;> exact this)) ?_
      refine wl_e (e_allocs [.bool false, .string ByteArray.empty, .int .u64 0] (by kernel_rfl)) ?_
      rintro _ _ w6_2 ⟨b6_2, rfl, rfl⟩
      refine wl_e0 (e_store0 (us := [_, _, _]) rfl rfl rfl (by kernel_rfl) (by simp [Value.oneCell']) rfl rfl) ?_
      rintro _ _ w6_3 rfl
      refine wl_end [(3, _), (5, _), (11, _), (12, _), (13, _)] ⟨rfl, rfl, rfl, rfl, rfl, trivial⟩ ?_
      refine w_seq (w_reg (wl_f (f_fieldAddr 0 rfl Tryz.underlying212 rfl rfl (by kernel_rfl)) ?_))
      refine wl_f (f_loadb 0 rfl Tryz.underlying4 rfl rfl rfl) ?_
      refine wl_end [(3, _), (5, _), (11, _), (12, _), (13, _), (18, _)] ⟨rfl, rfl, rfl, rfl, rfl, rfl, trivial⟩ ?_
      refine w_ifb rfl (fun hc3 => ?_) (fun hc3 => ?_)
      · skip
        obtain ⟨x, rfl⟩ : ∃ x, o = some x := Option.isSome_iff_exists.1 hc3
        have hks : keys (ents (cs.take (i + 1))) = keys (ents (cs.take i)) ++ [x.1] := by rw [ents_take_some ho]; simp [keys]
        refine w_reg (wl_f (f_move rfl) (wl_f (f_fieldAddr 1 rfl Tryz.underlying212 rfl rfl (by kernel_rfl)) ?_))
        refine wl_f (f_loadb 0 rfl Tryz.underlying9 rfl rfl rfl) ?_
        refine wl_e (e_lit1 (cs := [_]) t30 rfl rfl rfl (by omega)) ?_
        rintro _ _ w8_3 ⟨b8_3, rfl, rfl⟩
        refine wl_e (e_appN 2 t30 rfl rfl rfl (fun w hh => Rd.held0 hh (i := 0) rfl) (by simp [Value.oneCell']) (by omega) (by omega)) ?_
        rintro v2 _ w8 ⟨_, rfl⟩
        refine wl_f (f_assign rfl) (wl_pick [2, 2] rfl ?_)
        refine wl_end [(3, _), (11, _), (12, _), (13, _)] ⟨rfl, rfl, rfl, rfl, trivial⟩ ?_
        exact ⟨v2, rfl, by rw [hks, List.length_append, sv_app]; rfl⟩
      · skip
        obtain rfl : o = none := by
          cases o with
          | none => rfl
          | some x => exact absurd rfl hc3
        refine w_rm0 ?_
        refine w_sub [(3, _), (11, _), (12, _), (13, _)] ⟨rfl, rfl, rfl, rfl, trivial⟩ (w_skip ?_)
        exact ⟨v, rfl, by rw [ents_take_none ho]⟩
    · rintro _ _ w9 ⟨v', rfl, rfl⟩
      refine w_reg (wl_f (f_add rfl rfl (by omega)) ?_)
      refine wl_f (f_move rfl) (wl_end [(3, _), (11, _), (12, _), (13, _)] ⟨rfl, rfl, rfl, rfl, trivial⟩ ?_)
      exact ⟨k - 1, by omega, v', i + 1, rfl, rfl, by omega⟩
  · skip
    have hi : i = N := by
      have : ¬ (i : Int) < (N : Int) := hc2
      omega
    subst hi
    rw [List.take_of_length_le (by omega)]
    have hkl : (keys (ents cs)).length ≤ 12 := by rw [keys, List.length_map]; omega
    have hknd : (keys (ents cs)).Nodup := hI.nd
    have hkp : (keys (ents cs)).Perm (keys M) := keys_perm hM
    generalize hL : keys (ents cs) = L at hkl hknd hkp
    refine w_exit0 ?_
    refine w_seq ?_
    refine w_post (fun m H w => ∃ l, m = [(3, v)] ∧ H = [row v 9 1 l.length (sv l), bun (ims xU64 b n i (ents cs).length T seed tV (.slice (some ⟨g, 0, .none⟩) i cc) cs)] ∧ l.Perm L ∧ Wks l) ?_ ?_
    · by_cases h0 : 0 < L.length
      · refine w_with fun hh => ?_
        obtain ⟨g2, cp2, e2⟩ := row_form hh (i := 0) rfl h0
        subst e2
        clear hh
        refine w_reg (wl_f (f_move rfl) (wl_e (e_call1 (row (.slice (some ⟨g2, 0, .none⟩) L.length cp2) 9 1 L.length (sv L)) [_] rfl Tryz.func99 (by kernel_rfl) (List.Perm.refl _) (fun w hh hs' => sort_spec g2 cp2 L w h0 hkl hs')) ?_))
        rintro _ _ w10 ⟨_, rfl, l', rfl, hp, hw⟩
        refine wl_end [(3, _)] ⟨rfl, trivial⟩ ?_
        exact ⟨l', rfl, by rw [hp.length_eq]; rfl, hp, hw⟩
      · obtain rfl : L = [] := List.length_eq_zero_iff.1 (by omega)
        refine w_with fun hh => ?_
        obtain ⟨A2, cp2, e2⟩ := row_slice hh (i := 0) rfl
        subst e2
        clear hh
        refine w_reg (wl_f (f_move rfl) (wl_e (e_call0 rfl Tryz.func99 (by kernel_rfl) (fun w hh => sort0_spec A2 cp2 w)) ?_))
        rintro _ _ w10 ⟨_, rfl, rfl⟩
        refine wl_end [(3, _)] ⟨rfl, trivial⟩ ?_
        exact ⟨[], rfl, rfl, List.Perm.refl _, List.Pairwise.nil⟩
    rintro _ _ w11 ⟨l, rfl, rfl, hpl, hwl⟩
    refine w_seq (w_reg (wl_f (f_move rfl) (wl_f (f_assign rfl) (wl_end [(2, _)] ⟨rfl, trivial⟩ ?_))))
    refine w_ret ?_
    refine ⟨_, _, fun a ha hh => results_tmps Tryz.results161 rfl a ha _, List.Sublist.refl _, ?_⟩
    exact ⟨l, rfl, hpl.trans hkp, wks_srts hwl (hpl.nodup_iff.2 hknd)⟩

theorem xkeys_nil (w : World) : Spec Tryz.prog 86 [.pointer .none] w Nil fun r H => r = .slice .none 0 0 ∧ H = [] := by
  refine enter (n := 28) Tryz.func86 rfl rfl [(0, _)] rfl ⟨rfl, trivial⟩ (Holds.start _ _) ?_
  refine w_seq (w_reg (wl_f (f_assign rfl) (wl_end [(0, _)] ⟨rfl, trivial⟩ ?_)))
  refine w_seq (w_seq (w_reg (wl_f (f_move rfl) (wl_f (f_eqlnil rfl rfl Tryz.underlying92) ?_))))
  refine wl_end [(0, _), (7, _)] ⟨rfl, rfl, trivial⟩ ?_
  refine w_ift rfl ?_
  refine w_seq (w_reg (wl_f (f_assign rfl) (wl_end [(2, _)] ⟨rfl, trivial⟩ ?_)))
  refine w_ret ?_
  refine ⟨_, _, fun a ha hh => results_tmps Tryz.results86 rfl a ha _, List.Sublist.refl _, ?_⟩
  exact ⟨rfl, rfl⟩
theorem xlen_nil (w : World) : Spec Tryz.prog 163 [.pointer .none] w Nil fun r H => r = .int .i64 0 ∧ H = [] := by
  refine enter (n := 9) Tryz.func163 rfl rfl [(0, _)] rfl ⟨rfl, trivial⟩ (Holds.start _ _) ?_
  refine w_seq (w_reg (wl_f (f_assign rfl) (wl_end [(0, _)] ⟨rfl, trivial⟩ ?_)))
  refine w_seq (w_seq (w_reg (wl_f (f_move rfl) (wl_f (f_eqlnil rfl rfl Tryz.underlying92) ?_))))
  refine wl_end [(0, _), (4, _)] ⟨rfl, rfl, trivial⟩ ?_
  refine w_ift rfl ?_
  refine w_seq (w_reg (wl_f (f_assign rfl) (wl_end [(2, _)] ⟨rfl, trivial⟩ ?_)))
  refine w_ret ?_
  refine ⟨_, _, fun a ha hh => results_tmps Tryz.results163 rfl a ha _, List.Sublist.refl _, ?_⟩
  exact ⟨rfl, rfl⟩
theorem xput_nil (k : ByteArray) (v : Int) (w : World) : Spec Tryz.prog 98 [.pointer .none, .string k, .int .i64 v] w Nil fun r H => r = .int .i64 8 ∧ H = [] := by
  refine enter (n := 44) Tryz.func98 rfl rfl [(0, _), (1, _), (2, _)] rfl ⟨rfl, rfl, rfl, trivial⟩ (Holds.start _ _) ?_
  refine w_seq (w_reg (wl_f (f_assign rfl) (wl_end [(0, _), (1, _), (2, _)] ⟨rfl, rfl, rfl, trivial⟩ ?_)))
  refine w_seq (w_seq (w_reg (wl_f (f_move rfl) (wl_f (f_eqlnil rfl rfl Tryz.underlying92) ?_))))
  refine wl_end [(0, _), (1, _), (2, _), (10, _)] ⟨rfl, rfl, rfl, rfl, trivial⟩ ?_
  refine w_ift rfl ?_
  refine w_seq (w_reg (wl_f (f_assign rfl) (wl_end [(6, _)] ⟨rfl, trivial⟩ ?_)))
  refine w_ret ?_
  refine ⟨_, _, fun a ha hh => results_tmps Tryz.results98 rfl a ha _, List.Sublist.refl _, ?_⟩
  exact ⟨rfl, rfl⟩
theorem xget_nil (k : ByteArray) (w : World) : Spec Tryz.prog 82 [.pointer .none, .string k] w Nil fun r H => r = .tuple #[.int .i64 0, .bool false] ∧ H = [] := by
  refine enter (n := 29) Tryz.func82 rfl rfl [(0, _), (1, _)] rfl ⟨rfl, rfl, trivial⟩ (Holds.start _ _) ?_
  refine w_seq (w_reg (wl_f (f_assign rfl) (wl_f (f_assign rfl) (wl_end [(0, _), (1, _)] ⟨rfl, rfl, trivial⟩ ?_))))
  refine w_seq (w_reg (wl_f (f_assign rfl) (wl_end [(0, _), (1, _), (6, _)] ⟨rfl, rfl, rfl, trivial⟩ ?_)))
  refine w_seq (w_seq (w_reg (wl_f (f_move rfl) (wl_f (f_eqlnil rfl rfl Tryz.underlying92) ?_))))
  refine wl_end [(0, _), (1, _), (6, _), (10, _)] ⟨rfl, rfl, rfl, rfl, trivial⟩ ?_
  refine w_ift rfl ?_
  refine w_seq (w_reg (wl_f (f_move rfl) (wl_f (f_assign rfl) (wl_f (f_assign rfl) (wl_end [(4, _), (5, _)] ⟨rfl, rfl, trivial⟩ ?_)))))
  refine w_ret ?_
  refine ⟨_, _, fun a ha hh => results_tmps Tryz.results82 rfl a ha _, List.Sublist.refl _, ?_⟩
  exact ⟨rfl, rfl⟩
theorem xdelete_nil (k : ByteArray) (w : World) : Spec Tryz.prog 101 [.pointer .none, .string k] w Nil fun r H => r = .tuple #[.int .i64 0, .bool false] ∧ H = [] := by
  refine enter (n := 106) Tryz.func101 rfl rfl [(0, _), (1, _)] rfl ⟨rfl, rfl, trivial⟩ (Holds.start _ _) ?_
  refine w_seq (w_reg (wl_f (f_assign rfl) (wl_f (f_assign rfl) (wl_end [(0, _), (1, _)] ⟨rfl, rfl, trivial⟩ ?_))))
  refine w_seq (w_reg (wl_f (f_assign rfl) (wl_end [(0, _), (1, _), (6, _)] ⟨rfl, rfl, rfl, trivial⟩ ?_)))
  refine w_seq (w_seq (w_reg (wl_f (f_move rfl) (wl_f (f_eqlnil rfl rfl Tryz.underlying92) ?_))))
  refine wl_end [(0, _), (1, _), (6, _), (13, _)] ⟨rfl, rfl, rfl, rfl, trivial⟩ ?_
  refine w_ift rfl ?_
  refine w_seq (w_reg (wl_f (f_move rfl) (wl_f (f_assign rfl) (wl_f (f_assign rfl) (wl_end [(4, _), (5, _)] ⟨rfl, rfl, trivial⟩ ?_)))))
  refine w_ret ?_
  refine ⟨_, _, fun a ha hh => results_tmps Tryz.results101 rfl a ha _, List.Sublist.refl _, ?_⟩
  exact ⟨rfl, rfl⟩
end Go.Proofs.YtmagdjlcckgkpaaGreat

/- Entries of tables: as cells, as values; the deck's short texts and entries. -/
namespace Go.Proofs.YtmagdjlcckgkpaaGreat
open Go.RowKit

abbrev En := ByteArray × Nat × Nat
def ecell : Option En → List Value
  | none => [.string ByteArray.empty, .int .u64 0, .int .u64 0]
  | some x => [.string x.1, .int .u64 (x.2.1 : Int), .int .u64 (x.2.2 : Int)]
def ecells (E : List (Option En)) : List Value := E.flatMap ecell
theorem ecell_len (o : Option En) : (ecell o).length = 3 := by cases o <;> rfl
theorem ecells_len (E : List (Option En)) : (ecells E).length = E.length * 3 := by
  induction E with
  | nil => rfl
  | cons o E ih => simp only [ecells, List.flatMap_cons, List.length_append, ecell_len, List.length_cons] at ih ⊢; omega
theorem ecells_get {E : List (Option En)} {i : Nat} {o : Option En} (h : E[i]? = some o) : ((ecells E).drop (0 + i * 3)).take 3 = ecell o := by
  obtain ⟨hi, rfl⟩ := List.getElem?_eq_some_iff.1 h
  have e : E = E.take i ++ E[i] :: E.drop (i + 1) := by rw [← List.drop_eq_getElem_cons hi, List.take_append_drop]
  have hl : (ecells (E.take i)).length = i * 3 := by rw [ecells_len, List.length_take]; omega
  have e2 : ecells E = ecells (E.take i) ++ (ecell E[i] ++ ecells (E.drop (i + 1))) := by
    conv => lhs; rw [e]
    simp only [ecells, List.flatMap_append, List.flatMap_cons]
  rw [e2, Nat.zero_add, ← hl, List.drop_left, List.take_append_of_le_length (by rw [ecell_len]; exact Nat.le_refl _), List.take_of_length_le (by rw [ecell_len]; exact Nat.le_refl _)]
theorem ecells_set {E : List (Option En)} {i : Nat} (o : Option En) (hi : i < E.length) : (ecells E).take (0 + i * 3) ++ ecell o ++ (ecells E).drop (0 + i * 3 + 3) = ecells (E.set i o) := by
  have e : E = E.take i ++ E[i] :: E.drop (i + 1) := by rw [← List.drop_eq_getElem_cons hi, List.take_append_drop]
  have hl : (ecells (E.take i)).length = i * 3 := by rw [ecells_len, List.length_take]; omega
  have e2 : ecells E = ecells (E.take i) ++ (ecell E[i] ++ ecells (E.drop (i + 1))) := by
    conv => lhs; rw [e]
    simp only [ecells, List.flatMap_append, List.flatMap_cons]
  have e3 : E.set i o = E.take i ++ o :: E.drop (i + 1) := List.set_eq_take_append_cons_drop.trans (if_pos hi)
  have e4 : ecells (E.set i o) = ecells (E.take i) ++ (ecell o ++ ecells (E.drop (i + 1))) := by
    rw [e3]; simp only [ecells, List.flatMap_append, List.flatMap_cons]
  rw [e4, e2, Nat.zero_add, ← hl, List.take_left, List.append_assoc]
  congr 2
  rw [← List.append_assoc, show (ecells (E.take i)).length + 3 = (ecells (E.take i) ++ ecell E[i]).length by rw [List.length_append, ecell_len], List.drop_left]
theorem ecells_j {E : List (Option En)} {i : Nat} {o : Option En} (h : E[i]? = some o) (j : Nat) {v : Value} (hj : (ecell o)[j]? = some v) (hj3 : j < 3) : (ecells E)[0 + i * 3 + j]? = some v := by
  have h1 : (((ecells E).drop (0 + i * 3)).take 3)[j]? = some v := by rw [ecells_get h]; exact hj
  rw [List.getElem?_take, if_pos hj3, List.getElem?_drop] at h1
  exact h1

theorem t42 : SlT Tryz.prog 42 46 3 32 (.agg #[.string ByteArray.empty, .int .u64 0, .int .u64 0]) := .mk' Tryz.underlying42 (by kernel_rfl) rfl (by decide)
theorem build_entry0 (w : World) : (Instr.build 46 #[]).run Tryz.prog w = .ok (.agg [.string ByteArray.empty, .int .u64 0, .int .u64 0].toArray) w := by kernel_rfl
theorem build_entry (k : ByteArray) (o s : Int) (w : World) : (Instr.build 46 [(0, .string k), (1, .int .u64 o), (2, .int .u64 s)].toArray).run Tryz.prog w = .ok (.agg [.string k, .int .u64 o, .int .u64 s].toArray) w := by kernel_rfl
theorem ecells_app (A B : List (Option En)) : ecells (A ++ B) = ecells A ++ ecells B := by simp [ecells]
def enZ : Value := .agg #[.string ByteArray.empty, .int .u64 0, .int .u64 0]
def enV (k : ByteArray) (o s : Nat) : Value := .agg #[.string k, .int .u64 (o : Int), .int .u64 (s : Int)]
def encs (l : List En) : List Value := ecells (l.map some)
def lsum (l : List En) : Nat := (l.map fun x => x.2.1 + x.2.2).sum
theorem encs_snoc (l : List En) (x : En) : encs (l ++ [x]) = encs l ++ [.string x.1, .int .u64 (x.2.1 : Int), .int .u64 (x.2.2 : Int)] := by
  rw [encs, List.map_append, ecells_app]; rfl

set_option maxHeartbeats 1000000 in
theorem short3_spec (b : Nat) (lv : Value) (L : List Int) (p : Nat) (w : World) (hd : DRd w b lv L p) (hs : Holds w (deck b lv p).foot [deck b lv p] w) :
    Spec Tryz.prog 10 [.pointer (some ⟨b, 0, .none⟩)] w (deck b lv p).foot fun r H => ∃ (s : ByteArray) (p' : Nat), r = .string s ∧ (2 ≤ s.size ∧ s.size ≤ 3) ∧ H = [deck b lv p'] ∧ p' ≤ L.length := by
  refine enter (n := 14) Tryz.func10 rfl rfl [(0, _)] rfl ⟨rfl, trivial⟩ hs ?_
  refine w_seq (w_reg (wl_f (f_assign rfl) (wl_end [(0, _)] ⟨rfl, trivial⟩ ?_)))
  refine w_seq ?_
  refine w_drawk [(0, true), (4, true), (1, false), (2, true), (3, true), (5, false), (6, true), (7, true), (8, false), (9, false), (10, true), (11, true)] ([]) ([_]) mixed (by kernel_rfl) (by kernel_rfl) rfl rfl (List.Perm.refl _) (fun w1_ => ?_)
  refine wk_f rfl (f_move rfl) (wk_f rfl (f_move rfl) (wk_e rfl (e_call1 (deck b lv p) [] rfl Tryz.func35 (by kernel_rfl) (List.Perm.refl _) (fun w hh hs' => next_spec b lv L p 2 w ⟨hd.1.old1 hh (List.Perm.refl _), hd.2⟩ hs' (by omega))) ?_))
  rintro _ _ w1 ⟨_, rfl, y1, p1, rfl, hy1, rfl, hp1⟩
  refine ⟨_, List.Perm.refl _, ?_⟩
  refine wk_f rfl (f_eqv (v' := .int .i64 ((1 + y1 : Nat) : Int)) (f_add rfl rfl (by omega)) (by congr 1)) ?_
  refine wk_f rfl (f_slices (l := 0) (u := 1 + y1) rfl Tryz.underlying9 rfl ⟨_, rfl⟩ (by omega) (show 1 + y1 ≤ 8 by omega)) ?_
  refine wk_e rfl (e_call1 (deck b lv p1) [] rfl Tryz.func35 (by kernel_rfl) (List.Perm.refl _) (fun w hh hs' => next_spec b lv L p1 5 w ⟨hd.1.old1 hh (List.Perm.refl _), hd.2.1, hp1⟩ hs' (by omega))) ?_
  rintro _ _ w2 ⟨_, rfl, y2, p2, rfl, hy2, rfl, hp2⟩
  refine ⟨_, List.Perm.refl _, ?_⟩
  refine wk_f rfl (f_eqv (v' := .int .i64 ((97 + y2 : Nat) : Int)) (f_add rfl rfl (by omega)) (by congr 1)) ?_
  refine wk_f rfl (f_convb rfl Tryz.underlying3 Tryz.underlying5 (by omega)) ?_
  refine wk_e rfl (e_lit1 (cs := [_]) t41 rfl rfl rfl (by omega)) ?_
  rintro _ _ w1_8 ⟨b1_8, rfl, rfl⟩
  refine ⟨_, List.perm_middle.symm, ?_⟩
  refine wk_e rfl (f_b2s (xs := [97 + y2]) rfl Tryz.underlying41 Tryz.underlying5 Tryz.underlying9 (fun w hh => Rd.held0 hh (i := 0) rfl)).eff ?_
  rintro _ _ _ ⟨rfl, rfl⟩
  refine ⟨_, List.Perm.refl _, ?_⟩
  refine wk_f rfl (f_adds rfl rfl (by rw [str_size, ByteArray.size_extract]; show min (1 + y1) 8 - 0 + 1 ≤ _; omega)) ?_
  refine wk_f rfl (f_assign rfl) (wk_endp [(2, _)] [1] ⟨rfl, trivial⟩ rfl ?_)
  refine w_ret ?_
  refine ⟨_, _, fun a ha hh => results_tmps Tryz.results10 rfl a ha _, List.Sublist.refl _, ?_⟩
  have hsz : ∀ n, n = min (1 + y1) 8 - 0 + 1 → 2 ≤ n ∧ n ≤ 3 := fun n h => by omega
  exact ⟨_, p2, rfl, by rw [ByteArray.size_append, str_size, ByteArray.size_extract]; exact hsz _ rfl, rfl, hp2⟩
theorem ne_of_size {a b : ByteArray} (h : a.size ≠ b.size) : a ≠ b := fun e => h (by rw [e])
set_option maxHeartbeats 1000000 in
theorem entry_spec (b : Nat) (lv : Value) (L : List Int) (p : Nat) (w : World) (hd : DRd w b lv L p) (hs : Holds w (deck b lv p).foot [deck b lv p] w) :
    Spec Tryz.prog 19 [.pointer (some ⟨b, 0, .none⟩)] w (deck b lv p).foot fun r H => ∃ (k : ByteArray) (o s p' : Nat), r = enV k o s ∧ (2 ≤ k.size ∧ k.size ≤ 3) ∧ o < 30 ∧ s < 10 ∧ H = [deck b lv p'] ∧ p' ≤ L.length := by
  refine enter (n := 12) Tryz.func19 rfl rfl [(0, _)] rfl ⟨rfl, trivial⟩ hs ?_
  refine w_seq (w_reg (wl_e (e_allocs [.string ByteArray.empty, .int .u64 0, .int .u64 0] (by kernel_rfl)) ?_))
  rintro _ _ w0_0 ⟨b0_0, rfl, rfl⟩
  refine wl_end [(0, _), (2, _)] ⟨rfl, rfl, trivial⟩ ?_
  refine w_seq (w_reg (wl_f (f_move rfl) (wl_e (e_call1 (deck b lv p) [_] rfl Tryz.func10 (by kernel_rfl) (pk1 1 rfl) (fun w hh hs' => short3_spec b lv L p w ⟨hd.1.old1 hh (pk1 1 rfl), hd.2⟩ hs')) ?_)))
  rintro _ _ w1 ⟨_, rfl, k, p1, rfl, hk3, rfl, hp1⟩
  refine wl_f (f_move rfl) (wl_e (e_call1 (deck b lv p1) [_] rfl Tryz.func35 (by kernel_rfl) (List.Perm.refl _) (fun w hh hs' => next_spec b lv L p1 30 w ⟨hd.1.old1 hh (List.Perm.refl _), hd.2.1, hp1⟩ hs' (by omega))) ?_)
  rintro _ _ w2 ⟨_, rfl, o, p2, rfl, ho, rfl, hp2⟩
  refine wl_f (f_convu rfl Tryz.underlying3 Tryz.underlying33 (by omega)) ?_
  refine wl_f (f_move rfl) (wl_e (e_call1 (deck b lv p2) [_] rfl Tryz.func35 (by kernel_rfl) (List.Perm.refl _) (fun w hh hs' => next_spec b lv L p2 10 w ⟨hd.1.old1 hh (List.Perm.refl _), hd.2.1, hp2⟩ hs' (by omega))) ?_)
  rintro _ _ w3 ⟨_, rfl, s, p3, rfl, hs1, rfl, hp3⟩
  refine wl_f (f_convu rfl Tryz.underlying3 Tryz.underlying33 (by omega)) ?_
  refine wl_f (f_build rfl (fun w => build_entry _ _ _ w)) ?_
  refine wl_e0 (e_store1 (us := [_, _, _]) rfl rfl rfl (by kernel_rfl) (by simp [Value.oneCell']) rfl rfl) ?_
  rintro _ _ w1_9 rfl
  refine wl_end [(2, _)] ⟨rfl, trivial⟩ ?_
  refine w_pick [1, 0] rfl ?_
  refine w_ret ?_
  refine ⟨_, _, fun a ha hh => results_cell 0 Tryz.results19 rfl a ha hh Tryz.underlying46 rfl (by kernel_rfl) rfl, List.sublist_cons_self .., ?_⟩
  exact ⟨k, o, s, p3, rfl, hk3, ho, hs1, rfl, hp3⟩
end Go.Proofs.YtmagdjlcckgkpaaGreat

/- Linked lists: whether a node is there; a free place. -/
namespace Go.Proofs.YtmagdjlcckgkpaaGreat
open Go.RowKit

def noneAt (node : Int) (N : List Nat) : Prop := ∀ x : Nat, node = x → x ∉ N
def isAt (node : Int) (N : List Nat) : Bool := decide (0 ≤ node) && N.contains node.toNat
theorem isAt_some {node : Int} {N : List Nat} (h : isAt node N = true) : ∃ x : Nat, node = x ∧ x ∈ N := by
  simp only [isAt, Bool.and_eq_true, decide_eq_true_eq, List.contains_iff_mem] at h
  exact ⟨node.toNat, by omega, h.2⟩
theorem isAt_nat {x : Nat} {N : List Nat} : isAt (x : Int) N = N.contains x := by simp [isAt]

set_option maxHeartbeats 1000000 in
theorem ihas_nil (node : Int) (w : World) : Spec Tryz.prog 121 [.pointer .none, .int .i64 node] w Nil fun r H => r = .bool false ∧ H = [] := by
  refine enter (n := 29) Tryz.func121 rfl rfl [(0, _), (1, _)] rfl ⟨rfl, rfl, trivial⟩ (Holds.start _ _) ?_
  refine w_seq (w_reg (wl_f (f_assign rfl) (wl_end [(0, _), (1, _)] ⟨rfl, rfl, trivial⟩ ?_)))
  refine w_seq (w_reg (wl_f (f_move rfl) (wl_f (f_neqnil rfl rfl Tryz.underlying114) ?_)))
  refine wl_f (f_move rfl) (wl_gs rfl rfl ?_)
  refine wl_gs rfl rfl ?_
  refine wl_f (f_pick0 rfl rfl) ?_
  refine wl_f (f_move rfl) (wl_gs rfl rfl ?_)
  refine wl_gs rfl rfl ?_
  refine wl_gs rfl rfl ?_
  refine wl_gs rfl rfl ?_
  refine wl_gs rfl rfl ?_
  refine wl_gs rfl rfl ?_
  refine wl_gs rfl rfl ?_
  refine wl_f (f_pick0 rfl rfl) ?_
  refine wl_f (f_move rfl) (wl_gs rfl rfl ?_)
  refine wl_gs rfl rfl ?_
  refine wl_gs rfl rfl ?_
  refine wl_gs rfl rfl ?_
  refine wl_gs rfl rfl ?_
  refine wl_gs rfl rfl ?_
  refine wl_gs rfl rfl ?_
  refine wl_f (f_pick0 rfl rfl) ?_
  refine wl_f (f_assign rfl) (wl_end [(4, _)] ⟨rfl, trivial⟩ ?_)
  refine w_ret ?_
  refine ⟨_, _, fun a ha hh => results_tmps Tryz.results121 rfl a ha _, List.Sublist.refl _, ?_⟩
  exact ⟨rfl, rfl⟩
set_option maxHeartbeats 1000000 in
theorem ihas_spec (b n : Nat) (l : List (Nat × _)) (r : Res) (node : Int) (w : World) (hr : ChR kInt b n l r) (hs : Holds w r.foot [r] w) :
    Spec Tryz.prog 121 [.pointer (some ⟨b, 0, .none⟩), .int .i64 node] w r.foot fun v H => v = .bool (isAt node (nodes l)) ∧ H = [r] := by
  obtain ⟨uV, nV, pV, vV, used, nx, pv, vs, rfl, hc⟩ := hr
  refine enter (n := 29) Tryz.func121 rfl rfl [(0, _), (1, _)] rfl ⟨rfl, rfl, trivial⟩ hs ?_
  refine w_unb (chs kInt b n l uV nV pV vV used nx pv vs) ?_
  refine w_with fun hh => ?_
  obtain ⟨U, cu, rfl⟩ := row_slice hh (i := 1) rfl
  clear hh
  refine w_seq (w_reg (wl_f (f_assign rfl) (wl_end [(0, _), (1, _)] ⟨rfl, rfl, trivial⟩ ?_)))
  refine w_seq (w_reg (wl_f (f_move rfl) (wl_f (f_neqnil rfl rfl Tryz.underlying114) ?_)))
  refine wl_f (f_move rfl) ?_
  refine wl_and (j := 2) (c := decide (0 ≤ node)) 2 [(0, _), (1, _)] ⟨rfl, rfl, trivial⟩ rfl rfl rfl rfl rfl (fun hg1_5 => ?_) (fun w1_5 => ?_)
  · skip
    refine wl_gf rfl rfl (f_move rfl) ?_
    refine wl_gf rfl rfl (f_geq rfl rfl) ?_
    exact wl_pend rfl rfl ⟨rfl, rfl, trivial⟩ (List.Sublist.refl _)
  refine wl_f (f_move rfl) ?_
  refine wl_and (j := 6) (c := decide (node < (used.length : Int))) 7 [(0, _), (1, _)] ⟨rfl, rfl, trivial⟩ rfl rfl rfl rfl rfl (fun hg1_14 => ?_) (fun w1_14 => ?_)
  · skip
    refine wl_gf rfl rfl (f_move rfl) ?_
    refine wl_gf rfl rfl (f_move rfl) ?_
    refine wl_gf rfl rfl (f_nilCheck rfl) ?_
    refine wl_gf rfl rfl (f_fieldAddr 4 rfl Tryz.underlying182 rfl rfl (by kernel_rfl)) ?_
    refine wl_gf rfl rfl (f_loadb 0 rfl Tryz.underlying128 rfl rfl rfl) ?_
    refine wl_gf rfl rfl (f_len rfl Tryz.underlying128) ?_
    refine wl_gf rfl rfl (f_lss rfl rfl) ?_
    exact wl_pend rfl rfl ⟨rfl, rfl, trivial⟩ (List.Sublist.refl _)
  refine wl_f (f_move rfl) ?_
  refine wl_and (j := 15) (c := used.getD node.toNat false) 7 [] trivial rfl rfl rfl rfl rfl (fun hg1_23 => ?_) (fun w1_23 => ?_)
  · skip
    refine wl_gf rfl rfl (f_move rfl) ?_
    refine wl_gf rfl rfl (f_nilCheck rfl) ?_
    refine wl_gf rfl rfl (f_fieldAddr 4 rfl Tryz.underlying182 rfl rfl (by kernel_rfl)) ?_
    refine wl_gf rfl rfl (f_loadb 0 rfl Tryz.underlying128 rfl rfl rfl) ?_
    refine wl_gf rfl rfl (f_move rfl) ?_
    simp only [Bool.and_eq_true, decide_eq_true_eq] at hg1_23
    obtain ⟨x, rfl⟩ : ∃ x : Nat, node = x := ⟨node.toNat, by omega⟩
    refine wl_with fun hh => ?_
    obtain ⟨g, cap, e⟩ := row_form hh (i := 1) rfl (by omega)
    injection e with e1 _ e3
    subst e1; subst e3
    clear hh
    refine wl_gf rfl rfl (f_indexAddr 1 (i := x) rfl rfl Tryz.underlying128 (by kernel_rfl) rfl (by omega)) ?_
    refine wl_gf rfl rfl (f_eqv (v' := .bool (used.getD ((x : Int).toNat) false)) (f_loadr (v := .bool (used.getD x false)) 1 rfl Tryz.underlying4 rfl rfl (map_get Value.bool (by simp [show x < used.length by omega]))) (by simp)) ?_
    exact wl_pend rfl rfl trivial (List.Sublist.refl _)
  refine wl_f (f_assign rfl) (wl_end [(4, _)] ⟨rfl, trivial⟩ ?_)
  refine w_bun (H := []) (chs kInt b n l (.slice U used.length cu) nV pV vV used nx pv vs) ?_
  refine w_ret ?_
  refine ⟨_, _, fun a ha hh => results_tmps Tryz.results121 rfl a ha _, List.Sublist.refl _, ?_⟩
  refine ⟨?_, rfl⟩
  have h1 := hc.us node.toNat
  have h2 : (nodes l).contains node.toNat = used.getD node.toNat false := by
    rw [Bool.eq_iff_iff, List.contains_iff_mem, ← h1]
    simp only [List.getD_eq_getElem?_getD]
    cases used[node.toNat]? with
    | none => simp
    | some c => simp
  have h3 : node.toNat < used.length ∨ used.getD node.toNat false = false := by
    rcases Nat.lt_or_ge node.toNat used.length with h | h
    · exact .inl h
    · exact .inr (by simp [List.getElem?_eq_none h])
  show Value.bool _ = _
  simp only [isAt, h2]
  congr 1
  rw [Bool.eq_iff_iff]
  simp only [Bool.and_eq_true, decide_eq_true_eq, Option.isSome]
  rcases h3 with h3 | h3
  · constructor
    · rintro ⟨⟨⟨_, h⟩, _⟩, h4⟩; exact ⟨h, h4⟩
    · rintro ⟨h, h4⟩; exact ⟨⟨⟨trivial, h⟩, by omega⟩, h4⟩
  · rw [h3]; simp
set_option maxHeartbeats 1000000 in
theorem bhas_nil (node : Int) (w : World) : Spec Tryz.prog 120 [.pointer .none, .int .i64 node] w Nil fun r H => r = .bool false ∧ H = [] := by
  refine enter (n := 29) Tryz.func120 rfl rfl [(0, _), (1, _)] rfl ⟨rfl, rfl, trivial⟩ (Holds.start _ _) ?_
  refine w_seq (w_reg (wl_f (f_assign rfl) (wl_end [(0, _), (1, _)] ⟨rfl, rfl, trivial⟩ ?_)))
  refine w_seq (w_reg (wl_f (f_move rfl) (wl_f (f_neqnil rfl rfl Tryz.underlying111) ?_)))
  refine wl_f (f_move rfl) (wl_gs rfl rfl ?_)
  refine wl_gs rfl rfl ?_
  refine wl_f (f_pick0 rfl rfl) ?_
  refine wl_f (f_move rfl) (wl_gs rfl rfl ?_)
  refine wl_gs rfl rfl ?_
  refine wl_gs rfl rfl ?_
  refine wl_gs rfl rfl ?_
  refine wl_gs rfl rfl ?_
  refine wl_gs rfl rfl ?_
  refine wl_gs rfl rfl ?_
  refine wl_f (f_pick0 rfl rfl) ?_
  refine wl_f (f_move rfl) (wl_gs rfl rfl ?_)
  refine wl_gs rfl rfl ?_
  refine wl_gs rfl rfl ?_
  refine wl_gs rfl rfl ?_
  refine wl_gs rfl rfl ?_
  refine wl_gs rfl rfl ?_
  refine wl_gs rfl rfl ?_
  refine wl_f (f_pick0 rfl rfl) ?_
  refine wl_f (f_assign rfl) (wl_end [(4, _)] ⟨rfl, trivial⟩ ?_)
  refine w_ret ?_
  refine ⟨_, _, fun a ha hh => results_tmps Tryz.results120 rfl a ha _, List.Sublist.refl _, ?_⟩
  exact ⟨rfl, rfl⟩
set_option maxHeartbeats 1000000 in
theorem bhas_spec (b n : Nat) (l : List (Nat × _)) (r : Res) (node : Int) (w : World) (hr : ChR kBuc b n l r) (hs : Holds w r.foot [r] w) :
    Spec Tryz.prog 120 [.pointer (some ⟨b, 0, .none⟩), .int .i64 node] w r.foot fun v H => v = .bool (isAt node (nodes l)) ∧ H = [r] := by
  obtain ⟨uV, nV, pV, vV, used, nx, pv, vs, rfl, hc⟩ := hr
  refine enter (n := 29) Tryz.func120 rfl rfl [(0, _), (1, _)] rfl ⟨rfl, rfl, trivial⟩ hs ?_
  refine w_unb (chs kBuc b n l uV nV pV vV used nx pv vs) ?_
  refine w_with fun hh => ?_
  obtain ⟨U, cu, rfl⟩ := row_slice hh (i := 1) rfl
  clear hh
  refine w_seq (w_reg (wl_f (f_assign rfl) (wl_end [(0, _), (1, _)] ⟨rfl, rfl, trivial⟩ ?_)))
  refine w_seq (w_reg (wl_f (f_move rfl) (wl_f (f_neqnil rfl rfl Tryz.underlying111) ?_)))
  refine wl_f (f_move rfl) ?_
  refine wl_and (j := 2) (c := decide (0 ≤ node)) 2 [(0, _), (1, _)] ⟨rfl, rfl, trivial⟩ rfl rfl rfl rfl rfl (fun hg1_5 => ?_) (fun w1_5 => ?_)
  · skip
    refine wl_gf rfl rfl (f_move rfl) ?_
    refine wl_gf rfl rfl (f_geq rfl rfl) ?_
    exact wl_pend rfl rfl ⟨rfl, rfl, trivial⟩ (List.Sublist.refl _)
  refine wl_f (f_move rfl) ?_
  refine wl_and (j := 6) (c := decide (node < (used.length : Int))) 7 [(0, _), (1, _)] ⟨rfl, rfl, trivial⟩ rfl rfl rfl rfl rfl (fun hg1_14 => ?_) (fun w1_14 => ?_)
  · skip
    refine wl_gf rfl rfl (f_move rfl) ?_
    refine wl_gf rfl rfl (f_move rfl) ?_
    refine wl_gf rfl rfl (f_nilCheck rfl) ?_
    refine wl_gf rfl rfl (f_fieldAddr 4 rfl Tryz.underlying131 rfl rfl (by kernel_rfl)) ?_
    refine wl_gf rfl rfl (f_loadb 0 rfl Tryz.underlying128 rfl rfl rfl) ?_
    refine wl_gf rfl rfl (f_len rfl Tryz.underlying128) ?_
    refine wl_gf rfl rfl (f_lss rfl rfl) ?_
    exact wl_pend rfl rfl ⟨rfl, rfl, trivial⟩ (List.Sublist.refl _)
  refine wl_f (f_move rfl) ?_
  refine wl_and (j := 15) (c := used.getD node.toNat false) 7 [] trivial rfl rfl rfl rfl rfl (fun hg1_23 => ?_) (fun w1_23 => ?_)
  · skip
    refine wl_gf rfl rfl (f_move rfl) ?_
    refine wl_gf rfl rfl (f_nilCheck rfl) ?_
    refine wl_gf rfl rfl (f_fieldAddr 4 rfl Tryz.underlying131 rfl rfl (by kernel_rfl)) ?_
    refine wl_gf rfl rfl (f_loadb 0 rfl Tryz.underlying128 rfl rfl rfl) ?_
    refine wl_gf rfl rfl (f_move rfl) ?_
    simp only [Bool.and_eq_true, decide_eq_true_eq] at hg1_23
    obtain ⟨x, rfl⟩ : ∃ x : Nat, node = x := ⟨node.toNat, by omega⟩
    refine wl_with fun hh => ?_
    obtain ⟨g, cap, e⟩ := row_form hh (i := 1) rfl (by omega)
    injection e with e1 _ e3
    subst e1; subst e3
    clear hh
    refine wl_gf rfl rfl (f_indexAddr 1 (i := x) rfl rfl Tryz.underlying128 (by kernel_rfl) rfl (by omega)) ?_
    refine wl_gf rfl rfl (f_eqv (v' := .bool (used.getD ((x : Int).toNat) false)) (f_loadr (v := .bool (used.getD x false)) 1 rfl Tryz.underlying4 rfl rfl (map_get Value.bool (by simp [show x < used.length by omega]))) (by simp)) ?_
    exact wl_pend rfl rfl trivial (List.Sublist.refl _)
  refine wl_f (f_assign rfl) (wl_end [(4, _)] ⟨rfl, trivial⟩ ?_)
  refine w_bun (H := []) (chs kBuc b n l (.slice U used.length cu) nV pV vV used nx pv vs) ?_
  refine w_ret ?_
  refine ⟨_, _, fun a ha hh => results_tmps Tryz.results120 rfl a ha _, List.Sublist.refl _, ?_⟩
  refine ⟨?_, rfl⟩
  have h1 := hc.us node.toNat
  have h2 : (nodes l).contains node.toNat = used.getD node.toNat false := by
    rw [Bool.eq_iff_iff, List.contains_iff_mem, ← h1]
    simp only [List.getD_eq_getElem?_getD]
    cases used[node.toNat]? with
    | none => simp
    | some c => simp
  have h3 : node.toNat < used.length ∨ used.getD node.toNat false = false := by
    rcases Nat.lt_or_ge node.toNat used.length with h | h
    · exact .inl h
    · exact .inr (by simp [List.getElem?_eq_none h])
  show Value.bool _ = _
  simp only [isAt, h2]
  congr 1
  rw [Bool.eq_iff_iff]
  simp only [Bool.and_eq_true, decide_eq_true_eq, Option.isSome]
  rcases h3 with h3 | h3
  · constructor
    · rintro ⟨⟨⟨_, h⟩, _⟩, h4⟩; exact ⟨h, h4⟩
    · rintro ⟨h, h4⟩; exact ⟨⟨⟨trivial, h⟩, by omega⟩, h4⟩
  · rw [h3]; simp
end Go.Proofs.YtmagdjlcckgkpaaGreat
