/- The walks of the two encoders of events. -/
import Derived.Test.YthbjjfpikfmmnaaD2
namespace Go.Proofs.Ythbjjfpikfmmnaa
open Go.RowKit

def EncodeSpec (f : FuncId) : Prop := ∀ (sl : Value) (tags : List Tg) (t : Int) (wt : Nat) (w : World), Rd w Nil 2 sl tags.length (tcells tags) → tags.length ≤ 1000000 → -9223372036854775808 ≤ t ∧ t ≤ 9223372036854775807 → wt < 18446744073709551616 →
  Spec Try.prog f [.agg #[sl, .int .i64 t, .int .u64 wt]] w Nil fun r H => ∃ v, r = .tuple #[v, .int .i64 (encEv tags t wt).2] ∧ H = [row v 5 1 (encEv tags t wt).1.length (bv (encEv tags t wt).1)] ∧ (encEv tags t wt).1.length ≤ 100000

theorem encEv_ok {tags : List Tg} {t : Int} {wt : Nat} (h1 : ¬ (t < 0 ∨ 1099511627776 < t)) (h2 : ¬ 8 < tags.length) (h3 : ∀ x ∈ tags, tagOk x) :
    encEv tags t wt = (venc t.toNat ++ venc wt ++ venc tags.length ++ tagsB tags, 0) := by rw [encEv, if_neg h1, if_neg h2, if_pos h3]
theorem encEv_len {tags : List Tg} {t : Int} {wt : Nat} : (encEv tags t wt).1.length ≤ 100000 := by
  unfold encEv
  split
  · simp
  split
  · simp
  split
  · rename_i h1 h2 h3
    have a := venc_len t.toNat; have b := venc_len wt; have c := venc_len tags.length; have d := tagsB_len tags h3
    simp only [List.length_append]; omega
  · simp
theorem take_snoc {α : Type} (l : List α) (i : Nat) (t : α) (h : l[i]? = some t) : l.take (i + 1) = l.take i ++ [t] := by
  rw [List.take_add_one, h]; rfl

set_option maxHeartbeats 1000000 in
theorem encode_spec : EncodeSpec 33 := by
  intro sl tags t wt w hrd hn ht hwt
  obtain ⟨A, c, rfl, hlen, hcap, hA⟩ := id hrd
  refine Spec.mono (Φ := fun r H => ∃ v, r = .tuple #[v, .int .i64 (encEv tags t wt).2] ∧ H = [row v 5 1 (encEv tags t wt).1.length (bv (encEv tags t wt).1)]) ?_ (fun r H ⟨v, h1, h2⟩ => ⟨v, h1, h2, encEv_len⟩)
  refine enter (n := 70) Try.func33 rfl rfl [(0, _)] rfl ⟨rfl, trivial⟩ (Holds.start _ _) ?_
  refine w_seq ?_
  refine w_reg ?_
  refine wl_e (e_box (cs := [_, _, _]) rfl rfl) ?_
  rintro _ _ w1 ⟨b1, rfl, rfl⟩
  refine wl_f (f_assign rfl) ?_
  refine wl_f (f_assign rfl) ?_
  refine wl_end [(1, _)] ⟨rfl, trivial⟩ ?_
  refine w_seq ?_
  refine w_seq ?_
  refine w_reg ?_
  refine wl_f (f_fieldAddr 1 rfl Try.underlying40 rfl rfl (by kernel_rfl)) ?_
  refine wl_f (f_loadb 0 rfl Try.underlying3 rfl rfl rfl) ?_
  refine wl_f (f_lss rfl rfl) ?_
  refine wl_f (f_move rfl) ?_
  refine wl_or (j := 3) (c := decide (1099511627776 < t)) 3 [(1, _)] ⟨rfl, trivial⟩ rfl rfl rfl rfl rfl (fun hg => ?_) (fun wg => ?_)
  · refine wl_gf rfl rfl (f_fieldAddr 1 rfl Try.underlying40 rfl rfl (by kernel_rfl)) ?_
    refine wl_gf rfl rfl (f_loadb 0 rfl Try.underlying3 rfl rfl rfl) ?_
    refine wl_gf rfl rfl (f_gtr rfl rfl) ?_
    exact wl_pend rfl rfl ⟨rfl, trivial⟩ (List.Sublist.refl _)
  refine wl_end [(1, _), (14, _)] ⟨rfl, rfl, trivial⟩ ?_
  refine w_ifb rfl (fun h => ?_) (fun h => ?_)
  · refine w_seq ?_
    refine w_reg ?_
    refine wl_f (f_assign rfl) ?_
    refine wl_f (f_assign rfl) ?_
    refine wl_end [(2, _), (3, _)] ⟨rfl, rfl, trivial⟩ ?_
    refine w_nilrow 5 1 (w_rm1 (w_ret ?_))
    simp only [Bool.or_eq_true, decide_eq_true_eq] at h
    refine ⟨_, [_], fun a ha hh => results_tmps Try.results33 rfl a ha _, List.Sublist.refl _, ?_⟩
    rw [encEv, if_pos h]
    exact ⟨_, rfl, rfl⟩
  simp only [Bool.or_eq_true, decide_eq_true_eq] at h
  refine w_skip ?_
  refine w_seq ?_
  refine w_seq ?_
  refine w_reg ?_
  refine wl_f (f_fieldAddr 0 rfl Try.underlying40 rfl rfl (by kernel_rfl)) ?_
  refine wl_f (f_loadb 0 rfl Try.underlying37 rfl rfl rfl) ?_
  refine wl_f (f_len rfl Try.underlying37) ?_
  refine wl_f (f_gtr rfl rfl) ?_
  refine wl_end [(1, _), (18, _)] ⟨rfl, rfl, trivial⟩ ?_
  refine w_ifd rfl (fun h2 => ?_) (fun h2 => ?_)
  · refine w_seq ?_
    refine w_reg ?_
    refine wl_f (f_assign rfl) ?_
    refine wl_f (f_assign rfl) ?_
    refine wl_end [(2, _), (3, _)] ⟨rfl, rfl, trivial⟩ ?_
    refine w_nilrow 5 1 (w_rm1 (w_ret ?_))
    refine ⟨_, [_], fun a ha hh => results_tmps Try.results33 rfl a ha _, List.Sublist.refl _, ?_⟩
    rw [encEv, if_neg h, if_pos (by omega)]
    exact ⟨_, rfl, rfl⟩
  refine w_skip ?_
  refine w_seq ?_
  refine w_reg ?_
  refine wl_f (f_fieldAddr 1 rfl Try.underlying40 rfl rfl (by kernel_rfl)) ?_
  refine wl_f (f_loadb 0 rfl Try.underlying3 rfl rfl rfl) ?_
  refine wl_f (f_convw (r := (t.toNat : Int)) rfl Try.underlying3 Try.underlying38 (by rw [IntWalk.u64_in _ (by omega)]; omega)) ?_
  refine wl_e (e_call0 rfl Try.func32 (by kernel_rfl) (fun w hh => append_spec (.slice .none 0 0) [] t.toNat w (Rd.nil _ _ _) (by simp) (by omega))) ?_
  rintro v2 _ w2 ⟨_, rfl, rfl⟩
  refine wl_f (f_assign rfl) ?_
  refine wl_end [(1, _), (4, _)] ⟨rfl, rfl, trivial⟩ ?_
  have l1 := venc_len t.toNat
  have l2 := venc_len wt
  have l3 := venc_len tags.length
  refine w_seq ?_
  refine w_reg ?_
  refine wl_f (f_move rfl) ?_
  refine wl_f (f_fieldAddr 2 rfl Try.underlying40 rfl rfl (by kernel_rfl)) ?_
  refine wl_f (f_loadb 1 rfl Try.underlying38 rfl rfl rfl) ?_
  refine wl_e (e_call0 rfl Try.func32 (by kernel_rfl) (fun w hh => append_spec _ _ wt w (Rd.held0 hh (i := 0) rfl) (by simp; omega) hwt)) ?_
  rintro v3 _ w3 ⟨_, rfl, rfl⟩
  refine wl_f (f_assign rfl) ?_
  refine wl_rm1 ?_
  refine wl_end [(1, _), (4, _)] ⟨rfl, rfl, trivial⟩ ?_
  refine w_seq ?_
  refine w_reg ?_
  refine wl_f (f_move rfl) ?_
  refine wl_f (f_fieldAddr 0 rfl Try.underlying40 rfl rfl (by kernel_rfl)) ?_
  refine wl_f (f_loadb 1 rfl Try.underlying37 rfl rfl rfl) ?_
  refine wl_f (f_len rfl Try.underlying37) ?_
  refine wl_f (f_convu rfl Try.underlying3 Try.underlying38 (by omega)) ?_
  refine wl_e (e_call0 rfl Try.func32 (by kernel_rfl) (fun w hh => append_spec _ _ tags.length w (Rd.held0 hh (i := 0) rfl) (by simp; omega) (by omega))) ?_
  rintro v4 _ w4 ⟨_, rfl, rfl⟩
  refine wl_f (f_assign rfl) ?_
  refine wl_rm1 ?_
  refine wl_end [(1, _), (4, _)] ⟨rfl, rfl, trivial⟩ ?_
  refine w_seq ?_
  refine w_seq ?_
  refine w_reg ?_
  refine wl_f (f_fieldAddr 0 rfl Try.underlying40 rfl rfl (by kernel_rfl)) ?_
  refine wl_f (f_loadb 1 rfl Try.underlying37 rfl rfl rfl) ?_
  refine wl_f (f_len rfl Try.underlying37) ?_
  refine wl_f (f_move rfl) ?_
  refine wl_end [(4, _), (34, _), (35, _), (36, _)] ⟨rfl, rfl, rfl, rfl, trivial⟩ ?_
  refine w_block ?_
  refine w_rm1 ?_
  refine w_loop (fun k m H w => ∃ (i : Nat) (u : Value), m = [(4, u), (34, .slice A tags.length c), (35, .int .i64 tags.length), (36, .int .i64 i)] ∧
    H = [row u 5 1 (venc t.toNat ++ venc wt ++ venc tags.length ++ tagsB (tags.take i)).length (bv (venc t.toNat ++ venc wt ++ venc tags.length ++ tagsB (tags.take i)))] ∧
    k + i = tags.length ∧ ∀ x ∈ tags.take i, tagOk x) tags.length ⟨0, v4, rfl, by simp [tagsB], rfl, by simp⟩ ?_
  rintro k _ _ w5 ⟨i, u, rfl, rfl, hk, hok⟩
  refine w_seq ?_
  refine w_reg ?_
  refine wl_f (f_lss rfl rfl) ?_
  refine wl_end [(4, _), (34, _), (35, _), (36, _), (37, _)] ⟨rfl, rfl, rfl, rfl, rfl, trivial⟩ ?_
  refine w_seq ?_
  refine w_ifd rfl (fun h3 => ?_) (fun h3 => ?_)
  · obtain ⟨tg, htg⟩ : ∃ tg, tags[i]? = some tg := ⟨tags[i]'(by omega), List.getElem?_eq_getElem (by omega)⟩
    obtain ⟨b, off, rfl, _, _, hcell⟩ := hA.resolve_left (by omega)
    have hbl := tagsB_len (tags.take i) hok
    rw [List.length_take, Nat.min_eq_left (by omega)] at hbl
    refine w_skip ?_
    refine w_seq ?_
    refine w_block ?_
    refine w_seq ?_
    refine w_reg ?_
    refine wl_f (f_indexAddr 2 rfl rfl Try.underlying37 (by kernel_rfl) rfl (by omega)) ?_
    refine wl_f (f_loadso (cs := [.string tg.1, .string tg.2]) rfl Try.underlying52 rfl (by kernel_rfl) (tcells_at hcell htg) id) ?_
    refine wl_e (e_allocs [.string ByteArray.empty, .string ByteArray.empty] (by kernel_rfl)) ?_
    rintro _ _ w6 ⟨b5, rfl, rfl⟩
    refine wl_e0 (e_store0 (us := [_, _]) rfl rfl rfl (by kernel_rfl) (by simp [Value.oneCell']) rfl rfl) ?_
    rintro _ _ w7 rfl
    refine wl_end [(4, _), (6, _), (34, _), (35, _), (36, _)] ⟨rfl, rfl, rfl, rfl, rfl, trivial⟩ ?_
    refine w_seq ?_
    refine w_seq ?_
    refine w_reg ?_
    refine wl_f (f_fieldAddr 0 rfl Try.underlying52 rfl rfl (by kernel_rfl)) ?_
    refine wl_f (f_loadb 0 rfl Try.underlying9 rfl rfl rfl) ?_
    refine wl_f (f_lens rfl Try.underlying9) ?_
    refine wl_f (f_gtr rfl rfl) ?_
    refine wl_f (f_move rfl) ?_
    refine wl_or (j := 4) (c := decide (4096 < (tg.2.size : Int))) 4 [(4, _), (6, _), (34, _), (35, _), (36, _)] ⟨rfl, rfl, rfl, rfl, rfl, trivial⟩ rfl rfl rfl rfl rfl (fun hg => ?_) (fun wg => ?_)
    · refine wl_gf rfl rfl (f_fieldAddr 1 rfl Try.underlying52 rfl rfl (by kernel_rfl)) ?_
      refine wl_gf rfl rfl (f_loadb 0 rfl Try.underlying9 rfl rfl rfl) ?_
      refine wl_gf rfl rfl (f_lens rfl Try.underlying9) ?_
      refine wl_gf rfl rfl (f_gtr rfl rfl) ?_
      exact wl_pend rfl rfl ⟨rfl, rfl, rfl, rfl, rfl, trivial⟩ (List.Sublist.refl _)
    refine wl_end [(4, _), (6, _), (34, _), (35, _), (36, _), (49, _)] ⟨rfl, rfl, rfl, rfl, rfl, rfl, trivial⟩ ?_
    refine w_ifb rfl (fun h4 => ?_) (fun h4 => ?_)
    · refine w_seq ?_
      refine w_reg ?_
      refine wl_f (f_assign rfl) ?_
      refine wl_f (f_assign rfl) ?_
      refine wl_end [(2, _), (3, _)] ⟨rfl, rfl, trivial⟩ ?_
      refine w_nilrow 5 1 (w_rm1 (w_rm1 (w_ret ?_)))
      refine ⟨_, [_], fun a ha hh => results_tmps Try.results33 rfl a ha _, List.Sublist.refl _, ?_⟩
      simp only [Bool.or_eq_true, decide_eq_true_eq] at h4
      rw [encEv, if_neg h, if_neg (by omega), if_neg (fun hall => by have := hall tg (List.mem_of_getElem? htg); unfold tagOk at this; omega)]
      exact ⟨_, rfl, rfl⟩
    simp only [Bool.or_eq_true, decide_eq_true_eq] at h4
    have hto : tagOk tg := by unfold tagOk; omega
    unfold tagOk at hto
    refine w_skip ?_
    refine w_seq ?_
    have q1 := venc_len tg.1.size
    have q2 := venc_len tg.2.size
    refine w_draw [(0, true), (1, true), (2, true), (3, true), (4, true), (6, true), (7, true), (5, false), (8, false), (9, true)] [_] [_] mixed (by kernel_rfl) (by kernel_rfl) rfl (List.Perm.refl _) (fun w8 => ?_)
    refine wd_f rfl (f_move rfl) ?_
    refine wd_f rfl (f_fieldAddr 0 rfl Try.underlying52 rfl rfl (by kernel_rfl)) ?_
    refine wd_f rfl (f_loadb 0 rfl Try.underlying9 rfl rfl rfl) ?_
    refine wd_f rfl (f_lens rfl Try.underlying9) ?_
    refine wd_f rfl (f_convu rfl Try.underlying3 Try.underlying38 (by omega)) ?_
    refine wd_f rfl (f_fieldAddr 0 rfl Try.underlying52 rfl rfl (by kernel_rfl)) ?_
    refine wd_f rfl (f_loadb 0 rfl Try.underlying9 rfl rfl rfl) ?_
    refine wd_e rfl (e_call0 rfl Try.func32 (by kernel_rfl) (fun w hh => append_spec _ _ tg.1.size w (Rd.held0 hh (i := 1) rfl) (by simp; omega) (by omega))) ?_
    rintro v8 _ w9 ⟨_, rfl, rfl⟩
    refine ⟨_, List.perm_append_comm_assoc _ _ _, ?_⟩
    refine wd_e rfl (e_apps1 t22 Try.underlying9 rfl rfl (by simp; omega)) ?_
    rintro v9 _ w10 rfl
    refine ⟨_, List.Perm.refl _, ?_⟩
    refine wd_f rfl (f_assign rfl) ?_
    refine wd_end [(4, _), (6, _), (34, _), (35, _), (36, _)] ⟨rfl, rfl, rfl, rfl, rfl, trivial⟩ ?_
    refine w_rm2 ?_
    refine w_draw [(0, true), (1, true), (2, true), (3, true), (4, true), (6, true), (7, true), (5, false), (8, false), (9, true)] [_] [_] mixed (by kernel_rfl) (by kernel_rfl) rfl (List.Perm.refl _) (fun w11 => ?_)
    refine wd_f rfl (f_move rfl) ?_
    refine wd_f rfl (f_fieldAddr 1 rfl Try.underlying52 rfl rfl (by kernel_rfl)) ?_
    refine wd_f rfl (f_loadb 0 rfl Try.underlying9 rfl rfl rfl) ?_
    refine wd_f rfl (f_lens rfl Try.underlying9) ?_
    refine wd_f rfl (f_convu rfl Try.underlying3 Try.underlying38 (by omega)) ?_
    refine wd_f rfl (f_fieldAddr 1 rfl Try.underlying52 rfl rfl (by kernel_rfl)) ?_
    refine wd_f rfl (f_loadb 0 rfl Try.underlying9 rfl rfl rfl) ?_
    refine wd_e rfl (e_call0 rfl Try.func32 (by kernel_rfl) (fun w hh => append_spec _ (venc t.toNat ++ venc wt ++ venc tags.length ++ tagsB (tags.take i) ++ venc tg.1.size ++ sb tg.1) tg.2.size w ?_ (by simp [sb_len]; omega) (by omega))) ?_
    · have := Rd.held0 hh (i := 1) rfl
      rw [sb_cells, ← bv_app] at this
      have e : ∀ (l : List Nat) (s : ByteArray), l.length + s.size = (l ++ sb s).length := fun l s => by simp [sb_len]
      rw [e] at this
      exact this
    rintro v11 _ w12 ⟨_, rfl, rfl⟩
    refine ⟨_, List.perm_append_comm_assoc _ _ _, ?_⟩
    refine wd_e rfl (e_apps1 t22 Try.underlying9 rfl rfl (by simp [sb_len]; omega)) ?_
    rintro v12 _ w13 rfl
    refine ⟨_, List.Perm.refl _, ?_⟩
    refine wd_f rfl (f_assign rfl) ?_
    refine wd_end [(4, _), (34, _), (35, _), (36, _)] ⟨rfl, rfl, rfl, rfl, trivial⟩ ?_
    refine w_rm2 (w_rm0 ?_)
    refine w_reg ?_
    refine wl_f (f_add rfl rfl (by omega)) ?_
    refine wl_f (f_move rfl) ?_
    refine wl_end [(4, _), (34, _), (35, _), (36, _)] ⟨rfl, rfl, rfl, rfl, trivial⟩ ?_
    refine ⟨k - 1, by omega, i + 1, v12, rfl, ?_, by omega, ?_⟩
    · rw [take_snoc tags i tg htg, tagsB_snoc, sb_cells, ← bv_app]
      simp only [tagB, List.append_assoc, List.length_append, sb_len, Nat.add_assoc]
    · rw [take_snoc tags i tg htg]
      intro x hx
      rcases List.mem_append.1 hx with hx | hx
      · exact hok x hx
      · simp at hx; subst hx; exact hto
  refine w_exit0 ?_
  refine w_seq ?_
  refine w_reg ?_
  refine wl_f (f_move rfl) ?_
  refine wl_f (f_assign rfl) ?_
  refine wl_f (f_assign rfl) ?_
  refine wl_end [(2, _), (3, _)] ⟨rfl, rfl, trivial⟩ ?_
  refine w_ret ?_
  refine ⟨_, _, fun a ha hh => results_tmps Try.results33 rfl a ha _, List.Sublist.refl _, ?_⟩
  have hi : tags.take i = tags := List.take_of_length_le (by omega)
  rw [hi] at hok ⊢
  rw [encEv_ok h (by omega) hok]
  exact ⟨_, rfl, rfl⟩
set_option maxHeartbeats 1000000 in
theorem rencode_spec : EncodeSpec 23 := by
  intro sl tags t wt w hrd hn ht hwt
  obtain ⟨A, c, rfl, hlen, hcap, hA⟩ := id hrd
  refine Spec.mono (Φ := fun r H => ∃ v, r = .tuple #[v, .int .i64 (encEv tags t wt).2] ∧ H = [row v 5 1 (encEv tags t wt).1.length (bv (encEv tags t wt).1)]) ?_ (fun r H ⟨v, h1, h2⟩ => ⟨v, h1, h2, encEv_len⟩)
  refine enter (n := 70) Try.func23 rfl rfl [(0, _)] rfl ⟨rfl, trivial⟩ (Holds.start _ _) ?_
  refine w_seq ?_
  refine w_reg ?_
  refine wl_e (e_box (cs := [_, _, _]) rfl rfl) ?_
  rintro _ _ w1 ⟨b1, rfl, rfl⟩
  refine wl_f (f_assign rfl) ?_
  refine wl_f (f_assign rfl) ?_
  refine wl_end [(1, _)] ⟨rfl, trivial⟩ ?_
  refine w_seq ?_
  refine w_seq ?_
  refine w_reg ?_
  refine wl_f (f_fieldAddr 1 rfl Try.underlying40 rfl rfl (by kernel_rfl)) ?_
  refine wl_f (f_loadb 0 rfl Try.underlying3 rfl rfl rfl) ?_
  refine wl_f (f_lss rfl rfl) ?_
  refine wl_f (f_move rfl) ?_
  refine wl_or (j := 3) (c := decide (1099511627776 < t)) 3 [(1, _)] ⟨rfl, trivial⟩ rfl rfl rfl rfl rfl (fun hg => ?_) (fun wg => ?_)
  · refine wl_gf rfl rfl (f_fieldAddr 1 rfl Try.underlying40 rfl rfl (by kernel_rfl)) ?_
    refine wl_gf rfl rfl (f_loadb 0 rfl Try.underlying3 rfl rfl rfl) ?_
    refine wl_gf rfl rfl (f_gtr rfl rfl) ?_
    exact wl_pend rfl rfl ⟨rfl, trivial⟩ (List.Sublist.refl _)
  refine wl_end [(1, _), (14, _)] ⟨rfl, rfl, trivial⟩ ?_
  refine w_ifb rfl (fun h => ?_) (fun h => ?_)
  · refine w_seq ?_
    refine w_reg ?_
    refine wl_f (f_assign rfl) ?_
    refine wl_f (f_assign rfl) ?_
    refine wl_end [(2, _), (3, _)] ⟨rfl, rfl, trivial⟩ ?_
    refine w_nilrow 5 1 (w_rm1 (w_ret ?_))
    simp only [Bool.or_eq_true, decide_eq_true_eq] at h
    refine ⟨_, [_], fun a ha hh => results_tmps Try.results23 rfl a ha _, List.Sublist.refl _, ?_⟩
    rw [encEv, if_pos h]
    exact ⟨_, rfl, rfl⟩
  simp only [Bool.or_eq_true, decide_eq_true_eq] at h
  refine w_skip ?_
  refine w_seq ?_
  refine w_seq ?_
  refine w_reg ?_
  refine wl_f (f_fieldAddr 0 rfl Try.underlying40 rfl rfl (by kernel_rfl)) ?_
  refine wl_f (f_loadb 0 rfl Try.underlying37 rfl rfl rfl) ?_
  refine wl_f (f_len rfl Try.underlying37) ?_
  refine wl_f (f_gtr rfl rfl) ?_
  refine wl_end [(1, _), (18, _)] ⟨rfl, rfl, trivial⟩ ?_
  refine w_ifd rfl (fun h2 => ?_) (fun h2 => ?_)
  · refine w_seq ?_
    refine w_reg ?_
    refine wl_f (f_assign rfl) ?_
    refine wl_f (f_assign rfl) ?_
    refine wl_end [(2, _), (3, _)] ⟨rfl, rfl, trivial⟩ ?_
    refine w_nilrow 5 1 (w_rm1 (w_ret ?_))
    refine ⟨_, [_], fun a ha hh => results_tmps Try.results23 rfl a ha _, List.Sublist.refl _, ?_⟩
    rw [encEv, if_neg h, if_pos (by omega)]
    exact ⟨_, rfl, rfl⟩
  refine w_skip ?_
  refine w_seq ?_
  refine w_reg ?_
  refine wl_f (f_fieldAddr 1 rfl Try.underlying40 rfl rfl (by kernel_rfl)) ?_
  refine wl_f (f_loadb 0 rfl Try.underlying3 rfl rfl rfl) ?_
  refine wl_f (f_convw (r := (t.toNat : Int)) rfl Try.underlying3 Try.underlying38 (by rw [IntWalk.u64_in _ (by omega)]; omega)) ?_
  refine wl_e (e_call0 rfl Try.func22 (by kernel_rfl) (fun w hh => rappend_spec (.slice .none 0 0) [] t.toNat w (Rd.nil _ _ _) (by simp) (by omega))) ?_
  rintro v2 _ w2 ⟨_, rfl, rfl⟩
  refine wl_f (f_assign rfl) ?_
  refine wl_end [(1, _), (4, _)] ⟨rfl, rfl, trivial⟩ ?_
  have l1 := venc_len t.toNat
  have l2 := venc_len wt
  have l3 := venc_len tags.length
  refine w_seq ?_
  refine w_reg ?_
  refine wl_f (f_move rfl) ?_
  refine wl_f (f_fieldAddr 2 rfl Try.underlying40 rfl rfl (by kernel_rfl)) ?_
  refine wl_f (f_loadb 1 rfl Try.underlying38 rfl rfl rfl) ?_
  refine wl_e (e_call0 rfl Try.func22 (by kernel_rfl) (fun w hh => rappend_spec _ _ wt w (Rd.held0 hh (i := 0) rfl) (by simp; omega) hwt)) ?_
  rintro v3 _ w3 ⟨_, rfl, rfl⟩
  refine wl_f (f_assign rfl) ?_
  refine wl_rm1 ?_
  refine wl_end [(1, _), (4, _)] ⟨rfl, rfl, trivial⟩ ?_
  refine w_seq ?_
  refine w_reg ?_
  refine wl_f (f_move rfl) ?_
  refine wl_f (f_fieldAddr 0 rfl Try.underlying40 rfl rfl (by kernel_rfl)) ?_
  refine wl_f (f_loadb 1 rfl Try.underlying37 rfl rfl rfl) ?_
  refine wl_f (f_len rfl Try.underlying37) ?_
  refine wl_f (f_convu rfl Try.underlying3 Try.underlying38 (by omega)) ?_
  refine wl_e (e_call0 rfl Try.func22 (by kernel_rfl) (fun w hh => rappend_spec _ _ tags.length w (Rd.held0 hh (i := 0) rfl) (by simp; omega) (by omega))) ?_
  rintro v4 _ w4 ⟨_, rfl, rfl⟩
  refine wl_f (f_assign rfl) ?_
  refine wl_rm1 ?_
  refine wl_end [(1, _), (4, _)] ⟨rfl, rfl, trivial⟩ ?_
  refine w_seq ?_
  refine w_seq ?_
  refine w_reg ?_
  refine wl_f (f_fieldAddr 0 rfl Try.underlying40 rfl rfl (by kernel_rfl)) ?_
  refine wl_f (f_loadb 1 rfl Try.underlying37 rfl rfl rfl) ?_
  refine wl_f (f_len rfl Try.underlying37) ?_
  refine wl_f (f_move rfl) ?_
  refine wl_end [(4, _), (34, _), (35, _), (36, _)] ⟨rfl, rfl, rfl, rfl, trivial⟩ ?_
  refine w_block ?_
  refine w_rm1 ?_
  refine w_loop (fun k m H w => ∃ (i : Nat) (u : Value), m = [(4, u), (34, .slice A tags.length c), (35, .int .i64 tags.length), (36, .int .i64 i)] ∧
    H = [row u 5 1 (venc t.toNat ++ venc wt ++ venc tags.length ++ tagsB (tags.take i)).length (bv (venc t.toNat ++ venc wt ++ venc tags.length ++ tagsB (tags.take i)))] ∧
    k + i = tags.length ∧ ∀ x ∈ tags.take i, tagOk x) tags.length ⟨0, v4, rfl, by simp [tagsB], rfl, by simp⟩ ?_
  rintro k _ _ w5 ⟨i, u, rfl, rfl, hk, hok⟩
  refine w_seq ?_
  refine w_reg ?_
  refine wl_f (f_lss rfl rfl) ?_
  refine wl_end [(4, _), (34, _), (35, _), (36, _), (37, _)] ⟨rfl, rfl, rfl, rfl, rfl, trivial⟩ ?_
  refine w_seq ?_
  refine w_ifd rfl (fun h3 => ?_) (fun h3 => ?_)
  · obtain ⟨tg, htg⟩ : ∃ tg, tags[i]? = some tg := ⟨tags[i]'(by omega), List.getElem?_eq_getElem (by omega)⟩
    obtain ⟨b, off, rfl, _, _, hcell⟩ := hA.resolve_left (by omega)
    have hbl := tagsB_len (tags.take i) hok
    rw [List.length_take, Nat.min_eq_left (by omega)] at hbl
    refine w_skip ?_
    refine w_seq ?_
    refine w_block ?_
    refine w_seq ?_
    refine w_reg ?_
    refine wl_f (f_indexAddr 2 rfl rfl Try.underlying37 (by kernel_rfl) rfl (by omega)) ?_
    refine wl_f (f_loadso (cs := [.string tg.1, .string tg.2]) rfl Try.underlying52 rfl (by kernel_rfl) (tcells_at hcell htg) id) ?_
    refine wl_e (e_allocs [.string ByteArray.empty, .string ByteArray.empty] (by kernel_rfl)) ?_
    rintro _ _ w6 ⟨b5, rfl, rfl⟩
    refine wl_e0 (e_store0 (us := [_, _]) rfl rfl rfl (by kernel_rfl) (by simp [Value.oneCell']) rfl rfl) ?_
    rintro _ _ w7 rfl
    refine wl_end [(4, _), (6, _), (34, _), (35, _), (36, _)] ⟨rfl, rfl, rfl, rfl, rfl, trivial⟩ ?_
    refine w_seq ?_
    refine w_seq ?_
    refine w_reg ?_
    refine wl_f (f_fieldAddr 0 rfl Try.underlying52 rfl rfl (by kernel_rfl)) ?_
    refine wl_f (f_loadb 0 rfl Try.underlying9 rfl rfl rfl) ?_
    refine wl_f (f_lens rfl Try.underlying9) ?_
    refine wl_f (f_gtr rfl rfl) ?_
    refine wl_f (f_move rfl) ?_
    refine wl_or (j := 4) (c := decide (4096 < (tg.2.size : Int))) 4 [(4, _), (6, _), (34, _), (35, _), (36, _)] ⟨rfl, rfl, rfl, rfl, rfl, trivial⟩ rfl rfl rfl rfl rfl (fun hg => ?_) (fun wg => ?_)
    · refine wl_gf rfl rfl (f_fieldAddr 1 rfl Try.underlying52 rfl rfl (by kernel_rfl)) ?_
      refine wl_gf rfl rfl (f_loadb 0 rfl Try.underlying9 rfl rfl rfl) ?_
      refine wl_gf rfl rfl (f_lens rfl Try.underlying9) ?_
      refine wl_gf rfl rfl (f_gtr rfl rfl) ?_
      exact wl_pend rfl rfl ⟨rfl, rfl, rfl, rfl, rfl, trivial⟩ (List.Sublist.refl _)
    refine wl_end [(4, _), (6, _), (34, _), (35, _), (36, _), (49, _)] ⟨rfl, rfl, rfl, rfl, rfl, rfl, trivial⟩ ?_
    refine w_ifb rfl (fun h4 => ?_) (fun h4 => ?_)
    · refine w_seq ?_
      refine w_reg ?_
      refine wl_f (f_assign rfl) ?_
      refine wl_f (f_assign rfl) ?_
      refine wl_end [(2, _), (3, _)] ⟨rfl, rfl, trivial⟩ ?_
      refine w_nilrow 5 1 (w_rm1 (w_rm1 (w_ret ?_)))
      refine ⟨_, [_], fun a ha hh => results_tmps Try.results23 rfl a ha _, List.Sublist.refl _, ?_⟩
      simp only [Bool.or_eq_true, decide_eq_true_eq] at h4
      rw [encEv, if_neg h, if_neg (by omega), if_neg (fun hall => by have := hall tg (List.mem_of_getElem? htg); unfold tagOk at this; omega)]
      exact ⟨_, rfl, rfl⟩
    simp only [Bool.or_eq_true, decide_eq_true_eq] at h4
    have hto : tagOk tg := by unfold tagOk; omega
    unfold tagOk at hto
    refine w_skip ?_
    refine w_seq ?_
    have q1 := venc_len tg.1.size
    have q2 := venc_len tg.2.size
    refine w_draw [(0, true), (1, true), (2, true), (3, true), (4, true), (6, true), (7, true), (5, false), (8, false), (9, true)] [_] [_] mixed (by kernel_rfl) (by kernel_rfl) rfl (List.Perm.refl _) (fun w8 => ?_)
    refine wd_f rfl (f_move rfl) ?_
    refine wd_f rfl (f_fieldAddr 0 rfl Try.underlying52 rfl rfl (by kernel_rfl)) ?_
    refine wd_f rfl (f_loadb 0 rfl Try.underlying9 rfl rfl rfl) ?_
    refine wd_f rfl (f_lens rfl Try.underlying9) ?_
    refine wd_f rfl (f_convu rfl Try.underlying3 Try.underlying38 (by omega)) ?_
    refine wd_f rfl (f_fieldAddr 0 rfl Try.underlying52 rfl rfl (by kernel_rfl)) ?_
    refine wd_f rfl (f_loadb 0 rfl Try.underlying9 rfl rfl rfl) ?_
    refine wd_e rfl (e_call0 rfl Try.func22 (by kernel_rfl) (fun w hh => rappend_spec _ _ tg.1.size w (Rd.held0 hh (i := 1) rfl) (by simp; omega) (by omega))) ?_
    rintro v8 _ w9 ⟨_, rfl, rfl⟩
    refine ⟨_, List.perm_append_comm_assoc _ _ _, ?_⟩
    refine wd_e rfl (e_apps1 t22 Try.underlying9 rfl rfl (by simp; omega)) ?_
    rintro v9 _ w10 rfl
    refine ⟨_, List.Perm.refl _, ?_⟩
    refine wd_f rfl (f_assign rfl) ?_
    refine wd_end [(4, _), (6, _), (34, _), (35, _), (36, _)] ⟨rfl, rfl, rfl, rfl, rfl, trivial⟩ ?_
    refine w_rm2 ?_
    refine w_draw [(0, true), (1, true), (2, true), (3, true), (4, true), (6, true), (7, true), (5, false), (8, false), (9, true)] [_] [_] mixed (by kernel_rfl) (by kernel_rfl) rfl (List.Perm.refl _) (fun w11 => ?_)
    refine wd_f rfl (f_move rfl) ?_
    refine wd_f rfl (f_fieldAddr 1 rfl Try.underlying52 rfl rfl (by kernel_rfl)) ?_
    refine wd_f rfl (f_loadb 0 rfl Try.underlying9 rfl rfl rfl) ?_
    refine wd_f rfl (f_lens rfl Try.underlying9) ?_
    refine wd_f rfl (f_convu rfl Try.underlying3 Try.underlying38 (by omega)) ?_
    refine wd_f rfl (f_fieldAddr 1 rfl Try.underlying52 rfl rfl (by kernel_rfl)) ?_
    refine wd_f rfl (f_loadb 0 rfl Try.underlying9 rfl rfl rfl) ?_
    refine wd_e rfl (e_call0 rfl Try.func22 (by kernel_rfl) (fun w hh => rappend_spec _ (venc t.toNat ++ venc wt ++ venc tags.length ++ tagsB (tags.take i) ++ venc tg.1.size ++ sb tg.1) tg.2.size w ?_ (by simp [sb_len]; omega) (by omega))) ?_
    · have := Rd.held0 hh (i := 1) rfl
      rw [sb_cells, ← bv_app] at this
      have e : ∀ (l : List Nat) (s : ByteArray), l.length + s.size = (l ++ sb s).length := fun l s => by simp [sb_len]
      rw [e] at this
      exact this
    rintro v11 _ w12 ⟨_, rfl, rfl⟩
    refine ⟨_, List.perm_append_comm_assoc _ _ _, ?_⟩
    refine wd_e rfl (e_apps1 t22 Try.underlying9 rfl rfl (by simp [sb_len]; omega)) ?_
    rintro v12 _ w13 rfl
    refine ⟨_, List.Perm.refl _, ?_⟩
    refine wd_f rfl (f_assign rfl) ?_
    refine wd_end [(4, _), (34, _), (35, _), (36, _)] ⟨rfl, rfl, rfl, rfl, trivial⟩ ?_
    refine w_rm2 (w_rm0 ?_)
    refine w_reg ?_
    refine wl_f (f_add rfl rfl (by omega)) ?_
    refine wl_f (f_move rfl) ?_
    refine wl_end [(4, _), (34, _), (35, _), (36, _)] ⟨rfl, rfl, rfl, rfl, trivial⟩ ?_
    refine ⟨k - 1, by omega, i + 1, v12, rfl, ?_, by omega, ?_⟩
    · rw [take_snoc tags i tg htg, tagsB_snoc, sb_cells, ← bv_app]
      simp only [tagB, List.append_assoc, List.length_append, sb_len, Nat.add_assoc]
    · rw [take_snoc tags i tg htg]
      intro x hx
      rcases List.mem_append.1 hx with hx | hx
      · exact hok x hx
      · simp at hx; subst hx; exact hto
  refine w_exit0 ?_
  refine w_seq ?_
  refine w_reg ?_
  refine wl_f (f_move rfl) ?_
  refine wl_f (f_assign rfl) ?_
  refine wl_f (f_assign rfl) ?_
  refine wl_end [(2, _), (3, _)] ⟨rfl, rfl, trivial⟩ ?_
  refine w_ret ?_
  refine ⟨_, _, fun a ha hh => results_tmps Try.results23 rfl a ha _, List.Sublist.refl _, ?_⟩
  have hi : tags.take i = tags := List.take_of_length_le (by omega)
  rw [hi] at hok ⊢
  rw [encEv_ok h (by omega) hok]
  exact ⟨_, rfl, rfl⟩
end Go.Proofs.Ythbjjfpikfmmnaa
