/- The law IndexTexts: the call returns true. -/
import Derived.Test.YtmppbpajncpjnaaIA
namespace Go.Proofs.Ytmppbpajncpjnaa
open Go.RowKit

def vv (s : ByteArray) : ByteArray := ⟨#[118]⟩ ++ s
theorem vv_size (s : ByteArray) : (vv s).size = 1 + s.size := by rw [vv, ByteArray.size_append]; rfl
theorem mput_any {n : Nat} {M : List (ByteArray × ByteArray)} {k v : ByteArray} (h : M.length < n) : mput n M k v = (0, (k, v) :: mdel M k) := if_neg fun h' => by omega
theorem mdel_len {α : Type} (M : List (ByteArray × α)) (k : ByteArray) : (mdel M k).length ≤ M.length := List.length_filter_le ..
theorem mem_mdel {α : Type} {M : List (ByteArray × α)} {k : ByteArray} {x : ByteArray × α} : x ∈ mdel M k ↔ x ∈ M ∧ x.1 ≠ k := by simp [mdel]

set_option maxHeartbeats 4000000 in
theorem indexTexts_spec (A1 : Option Addr) (c1 : Nat) (ks : List ByteArray) (A2 : Option Addr) (c2 : Nat) (L : List Int) (w : World)
    (h1 : Rd w Nil 1 (.slice A1 ks.length c1) ks.length (sv ks)) (hk1 : ks.length ≤ 140737488355328) (hks : ∀ s ∈ ks, s.size ≤ 140737488351232)
    (h2 : Rd w Nil 1 (.slice A2 L.length c2) L.length (iv L)) (hL : L.length ≤ 140737488355328) :
    Spec Try.prog 3 [.slice A1 ks.length c1, .slice A2 L.length c2] w Nil fun r _ => r = .bool true := by
  obtain ⟨A', c', e, hxl, hxc, hxA⟩ := id h1
  injection e with e1 _ e3
  subst e1; subst e3
  refine enter (n := 115) Try.func3 rfl rfl [(0, _), (1, _)] rfl ⟨rfl, rfl, trivial⟩ (Holds.start _ _) ?_
  refine w_seq ?_
  refine w_reg ?_
  refine wl_f (f_assign rfl) ?_
  refine wl_end [(0, _), (1, _)] ⟨rfl, rfl, trivial⟩ ?_
  refine w_seq ?_
  refine w_reg ?_
  refine wl_f (f_move rfl) ?_
  refine wl_e (e_call0 rfl Try.func8 (by kernel_rfl) (fun w hh => new_spec A2 L.length c2 w)) ?_
  rintro _ _ w1 ⟨_, rfl, bd, rfl, rfl⟩
  refine wl_e (e_call1 (deck bd (.slice A2 L.length c2) 0) [] rfl Try.func9 (by kernel_rfl) (List.Perm.refl _) (fun w hh hs' => table_spec bd _ L 0 w ⟨h2.old1 hh (Hr := []) (List.Perm.refl _), hL, Nat.zero_le _⟩ hs')) ?_
  rintro _ _ w2 ⟨_, rfl, T, p', A3, c3, rfl, hT, hTb, rfl, hp'⟩
  refine wl_e (e_call0 rfl Try.func7 (by kernel_rfl) (fun w hh => sxnew_ok 40 T _ 5 w (by omega) (by omega) hT (Rd.held0 hh (i := 0) rfl))) ?_
  rintro _ _ w3 ⟨_, rfl, b, r0, rfl, rfl, hr0⟩
  refine wl_f (f_move rfl) ?_
  refine wl_f (f_extract rfl rfl) ?_
  refine wl_f (f_extract rfl rfl) ?_
  refine wl_f (f_assign rfl) ?_
  refine wl_f (f_assign rfl) ?_
  refine wl_pick [0] rfl ?_
  refine wl_end [(0, _), (5, _), (6, _)] ⟨rfl, rfl, rfl, trivial⟩ ?_
  refine w_seq ?_
  refine w_seq ?_
  refine w_reg ?_
  refine wl_f (f_move rfl) ?_
  refine wl_f (f_neq rfl rfl) ?_
  refine wl_f (f_move rfl) ?_
  refine wl_or (j := 2) (c := false) 2 [(0, _), (5, _)] ⟨rfl, rfl, trivial⟩ rfl rfl rfl rfl rfl (fun hg2_5 => ?_) (fun w2_5 => ?_)
  · skip
    refine wl_gf rfl rfl (f_move rfl) ?_
    refine wl_gf rfl rfl (f_eqlnil rfl rfl Try.underlying24) ?_
    exact wl_pend rfl rfl ⟨rfl, rfl, trivial⟩ (List.Sublist.refl _)
  refine wl_end [(0, _), (5, _), (26, _)] ⟨rfl, rfl, rfl, trivial⟩ ?_
  refine w_iff rfl ?_
  refine w_skip ?_
  refine w_seq ?_
  refine w_seq ?_
  refine w_reg ?_
  refine wl_f (f_assign rfl) ?_
  refine wl_end [(0, _), (5, _), (7, _)] ⟨rfl, rfl, rfl, trivial⟩ ?_
  refine w_block ?_
  refine w_loop (fun kk m H w' => ∃ (i : Nat) (M : List (ByteArray × ByteArray)) (r : Res), m = [(0, .slice A1 ks.length c1), (5, .pointer (some ⟨b, 0, .none⟩)), (7, .int .i64 i)] ∧ H = [r] ∧ TbR xStr b 40 T 5 M r ∧ kk + i = 40 ∧ i ≤ ks.length ∧ M.length ≤ i ∧
    (∀ s ∈ ks.take i, (s, vv s) ∈ M) ∧ ∀ x ∈ M, x.1 ∈ ks.take i) 40 ⟨0, [], r0, rfl, rfl, hr0, rfl, Nat.zero_le _, Nat.zero_le _, by simp, by simp⟩ ?_
  rintro kk _ _ w4 ⟨i, M, r, rfl, rfl, hr, hkk, hiL, hMl, hM1, hM2⟩
  refine w_seq ?_
  refine w_seq ?_
  refine w_reg ?_
  refine wl_f (f_move rfl) ?_
  refine wl_f (f_move rfl) ?_
  refine wl_f (f_len rfl Try.underlying22) ?_
  refine wl_f (f_lss rfl rfl) ?_
  refine wl_f (f_move rfl) ?_
  refine wl_and (j := 4) (c := decide ((i : Int) < 40)) 2 [(0, _), (5, _), (7, _)] ⟨rfl, rfl, rfl, trivial⟩ rfl rfl rfl rfl rfl (fun hg5_7 => ?_) (fun w5_7 => ?_)
  · skip
    refine wl_gf rfl rfl (f_move rfl) ?_
    refine wl_gf rfl rfl (f_lss rfl rfl) ?_
    exact wl_pend rfl rfl ⟨rfl, rfl, rfl, trivial⟩ (List.Sublist.refl _)
  refine wl_end [(0, _), (5, _), (7, _), (34, _)] ⟨rfl, rfl, rfl, rfl, trivial⟩ ?_
  refine w_ifb rfl (fun hc2 => ?_) (fun hc2 => ?_)
  · skip
    simp only [Bool.and_eq_true, decide_eq_true_eq] at hc2
    have hi : i < ks.length := by omega
    obtain ⟨s, hsi⟩ : ∃ s, ks[i]? = some s := ⟨_, List.getElem?_eq_getElem hi⟩
    obtain ⟨b2, off, rfl, _, _, hcell⟩ := hxA.resolve_left (by omega)
    have hss := hks s (List.mem_of_getElem? hsi)
    have hsm : small s := by unfold small; omega
    have htk : ks.take (i + 1) = ks.take i ++ [s] := by rw [List.take_add_one, hsi]; rfl
    refine w_skip ?_
    refine w_seq ?_
    refine w_block ?_
    refine w_seq ?_
    refine w_draw [(0, true), (1, true), (2, true), (3, true), (4, true), (5, true), (6, true), (7, true), (8, true), (9, true), (10, false), (11, true)] ([]) ([_]) mixed (by kernel_rfl) (by kernel_rfl) rfl (List.Perm.refl _) (fun w7_ => ?_)
    refine wd_f rfl (f_move rfl) ?_
    refine wd_f rfl (f_move rfl) ?_
    refine wd_f rfl (f_move rfl) ?_
    refine wd_f rfl (f_indexAddr 1 (i := i) rfl rfl Try.underlying22 (by kernel_rfl) rfl hi) ?_
    refine wd_f rfl (f_loado (v := .string s) rfl Try.underlying9 rfl (hcell _ _ (sv_get hsi)) id) ?_
    refine wd_f rfl (f_move rfl) ?_
    refine wd_f rfl (f_move rfl) ?_
    refine wd_f rfl (f_indexAddr 1 (i := i) rfl rfl Try.underlying22 (by kernel_rfl) rfl hi) ?_
    refine wd_f rfl (f_loado (v := .string s) rfl Try.underlying9 rfl (hcell _ _ (sv_get hsi)) id) ?_
    refine wd_f rfl (f_adds rfl rfl (by show 1 + s.size ≤ _; omega)) ?_
    refine wd_e rfl (e_call1 r [] rfl Try.func10 (by kernel_rfl) (List.Perm.refl _) (fun w hh hs => sxput_spec b 40 T 5 M r s (vv s) w hsm hr hs)) ?_
    rw [mput_any (show M.length < 40 by omega)]
    rintro _ _ w5 ⟨_, rfl, rfl, r', rfl, hr'⟩
    refine ⟨_, List.Perm.refl _, ?_⟩
    refine wd_f rfl (f_neq rfl rfl) ?_
    refine wd_end [(0, _), (5, _), (7, _), (48, _)] ⟨rfl, rfl, rfl, rfl, trivial⟩ ?_
    refine w_ifb rfl (fun h => absurd h (by simp)) (fun _ => ?_)
    refine w_skip ?_
    refine w_reg ?_
    refine wl_f (f_move rfl) ?_
    refine wl_f (f_add rfl rfl (by omega)) ?_
    refine wl_f (f_assign rfl) ?_
    refine wl_end [(0, _), (5, _), (7, _)] ⟨rfl, rfl, rfl, trivial⟩ ?_
    refine ⟨kk - 1, by omega, i + 1, _, r', rfl, rfl, hr', by omega, by omega, ?_, fun z hz => ?_, fun x hx => ?_⟩
    · have := mdel_len M s; rw [List.length_cons]; omega
    · rw [htk] at hz
      by_cases hzs : z = s
      · subst hzs; exact List.mem_cons_self ..
      · rcases List.mem_append.1 hz with h | h
        · exact List.mem_cons_of_mem _ (mem_mdel.2 ⟨hM1 z h, hzs⟩)
        · exact absurd (List.mem_singleton.1 h) hzs
    · rw [htk]
      rcases List.mem_cons.1 hx with rfl | hx
      · exact List.mem_append_right _ (List.mem_singleton.2 rfl)
      · exact List.mem_append_left _ (hM2 x (mem_mdel.1 hx).1)
  · skip
    obtain ⟨N, hN, hN40, hNL, hNend⟩ : ∃ N, i = N ∧ N ≤ 40 ∧ N ≤ ks.length ∧ (N = 40 ∨ N = ks.length) := by
      refine ⟨i, rfl, by omega, hiL, ?_⟩
      simp only [Bool.and_eq_true, decide_eq_true_eq] at hc2
      omega
    subst hN
    refine w_exit0 ?_
    refine w_seq ?_
    refine w_seq ?_
    refine w_reg ?_
    refine wl_f (f_assign rfl) ?_
    refine wl_end [(0, _), (5, _), (8, _)] ⟨rfl, rfl, rfl, trivial⟩ ?_
    refine w_block ?_
    refine w_loop (fun kk m H w' => ∃ j : Nat, m = [(0, .slice A1 ks.length c1), (5, .pointer (some ⟨b, 0, .none⟩)), (8, .int .i64 j)] ∧ H = [r] ∧ kk + j = i ∧ j ≤ i) i ⟨0, rfl, rfl, rfl, Nat.zero_le _⟩ ?_
    rintro kk2 _ _ w6 ⟨j, rfl, rfl, hkk2, hji⟩
    refine w_seq ?_
    refine w_seq ?_
    refine w_reg ?_
    refine wl_f (f_move rfl) ?_
    refine wl_f (f_move rfl) ?_
    refine wl_f (f_len rfl Try.underlying22) ?_
    refine wl_f (f_lss rfl rfl) ?_
    refine wl_f (f_move rfl) ?_
    refine wl_and (j := 4) (c := decide ((j : Int) < 40)) 2 [(0, _), (5, _), (8, _)] ⟨rfl, rfl, rfl, trivial⟩ rfl rfl rfl rfl rfl (fun hg10_7 => ?_) (fun w10_7 => ?_)
    · skip
      refine wl_gf rfl rfl (f_move rfl) ?_
      refine wl_gf rfl rfl (f_lss rfl rfl) ?_
      exact wl_pend rfl rfl ⟨rfl, rfl, rfl, trivial⟩ (List.Sublist.refl _)
    refine wl_end [(0, _), (5, _), (8, _), (56, _)] ⟨rfl, rfl, rfl, rfl, trivial⟩ ?_
    refine w_ifb rfl (fun hc4 => ?_) (fun hc4 => ?_)
    · skip
      simp only [Bool.and_eq_true, decide_eq_true_eq] at hc4
      have hj : j < ks.length := by omega
      have hji2 : j < i := by omega
      obtain ⟨s, hsj⟩ : ∃ s, ks[j]? = some s := ⟨_, List.getElem?_eq_getElem hj⟩
      obtain ⟨b2, off, rfl, _, _, hcell⟩ := hxA.resolve_left (by omega)
      have hss := hks s (List.mem_of_getElem? hsj)
      have hsm : small s := by unfold small; omega
      have hmem : s ∈ ks.take i := List.mem_of_getElem? (i := j) (by rw [List.getElem?_take, if_pos hji2]; exact hsj)
      have hget := mget_some hr.nd (hM1 s hmem)
      refine w_skip ?_
      refine w_seq ?_
      refine w_block ?_
      refine w_seq ?_
      refine w_reg ?_
      refine wl_f (f_move rfl) ?_
      refine wl_f (f_move rfl) ?_
      refine wl_f (f_move rfl) ?_
      refine wl_f (f_indexAddr 1 (i := j) rfl rfl Try.underlying22 (by kernel_rfl) rfl hj) ?_
      refine wl_f (f_loado (v := .string s) rfl Try.underlying9 rfl (hcell _ _ (sv_get hsj)) id) ?_
      refine wl_e (e_call1 r [] rfl Try.func11 (by kernel_rfl) (List.Perm.refl _) (fun w hh hs => sxget_spec b 40 T 5 M r s w hsm hr hs)) ?_
      rw [hget]
      rintro _ _ w7 ⟨_, rfl, rfl, rfl⟩
      refine wl_f (f_move rfl) ?_
      refine wl_f (f_extract rfl rfl) ?_
      refine wl_f (f_extract rfl rfl) ?_
      refine wl_f (f_assign rfl) ?_
      refine wl_f (f_assign rfl) ?_
      refine wl_end [(0, _), (5, _), (8, _), (9, _), (10, _)] ⟨rfl, rfl, rfl, rfl, rfl, trivial⟩ ?_
      refine w_seq ?_
      refine w_reg ?_
      refine wl_f (f_move rfl) ?_
      refine wl_f (f_not rfl rfl) ?_
      refine wl_f (f_move rfl) ?_
      refine wl_or (j := 2) (c := decide (vv s ≠ vv s)) 7 [(0, _), (5, _), (8, _)] ⟨rfl, rfl, rfl, trivial⟩ rfl rfl rfl rfl rfl (fun hg13_10 => ?_) (fun w13_10 => ?_)
      · skip
        refine wl_gf rfl rfl (f_move rfl) ?_
        refine wl_gf rfl rfl (f_move rfl) ?_
        refine wl_gf rfl rfl (f_move rfl) ?_
        refine wl_gf rfl rfl (f_indexAddr 1 (i := j) rfl rfl Try.underlying22 (by kernel_rfl) rfl hj) ?_
        refine wl_gf rfl rfl (f_loado (v := .string s) rfl Try.underlying9 rfl (hcell _ _ (sv_get hsj)) id) ?_
        refine wl_gf rfl rfl (f_adds rfl rfl (by show 1 + s.size ≤ _; omega)) ?_
        refine wl_gf rfl rfl (f_neqs rfl rfl) ?_
        exact wl_pend rfl rfl ⟨rfl, rfl, rfl, trivial⟩ (List.Sublist.refl _)
      refine wl_end [(0, _), (5, _), (8, _), (78, _)] ⟨rfl, rfl, rfl, rfl, trivial⟩ ?_
      refine w_ifb rfl (fun h => absurd h (by simp)) (fun _ => ?_)
      refine w_skip ?_
      refine w_reg ?_
      refine wl_f (f_move rfl) ?_
      refine wl_f (f_add rfl rfl (by omega)) ?_
      refine wl_f (f_assign rfl) ?_
      refine wl_end [(0, _), (5, _), (8, _)] ⟨rfl, rfl, rfl, trivial⟩ ?_
      exact ⟨kk2 - 1, by omega, j + 1, rfl, rfl, by omega, by omega⟩
    · skip
      skip
      refine w_exit0 ?_
      refine w_seq ?_
      refine w_seq ?_
      refine w_reg ?_
      refine wl_f (f_assign rfl) ?_
      refine wl_end [(0, _), (5, _), (11, _)] ⟨rfl, rfl, rfl, trivial⟩ ?_
      refine w_block ?_
      refine w_loop (fun kk m H w' => ∃ (j : Nat) (M : List (ByteArray × ByteArray)) (r : Res), m = [(0, .slice A1 ks.length c1), (5, .pointer (some ⟨b, 0, .none⟩)), (11, .int .i64 j)] ∧ H = [r] ∧ TbR xStr b 40 T 5 M r ∧ kk + j = i ∧ j ≤ i ∧ ∀ x ∈ M, x.1 ∈ ks.take i ∧ x.1 ∉ ks.take j) i
        ⟨0, M, r, rfl, rfl, hr, rfl, Nat.zero_le _, fun x hx => ⟨hM2 x hx, by simp⟩⟩ ?_
      clear hr hM1 hM2 hMl
      rintro kk3 _ _ w8 ⟨j3, M, r, rfl, rfl, hr, hkk3, hji3, hM⟩
      refine w_seq ?_
      refine w_seq ?_
      refine w_reg ?_
      refine wl_f (f_move rfl) ?_
      refine wl_f (f_move rfl) ?_
      refine wl_f (f_len rfl Try.underlying22) ?_
      refine wl_f (f_lss rfl rfl) ?_
      refine wl_f (f_move rfl) ?_
      refine wl_and (j := 4) (c := decide ((j3 : Int) < 40)) 2 [(0, _), (5, _), (11, _)] ⟨rfl, rfl, rfl, trivial⟩ rfl rfl rfl rfl rfl (fun hg16_7 => ?_) (fun w16_7 => ?_)
      · skip
        refine wl_gf rfl rfl (f_move rfl) ?_
        refine wl_gf rfl rfl (f_lss rfl rfl) ?_
        exact wl_pend rfl rfl ⟨rfl, rfl, rfl, trivial⟩ (List.Sublist.refl _)
      refine wl_end [(0, _), (5, _), (11, _), (86, _)] ⟨rfl, rfl, rfl, rfl, trivial⟩ ?_
      refine w_ifb rfl (fun hc6 => ?_) (fun hc6 => ?_)
      · skip
        simp only [Bool.and_eq_true, decide_eq_true_eq] at hc6
        have hj : j3 < ks.length := by omega
        have hji2 : j3 < i := by omega
        obtain ⟨s, hsj⟩ : ∃ s, ks[j3]? = some s := ⟨_, List.getElem?_eq_getElem hj⟩
        obtain ⟨b2, off, rfl, _, _, hcell⟩ := hxA.resolve_left (by omega)
        have hss := hks s (List.mem_of_getElem? hsj)
        have hsm : small s := by unfold small; omega
        have htk : ks.take (j3 + 1) = ks.take j3 ++ [s] := by rw [List.take_add_one, hsj]; rfl
        refine w_skip ?_
        refine w_seq ?_
        refine w_block ?_
        refine w_seq ?_
        refine w_reg ?_
        refine wl_f (f_move rfl) ?_
        refine wl_f (f_move rfl) ?_
        refine wl_f (f_move rfl) ?_
        refine wl_f (f_indexAddr 1 (i := j3) rfl rfl Try.underlying22 (by kernel_rfl) rfl hj) ?_
        refine wl_f (f_loado (v := .string s) rfl Try.underlying9 rfl (hcell _ _ (sv_get hsj)) id) ?_
        refine wl_e (e_call1 r [] rfl Try.func12 (by kernel_rfl) (List.Perm.refl _) (fun w hh hs => sxdelete_spec b 40 T 5 M r s w hsm hr hs)) ?_
        rintro _ _ w9 ⟨_, rfl, rfl, r', rfl, hr'⟩
        refine wl_end [(0, _), (5, _), (11, _)] ⟨rfl, rfl, rfl, trivial⟩ ?_
        refine w_seq ?_
        refine w_reg ?_
        refine wl_f (f_move rfl) ?_
        refine wl_f (f_move rfl) ?_
        refine wl_f (f_move rfl) ?_
        refine wl_f (f_indexAddr 1 (i := j3) rfl rfl Try.underlying22 (by kernel_rfl) rfl hj) ?_
        refine wl_f (f_loado (v := .string s) rfl Try.underlying9 rfl (hcell _ _ (sv_get hsj)) id) ?_
        refine wl_e (e_call1 r' [] rfl Try.func11 (by kernel_rfl) (List.Perm.refl _) (fun w hh hs => sxget_spec b 40 T 5 _ r' s w hsm hr' hs)) ?_
        rw [mget_none (mdel_not M s)]
        rintro _ _ w10 ⟨_, rfl, rfl, rfl⟩
        refine wl_f (f_move rfl) ?_
        refine wl_f (f_extract rfl rfl) ?_
        refine wl_f (f_extract rfl rfl) ?_
        refine wl_f (f_assign rfl) ?_
        refine wl_f (f_assign rfl) ?_
        refine wl_end [(0, _), (5, _), (11, _), (12, _), (13, _)] ⟨rfl, rfl, rfl, rfl, rfl, trivial⟩ ?_
        refine w_seq ?_
        refine w_reg ?_
        refine wl_f (f_move rfl) ?_
        refine wl_f (f_move rfl) ?_
        refine wl_or (j := 1) (c := false) 2 [(0, _), (5, _), (11, _)] ⟨rfl, rfl, rfl, trivial⟩ rfl rfl rfl rfl rfl (fun hg20_4 => ?_) (fun w20_4 => ?_)
        · skip
          refine wl_gf rfl rfl (f_move rfl) ?_
          refine wl_gf rfl rfl (f_neqs rfl rfl) ?_
          exact wl_pend rfl rfl ⟨rfl, rfl, rfl, trivial⟩ (List.Sublist.refl _)
        refine wl_end [(0, _), (5, _), (11, _), (108, _)] ⟨rfl, rfl, rfl, rfl, trivial⟩ ?_
        refine w_iff rfl ?_
        refine w_skip ?_
        refine w_reg ?_
        refine wl_f (f_move rfl) ?_
        refine wl_f (f_add rfl rfl (by omega)) ?_
        refine wl_f (f_assign rfl) ?_
        refine wl_end [(0, _), (5, _), (11, _)] ⟨rfl, rfl, rfl, trivial⟩ ?_
        refine ⟨kk3 - 1, by omega, j3 + 1, _, r', rfl, rfl, hr', by omega, by omega, fun x hx => ?_⟩
        obtain ⟨hx1, hx2⟩ := mem_mdel.1 hx
        refine ⟨(hM x hx1).1, fun h => ?_⟩
        rw [htk] at h
        rcases List.mem_append.1 h with h | h
        · exact (hM x hx1).2 h
        · exact hx2 (List.mem_singleton.1 h)
      · skip
        obtain rfl : M = [] := by
          simp only [Bool.and_eq_true, decide_eq_true_eq] at hc6
          have hj : j3 = i := by omega
          subst hj
          cases M with
          | nil => rfl
          | cons x M => exact absurd (hM x (List.mem_cons_self ..)).1 (hM x (List.mem_cons_self ..)).2
        refine w_exit0 ?_
        refine w_seq ?_
        refine w_reg ?_
        refine wl_f (f_move rfl) ?_
        refine wl_e (e_call1 r [] rfl Try.func13 (by kernel_rfl) (List.Perm.refl _) (fun w hh hs => sxlen_spec b 40 T 5 _ r w hr hs)) ?_
        rintro _ _ w11 ⟨_, rfl, rfl, rfl⟩
        refine wl_f (f_eql rfl rfl) ?_
        refine wl_f (f_move rfl) ?_
        refine wl_and (j := 3) (c := true) 1 [] trivial rfl rfl rfl rfl rfl (fun hg22_5 => ?_) (fun w22_5 => ?_)
        · skip
          refine wl_ge rfl rfl (e_call0 rfl Try.func14 (by kernel_rfl) (fun w hh => awake10_spec w)) ?_
          rintro _ _ w15 ⟨_, rfl, rfl⟩
          exact wl_pend rfl rfl trivial (List.sublist_append_right _ _)
        refine wl_f (f_assign rfl) ?_
        refine wl_end [(4, _)] ⟨rfl, trivial⟩ ?_
        refine w_ret ?_
        refine ⟨_, _, fun a ha hh => results_tmps Try.results3 rfl a ha _, List.Sublist.refl _, ?_⟩
        rfl
end Go.Proofs.Ytmppbpajncpjnaa
