/- Texts of this proof, part MA5: what the code does, step by step. They have no conditions. -/
import Derived.Test.YtmagdjlcckgkpaaGreatMA4
/- Linked lists: a free place; a new node. -/
namespace Go.Proofs.YtmagdjlcckgkpaaGreat
open Go.RowKit

/-- A list in which the node x is free. -/
def ChF {α : Type} (K : VK α) (b n : Nat) (l : List (Nat × α)) (x : Nat) (r : Res) : Prop :=
  ∃ uV nV pV vV used nx pv vs, r = bun (chs K b n l uV nV pV vV used nx pv vs) ∧ CInv n l used nx pv vs ∧ x < used.length ∧ Fresh (nodes l) x

theorem bov_app (l : List Bool) (a : Bool) : bov (l ++ [a]) = bov l ++ [.bool a] := by simp [bov]
theorem iv_app (l : List Int) (a : Int) : iv (l ++ [a]) = iv l ++ [.int .i64 a] := by simp [iv]
theorem vc_app {α : Type} (K : VK α) (l : List α) (a : α) : vcells K (l ++ [a]) = vcells K l ++ K.cells a := by simp [vcells]

set_option maxHeartbeats 4000000 in
theorem ifree_spec (b n : Nat) (l : List (Nat × _)) (r : Res) (w : World) (hn : n ≤ 8192) (hl : l.length < n) (hr : ChR kInt b n l r) (hs : Holds w r.foot [r] w) :
    Spec Tryz.prog 137 [.pointer (some ⟨b, 0, .none⟩)] w r.foot fun v H => ∃ (x : Nat) (r' : Res), v = .int .i64 x ∧ H = [r'] ∧ ChF kInt b n l x r' := by
  obtain ⟨uV, nV, pV, vV, used, nx, pv, vs, rfl, hc⟩ := hr
  have hle := hc.le
  refine enter (n := 64) Tryz.func137 rfl rfl [(0, _)] rfl ⟨rfl, trivial⟩ hs ?_
  refine w_unb (chs kInt b n l uV nV pV vV used nx pv vs) ?_
  refine w_with fun hh => ?_
  obtain ⟨U, cu, rfl⟩ := row_slice hh (i := 1) rfl
  clear hh
  refine w_seq ?_
  refine w_reg ?_
  refine wl_f (f_assign rfl) ?_
  refine wl_end [(0, _)] ⟨rfl, trivial⟩ ?_
  refine w_seq ?_
  refine w_seq ?_
  refine w_reg ?_
  refine wl_f (f_move rfl) ?_
  refine wl_f (f_nilCheck rfl) ?_
  refine wl_f (f_fieldAddr 4 rfl Tryz.underlying182 rfl rfl (by kernel_rfl)) ?_
  (first | refine wl_f (f_loadb 0 rfl Tryz.underlying128 rfl rfl rfl) ?_ | refine wl_f (f_loadb 1 rfl Tryz.underlying128 rfl rfl rfl) ?_ | refine wl_f (f_loadb 2 rfl Tryz.underlying128 rfl rfl rfl) ?_ | refine wl_f (f_loadb 3 rfl Tryz.underlying128 rfl rfl rfl) ?_ | refine wl_f (f_loadb 4 rfl Tryz.underlying128 rfl rfl rfl) ?_ | refine wl_f (f_loadb 5 rfl Tryz.underlying128 rfl rfl rfl) ?_ | refine wl_f (f_loadb 6 rfl Tryz.underlying128 rfl rfl rfl) ?_)
  refine wl_f (f_len rfl Tryz.underlying128) ?_
  refine wl_f (f_move rfl) ?_
  refine wl_end [(0, _), (8, _), (9, _), (10, _)] ⟨rfl, rfl, rfl, rfl, trivial⟩ ?_
  refine w_block ?_
  refine w_loop (fun k m H w => ∃ i : Nat, m = [(0, .pointer (some ⟨b, 0, .none⟩)), (8, .slice U used.length cu), (9, .int .i64 used.length), (10, .int .i64 i)] ∧ H = chs kInt b n l (.slice U used.length cu) nV pV vV used nx pv vs ∧ k + i = used.length ∧ ∀ j < i, used[j]? = some true) used.length
    ⟨0, rfl, rfl, by omega, by omega⟩ ?_
  rintro k _ _ w1 ⟨i, rfl, rfl, hk, hall⟩
  refine w_seq ?_
  refine w_reg ?_
  refine wl_f (f_lss rfl rfl) ?_
  refine wl_end [(0, _), (8, _), (9, _), (10, _), (11, _)] ⟨rfl, rfl, rfl, rfl, rfl, trivial⟩ ?_
  refine w_seq ?_
  refine w_ifd rfl (fun hc1 => ?_) (fun hc1 => ?_)
  · skip
    have hi : i < used.length := by omega
    refine w_skip ?_
    refine w_seq ?_
    refine w_block ?_
    refine w_seq ?_
    refine w_reg ?_
    refine wl_f (f_move rfl) ?_
    refine wl_with fun hh => ?_
    obtain ⟨g, cap, e⟩ := row_form hh (i := 1) rfl (by omega)
    injection e with e1 _ e3
    subst e1; subst e3
    clear hh
    refine wl_f (f_indexAddr 1 (i := i) rfl rfl Tryz.underlying128 (by kernel_rfl) rfl hi) ?_
    refine wl_f (f_loadr (v := .bool used[i]) 1 rfl Tryz.underlying4 rfl rfl (map_get Value.bool (List.getElem?_eq_getElem hi))) ?_
    refine wl_f (f_assign rfl) ?_
    refine wl_f (f_assign rfl) ?_
    refine wl_end [(0, _), (3, _), (4, _), (8, _), (9, _), (10, _)] ⟨rfl, rfl, rfl, rfl, rfl, rfl, trivial⟩ ?_
    refine w_seq ?_
    refine w_reg ?_
    refine wl_f (f_move rfl) ?_
    refine wl_f (f_not rfl rfl) ?_
    refine wl_end [(0, _), (3, _), (8, _), (9, _), (10, _), (16, _)] ⟨rfl, rfl, rfl, rfl, rfl, rfl, trivial⟩ ?_
    refine w_ifb rfl (fun hc2 => ?_) (fun hc2 => ?_)
    · skip
      have hf : used[i] = false := by simpa using hc2
      refine w_seq ?_
      refine w_reg ?_
      refine wl_f (f_move rfl) ?_
      refine wl_f (f_assign rfl) ?_
      refine wl_end [(2, _)] ⟨rfl, trivial⟩ ?_
      refine w_bun (H := []) (chs kInt b n l (.slice (some ⟨g, 0, .none⟩) used.length cu) nV pV vV used nx pv vs) ?_
      refine w_ret ?_
      refine ⟨_, _, fun a ha hh => results_tmps Tryz.results137 rfl a ha _, List.Sublist.refl _, ?_⟩
      exact ⟨i, _, rfl, rfl, _, _, _, _, used, nx, pv, vs, rfl, hc, hi, hc.fresh (by rw [List.getElem?_eq_getElem hi, hf]; simp) hall⟩
    · skip
      have hf : used[i] = true := by simpa using hc2
      refine w_skip ?_
      refine w_reg ?_
      refine wl_f (f_add rfl rfl (by omega)) ?_
      refine wl_f (f_move rfl) ?_
      refine wl_end [(0, _), (8, _), (9, _), (10, _)] ⟨rfl, rfl, rfl, rfl, trivial⟩ ?_
      refine ⟨k - 1, by omega, i + 1, rfl, rfl, by omega, fun j hj => ?_⟩
      rcases Nat.lt_or_eq_of_le (Nat.le_of_lt_succ hj) with h | rfl
      · exact hall j h
      · rw [List.getElem?_eq_getElem hi, hf]
  · skip
    obtain rfl : i = used.length := by omega
    have hfull := hc.full hall
    refine w_exit0 ?_
    refine w_seq ?_
    refine w_post (fun m H w' => ∃ (U1 N1 P1 : Option Addr) (a1 a2 a3 : Nat), m = [(0, .pointer (some ⟨b, 0, .none⟩))] ∧
    H = [blk b [.int .i64 (n : Int), .int .i64 (l.length : Int), .int .i64 (hdE (-1) (nodes l)), .int .i64 (hdE (-1) (nodes l).reverse), .slice U1 (used.length + 1) a1, .slice N1 (used.length + 1) a2, .slice P1 (used.length + 1) a3, vV] (kInt).list,
      row (.slice U1 (used.length + 1) a1) 4 1 (used.length + 1) (bov (used ++ [false])), row (.slice N1 (used.length + 1) a2) 3 1 (used.length + 1) (iv (nx ++ [-1])), row (.slice P1 (used.length + 1) a3) 3 1 (used.length + 1) (iv (pv ++ [-1])),
      row vV (kInt).elem (kInt).sz used.length (vcells kInt vs)]) ?_ ?_
    · skip
      refine w_drawx (.fl 0 (.fl 1 (.fl 2 (.fl 3 (.fl 4 (.fl 5 (.fl 6 (.fl 9 (.fl 10 (.fl 11 (.fl 12 (.fl 15 (.fl 16 (.fl 17 (.fl 18 (.three 7 (.three 8 (.two 13 (.two 14 (.ef 19 (.ef 20 (.fl 21 (.fl 22 (.ef 23 (.fl 24 (.fl 25 (.ef 26 (.fl 27 (.fl 28 (.ef 29 .done))))))))))) 19 (.ef 14 (.ef 20 (.fl 21 (.fl 22 (.ef 23 (.fl 24 (.fl 25 (.ef 26 (.fl 27 (.fl 28 (.ef 29 .done)))))))))))) 19 (.ef 13 (.ef 14 (.ef 20 (.fl 21 (.fl 22 (.ef 23 (.fl 24 (.fl 25 (.ef 26 (.fl 27 (.fl 28 (.ef 29 .done))))))))))))) 13 (.two 8 (.two 14 (.ef 19 (.ef 20 (.fl 21 (.fl 22 (.ef 23 (.fl 24 (.fl 25 (.ef 26 (.fl 27 (.fl 28 (.ef 29 .done))))))))))) 19 (.ef 14 (.ef 20 (.fl 21 (.fl 22 (.ef 23 (.fl 24 (.fl 25 (.ef 26 (.fl 27 (.fl 28 (.ef 29 .done)))))))))))) 19 (.ef 8 (.ef 14 (.ef 20 (.fl 21 (.fl 22 (.ef 23 (.fl 24 (.fl 25 (.ef 26 (.fl 27 (.fl 28 (.ef 29 .done))))))))))))) 19 (.two 8 (.ef 13 (.ef 14 (.ef 20 (.fl 21 (.fl 22 (.ef 23 (.fl 24 (.fl 25 (.ef 26 (.fl 27 (.fl 28 (.ef 29 .done)))))))))))) 13 (.ef 8 (.ef 14 (.ef 20 (.fl 21 (.fl 22 (.ef 23 (.fl 24 (.fl 25 (.ef 26 (.fl 27 (.fl 28 (.ef 29 .done)))))))))))))) 13 (.two 7 (.two 8 (.two 14 (.ef 19 (.ef 20 (.fl 21 (.fl 22 (.ef 23 (.fl 24 (.fl 25 (.ef 26 (.fl 27 (.fl 28 (.ef 29 .done))))))))))) 19 (.ef 14 (.ef 20 (.fl 21 (.fl 22 (.ef 23 (.fl 24 (.fl 25 (.ef 26 (.fl 27 (.fl 28 (.ef 29 .done)))))))))))) 19 (.ef 8 (.ef 14 (.ef 20 (.fl 21 (.fl 22 (.ef 23 (.fl 24 (.fl 25 (.ef 26 (.fl 27 (.fl 28 (.ef 29 .done))))))))))))) 19 (.ef 7 (.ef 8 (.ef 14 (.ef 20 (.fl 21 (.fl 22 (.ef 23 (.fl 24 (.fl 25 (.ef 26 (.fl 27 (.fl 28 (.ef 29 .done)))))))))))))) 19 (.two 7 (.two 8 (.ef 13 (.ef 14 (.ef 20 (.fl 21 (.fl 22 (.ef 23 (.fl 24 (.fl 25 (.ef 26 (.fl 27 (.fl 28 (.ef 29 .done)))))))))))) 13 (.ef 8 (.ef 14 (.ef 20 (.fl 21 (.fl 22 (.ef 23 (.fl 24 (.fl 25 (.ef 26 (.fl 27 (.fl 28 (.ef 29 .done))))))))))))) 13 (.ef 7 (.ef 8 (.ef 14 (.ef 20 (.fl 21 (.fl 22 (.ef 23 (.fl 24 (.fl 25 (.ef 26 (.fl 27 (.fl 28 (.ef 29 .done)))))))))))))))))))))))))))))) ([(_, some 23)]) ([_, _, _, _]) mixed (by kernel_rfl) (by kernel_rfl) rfl rfl (List.Perm.refl _) (fun w7_ => ?_)
      refine wx_f rfl (f_move rfl) ?_
      refine wx_f rfl (f_move rfl) ?_
      refine wx_f rfl (f_move rfl) ?_
      refine wx_f rfl (f_move rfl) ?_
      refine wx_f rfl (f_nilCheck rfl) ?_
      refine wx_f rfl (f_fieldAddr 4 rfl Tryz.underlying182 rfl rfl (by kernel_rfl)) ?_
      (first | refine wx_f rfl (f_loadb 0 rfl Tryz.underlying128 rfl rfl rfl) ?_ | refine wx_f rfl (f_loadb 1 rfl Tryz.underlying128 rfl rfl rfl) ?_ | refine wx_f rfl (f_loadb 2 rfl Tryz.underlying128 rfl rfl rfl) ?_ | refine wx_f rfl (f_loadb 3 rfl Tryz.underlying128 rfl rfl rfl) ?_ | refine wx_f rfl (f_loadb 4 rfl Tryz.underlying128 rfl rfl rfl) ?_ | refine wx_f rfl (f_loadb 5 rfl Tryz.underlying128 rfl rfl rfl) ?_ | refine wx_f rfl (f_loadb 6 rfl Tryz.underlying128 rfl rfl rfl) ?_)
      refine wx_f rfl (f_move rfl) ?_
      refine wx_f rfl (f_nilCheck rfl) ?_
      refine wx_f rfl (f_fieldAddr 5 rfl Tryz.underlying182 rfl rfl (by kernel_rfl)) ?_
      (first | refine wx_f rfl (f_loadb 0 rfl Tryz.underlying22 rfl rfl rfl) ?_ | refine wx_f rfl (f_loadb 1 rfl Tryz.underlying22 rfl rfl rfl) ?_ | refine wx_f rfl (f_loadb 2 rfl Tryz.underlying22 rfl rfl rfl) ?_ | refine wx_f rfl (f_loadb 3 rfl Tryz.underlying22 rfl rfl rfl) ?_ | refine wx_f rfl (f_loadb 4 rfl Tryz.underlying22 rfl rfl rfl) ?_ | refine wx_f rfl (f_loadb 5 rfl Tryz.underlying22 rfl rfl rfl) ?_ | refine wx_f rfl (f_loadb 6 rfl Tryz.underlying22 rfl rfl rfl) ?_)
      refine wx_f rfl (f_move rfl) ?_
      refine wx_f rfl (f_nilCheck rfl) ?_
      refine wx_f rfl (f_fieldAddr 6 rfl Tryz.underlying182 rfl rfl (by kernel_rfl)) ?_
      (first | refine wx_f rfl (f_loadb 0 rfl Tryz.underlying22 rfl rfl rfl) ?_ | refine wx_f rfl (f_loadb 1 rfl Tryz.underlying22 rfl rfl rfl) ?_ | refine wx_f rfl (f_loadb 2 rfl Tryz.underlying22 rfl rfl rfl) ?_ | refine wx_f rfl (f_loadb 3 rfl Tryz.underlying22 rfl rfl rfl) ?_ | refine wx_f rfl (f_loadb 4 rfl Tryz.underlying22 rfl rfl rfl) ?_ | refine wx_f rfl (f_loadb 5 rfl Tryz.underlying22 rfl rfl rfl) ?_ | refine wx_f rfl (f_loadb 6 rfl Tryz.underlying22 rfl rfl rfl) ?_)
      refine wx_three ?_ ?_ ?_
      · skip
        refine ks_e rfl (e_lit1 (cs := [_]) t128 rfl rfl rfl (by omega)) ?_
        rintro _ _ w7_7 ⟨b7_7, rfl, rfl⟩
        refine ⟨_, List.perm_middle.symm, ?_⟩
        refine wx_three ?_ ?_ ?_
        · skip
          refine ks_e rfl (e_appN 2 t128 rfl rfl rfl (fun w hh => Rd.held0 hh (i := 1) rfl) (by simp [Value.oneCell']) (by omega) (by omega)) ?_
          rintro _ _ w7_8 ⟨⟨U1, a1, rfl⟩, rfl⟩
          refine ⟨_, List.Perm.refl _, ?_⟩
          refine wx_two ?_ ?_
          · skip
            refine ks_e rfl (e_lit1 (cs := [_]) t22 rfl rfl rfl (by omega)) ?_
            rintro _ _ w7_13 ⟨b7_13, rfl, rfl⟩
            refine ⟨_, List.perm_middle.symm, ?_⟩
            refine wx_two ?_ ?_
            · skip
              refine ks_e rfl (e_appN 4 t22 rfl rfl rfl (fun w hh => Rd.held0 hh (i := 1) rfl) (by simp [Value.oneCell']) (by omega) (by omega)) ?_
              rintro _ _ w7_14 ⟨⟨N1, a2, rfl⟩, rfl⟩
              refine ⟨_, List.Perm.refl _, ?_⟩
              refine wx_ef ?_
              refine ks_e rfl (e_lit1 (cs := [_]) t22 rfl rfl rfl (by omega)) ?_
              rintro _ _ w7_19 ⟨b7_19, rfl, rfl⟩
              refine ⟨_, List.perm_middle.symm, ?_⟩
              refine wx_ef ?_
              refine ks_e rfl (e_appN 6 t22 rfl rfl rfl (fun w hh => Rd.held0 hh (i := 1) rfl) (by simp [Value.oneCell']) (by omega) (by omega)) ?_
              rintro _ _ w7_20 ⟨⟨P1, a3, rfl⟩, rfl⟩
              refine ⟨_, List.Perm.refl _, ?_⟩
              refine wx_f rfl (f_nilCheck rfl) ?_
              refine wx_f rfl (f_fieldAddr 4 rfl Tryz.underlying182 rfl rfl (by kernel_rfl)) ?_
              refine wx_ef ?_
              refine ks_e0 rfl (e_storeN 0 (us := [_]) rfl rfl rfl rfl (by kernel_rfl) (by simp [Value.oneCell']) rfl rfl) ?_
              rintro _ _ w7_23 rfl
              refine ⟨_, pick_perm [] _ rfl, ?_⟩
              refine wx_f rfl (f_nilCheck rfl) ?_
              refine wx_f rfl (f_fieldAddr 5 rfl Tryz.underlying182 rfl rfl (by kernel_rfl)) ?_
              refine wx_ef ?_
              refine ks_e0 rfl (e_storeN 0 (us := [_]) rfl rfl rfl rfl (by kernel_rfl) (by simp [Value.oneCell']) rfl rfl) ?_
              rintro _ _ w7_26 rfl
              refine ⟨_, List.Perm.refl _, ?_⟩
              refine wx_f rfl (f_nilCheck rfl) ?_
              refine wx_f rfl (f_fieldAddr 6 rfl Tryz.underlying182 rfl rfl (by kernel_rfl)) ?_
              refine wx_ef ?_
              refine ks_e0 rfl (e_storeN 0 (us := [_]) rfl rfl rfl rfl (by kernel_rfl) (by simp [Value.oneCell']) rfl rfl) ?_
              rintro _ _ w7_29 rfl
              refine ⟨_, List.Perm.refl _, ?_⟩
              refine wx_endp [(0, _)] [0, 3, 3, 3, 3] ⟨rfl, trivial⟩ rfl ?_
              exact ⟨U1, N1, P1, a1, a2, a3, rfl, by rw [bov_app, iv_app, iv_app]; rfl⟩
            · skip
              refine ks_e rfl (e_lit1 (cs := [_]) t22 rfl rfl rfl (by omega)) ?_
              rintro _ _ w7_19 ⟨b7_19, rfl, rfl⟩
              refine ⟨_, List.perm_middle.symm, ?_⟩
              refine wx_ef ?_
              refine ks_e rfl (e_appN 5 t22 rfl rfl rfl (fun w hh => Rd.held0 hh (i := 2) rfl) (by simp [Value.oneCell']) (by omega) (by omega)) ?_
              rintro _ _ w7_14 ⟨⟨N1, a2, rfl⟩, rfl⟩
              refine ⟨_, List.Perm.refl _, ?_⟩
              refine wx_ef ?_
              refine ks_e rfl (e_appN 6 t22 rfl rfl rfl (fun w hh => Rd.held0 hh (i := 1) rfl) (by simp [Value.oneCell']) (by omega) (by omega)) ?_
              rintro _ _ w7_20 ⟨⟨P1, a3, rfl⟩, rfl⟩
              refine ⟨_, List.Perm.refl _, ?_⟩
              refine wx_f rfl (f_nilCheck rfl) ?_
              refine wx_f rfl (f_fieldAddr 4 rfl Tryz.underlying182 rfl rfl (by kernel_rfl)) ?_
              refine wx_ef ?_
              refine ks_e0 rfl (e_storeN 0 (us := [_]) rfl rfl rfl rfl (by kernel_rfl) (by simp [Value.oneCell']) rfl rfl) ?_
              rintro _ _ w7_23 rfl
              refine ⟨_, pick_perm [] _ rfl, ?_⟩
              refine wx_f rfl (f_nilCheck rfl) ?_
              refine wx_f rfl (f_fieldAddr 5 rfl Tryz.underlying182 rfl rfl (by kernel_rfl)) ?_
              refine wx_ef ?_
              refine ks_e0 rfl (e_storeN 0 (us := [_]) rfl rfl rfl rfl (by kernel_rfl) (by simp [Value.oneCell']) rfl rfl) ?_
              rintro _ _ w7_26 rfl
              refine ⟨_, List.Perm.refl _, ?_⟩
              refine wx_f rfl (f_nilCheck rfl) ?_
              refine wx_f rfl (f_fieldAddr 6 rfl Tryz.underlying182 rfl rfl (by kernel_rfl)) ?_
              refine wx_ef ?_
              refine ks_e0 rfl (e_storeN 0 (us := [_]) rfl rfl rfl rfl (by kernel_rfl) (by simp [Value.oneCell']) rfl rfl) ?_
              rintro _ _ w7_29 rfl
              refine ⟨_, List.Perm.refl _, ?_⟩
              refine wx_endp [(0, _)] [0, 3, 3, 3, 3] ⟨rfl, trivial⟩ rfl ?_
              exact ⟨U1, N1, P1, a1, a2, a3, rfl, by rw [bov_app, iv_app, iv_app]; rfl⟩
          · skip
            refine ks_e rfl (e_lit1 (cs := [_]) t22 rfl rfl rfl (by omega)) ?_
            rintro _ _ w7_19 ⟨b7_19, rfl, rfl⟩
            refine ⟨_, List.perm_middle.symm, ?_⟩
            refine wx_ef ?_
            refine ks_e rfl (e_lit1 (cs := [_]) t22 rfl rfl rfl (by omega)) ?_
            rintro _ _ w7_13 ⟨b7_13, rfl, rfl⟩
            refine ⟨_, List.perm_middle.symm, ?_⟩
            refine wx_ef ?_
            refine ks_e rfl (e_appN 5 t22 rfl rfl rfl (fun w hh => Rd.held0 hh (i := 1) rfl) (by simp [Value.oneCell']) (by omega) (by omega)) ?_
            rintro _ _ w7_14 ⟨⟨N1, a2, rfl⟩, rfl⟩
            refine ⟨_, List.Perm.refl _, ?_⟩
            refine wx_ef ?_
            refine ks_e rfl (e_appN 6 t22 rfl rfl rfl (fun w hh => Rd.held0 hh (i := 2) rfl) (by simp [Value.oneCell']) (by omega) (by omega)) ?_
            rintro _ _ w7_20 ⟨⟨P1, a3, rfl⟩, rfl⟩
            refine ⟨_, List.Perm.refl _, ?_⟩
            refine wx_f rfl (f_nilCheck rfl) ?_
            refine wx_f rfl (f_fieldAddr 4 rfl Tryz.underlying182 rfl rfl (by kernel_rfl)) ?_
            refine wx_ef ?_
            refine ks_e0 rfl (e_storeN 0 (us := [_]) rfl rfl rfl rfl (by kernel_rfl) (by simp [Value.oneCell']) rfl rfl) ?_
            rintro _ _ w7_23 rfl
            refine ⟨_, pick_perm [] _ rfl, ?_⟩
            refine wx_f rfl (f_nilCheck rfl) ?_
            refine wx_f rfl (f_fieldAddr 5 rfl Tryz.underlying182 rfl rfl (by kernel_rfl)) ?_
            refine wx_ef ?_
            refine ks_e0 rfl (e_storeN 0 (us := [_]) rfl rfl rfl rfl (by kernel_rfl) (by simp [Value.oneCell']) rfl rfl) ?_
            rintro _ _ w7_26 rfl
            refine ⟨_, List.Perm.refl _, ?_⟩
            refine wx_f rfl (f_nilCheck rfl) ?_
            refine wx_f rfl (f_fieldAddr 6 rfl Tryz.underlying182 rfl rfl (by kernel_rfl)) ?_
            refine wx_ef ?_
            refine ks_e0 rfl (e_storeN 0 (us := [_]) rfl rfl rfl rfl (by kernel_rfl) (by simp [Value.oneCell']) rfl rfl) ?_
            rintro _ _ w7_29 rfl
            refine ⟨_, List.Perm.refl _, ?_⟩
            refine wx_endp [(0, _)] [0, 3, 3, 3, 3] ⟨rfl, trivial⟩ rfl ?_
            exact ⟨U1, N1, P1, a1, a2, a3, rfl, by rw [bov_app, iv_app, iv_app]; rfl⟩
        · skip
          refine ks_e rfl (e_lit1 (cs := [_]) t22 rfl rfl rfl (by omega)) ?_
          rintro _ _ w7_13 ⟨b7_13, rfl, rfl⟩
          refine ⟨_, List.perm_middle.symm, ?_⟩
          refine wx_two ?_ ?_
          · skip
            refine ks_e rfl (e_appN 3 t128 rfl rfl rfl (fun w hh => Rd.held0 hh (i := 2) rfl) (by simp [Value.oneCell']) (by omega) (by omega)) ?_
            rintro _ _ w7_8 ⟨⟨U1, a1, rfl⟩, rfl⟩
            refine ⟨_, List.Perm.refl _, ?_⟩
            refine wx_two ?_ ?_
            · skip
              refine ks_e rfl (e_appN 4 t22 rfl rfl rfl (fun w hh => Rd.held0 hh (i := 1) rfl) (by simp [Value.oneCell']) (by omega) (by omega)) ?_
              rintro _ _ w7_14 ⟨⟨N1, a2, rfl⟩, rfl⟩
              refine ⟨_, List.Perm.refl _, ?_⟩
              refine wx_ef ?_
              refine ks_e rfl (e_lit1 (cs := [_]) t22 rfl rfl rfl (by omega)) ?_
              rintro _ _ w7_19 ⟨b7_19, rfl, rfl⟩
              refine ⟨_, List.perm_middle.symm, ?_⟩
              refine wx_ef ?_
              refine ks_e rfl (e_appN 6 t22 rfl rfl rfl (fun w hh => Rd.held0 hh (i := 1) rfl) (by simp [Value.oneCell']) (by omega) (by omega)) ?_
              rintro _ _ w7_20 ⟨⟨P1, a3, rfl⟩, rfl⟩
              refine ⟨_, List.Perm.refl _, ?_⟩
              refine wx_f rfl (f_nilCheck rfl) ?_
              refine wx_f rfl (f_fieldAddr 4 rfl Tryz.underlying182 rfl rfl (by kernel_rfl)) ?_
              refine wx_ef ?_
              refine ks_e0 rfl (e_storeN 0 (us := [_]) rfl rfl rfl rfl (by kernel_rfl) (by simp [Value.oneCell']) rfl rfl) ?_
              rintro _ _ w7_23 rfl
              refine ⟨_, pick_perm [] _ rfl, ?_⟩
              refine wx_f rfl (f_nilCheck rfl) ?_
              refine wx_f rfl (f_fieldAddr 5 rfl Tryz.underlying182 rfl rfl (by kernel_rfl)) ?_
              refine wx_ef ?_
              refine ks_e0 rfl (e_storeN 0 (us := [_]) rfl rfl rfl rfl (by kernel_rfl) (by simp [Value.oneCell']) rfl rfl) ?_
              rintro _ _ w7_26 rfl
              refine ⟨_, List.Perm.refl _, ?_⟩
              refine wx_f rfl (f_nilCheck rfl) ?_
              refine wx_f rfl (f_fieldAddr 6 rfl Tryz.underlying182 rfl rfl (by kernel_rfl)) ?_
              refine wx_ef ?_
              refine ks_e0 rfl (e_storeN 0 (us := [_]) rfl rfl rfl rfl (by kernel_rfl) (by simp [Value.oneCell']) rfl rfl) ?_
              rintro _ _ w7_29 rfl
              refine ⟨_, List.Perm.refl _, ?_⟩
              refine wx_endp [(0, _)] [0, 3, 3, 3, 3] ⟨rfl, trivial⟩ rfl ?_
              exact ⟨U1, N1, P1, a1, a2, a3, rfl, by rw [bov_app, iv_app, iv_app]; rfl⟩
            · skip
              refine ks_e rfl (e_lit1 (cs := [_]) t22 rfl rfl rfl (by omega)) ?_
              rintro _ _ w7_19 ⟨b7_19, rfl, rfl⟩
              refine ⟨_, List.perm_middle.symm, ?_⟩
              refine wx_ef ?_
              refine ks_e rfl (e_appN 5 t22 rfl rfl rfl (fun w hh => Rd.held0 hh (i := 2) rfl) (by simp [Value.oneCell']) (by omega) (by omega)) ?_
              rintro _ _ w7_14 ⟨⟨N1, a2, rfl⟩, rfl⟩
              refine ⟨_, List.Perm.refl _, ?_⟩
              refine wx_ef ?_
              refine ks_e rfl (e_appN 6 t22 rfl rfl rfl (fun w hh => Rd.held0 hh (i := 1) rfl) (by simp [Value.oneCell']) (by omega) (by omega)) ?_
              rintro _ _ w7_20 ⟨⟨P1, a3, rfl⟩, rfl⟩
              refine ⟨_, List.Perm.refl _, ?_⟩
              refine wx_f rfl (f_nilCheck rfl) ?_
              refine wx_f rfl (f_fieldAddr 4 rfl Tryz.underlying182 rfl rfl (by kernel_rfl)) ?_
              refine wx_ef ?_
              refine ks_e0 rfl (e_storeN 0 (us := [_]) rfl rfl rfl rfl (by kernel_rfl) (by simp [Value.oneCell']) rfl rfl) ?_
              rintro _ _ w7_23 rfl
              refine ⟨_, pick_perm [] _ rfl, ?_⟩
              refine wx_f rfl (f_nilCheck rfl) ?_
              refine wx_f rfl (f_fieldAddr 5 rfl Tryz.underlying182 rfl rfl (by kernel_rfl)) ?_
              refine wx_ef ?_
              refine ks_e0 rfl (e_storeN 0 (us := [_]) rfl rfl rfl rfl (by kernel_rfl) (by simp [Value.oneCell']) rfl rfl) ?_
              rintro _ _ w7_26 rfl
              refine ⟨_, List.Perm.refl _, ?_⟩
              refine wx_f rfl (f_nilCheck rfl) ?_
              refine wx_f rfl (f_fieldAddr 6 rfl Tryz.underlying182 rfl rfl (by kernel_rfl)) ?_
              refine wx_ef ?_
              refine ks_e0 rfl (e_storeN 0 (us := [_]) rfl rfl rfl rfl (by kernel_rfl) (by simp [Value.oneCell']) rfl rfl) ?_
              rintro _ _ w7_29 rfl
              refine ⟨_, List.Perm.refl _, ?_⟩
              refine wx_endp [(0, _)] [0, 3, 3, 3, 3] ⟨rfl, trivial⟩ rfl ?_
              exact ⟨U1, N1, P1, a1, a2, a3, rfl, by rw [bov_app, iv_app, iv_app]; rfl⟩
          · skip
            refine ks_e rfl (e_lit1 (cs := [_]) t22 rfl rfl rfl (by omega)) ?_
            rintro _ _ w7_19 ⟨b7_19, rfl, rfl⟩
            refine ⟨_, List.perm_middle.symm, ?_⟩
            refine wx_ef ?_
            refine ks_e rfl (e_appN 4 t128 rfl rfl rfl (fun w hh => Rd.held0 hh (i := 3) rfl) (by simp [Value.oneCell']) (by omega) (by omega)) ?_
            rintro _ _ w7_8 ⟨⟨U1, a1, rfl⟩, rfl⟩
            refine ⟨_, List.Perm.refl _, ?_⟩
            refine wx_ef ?_
            refine ks_e rfl (e_appN 5 t22 rfl rfl rfl (fun w hh => Rd.held0 hh (i := 2) rfl) (by simp [Value.oneCell']) (by omega) (by omega)) ?_
            rintro _ _ w7_14 ⟨⟨N1, a2, rfl⟩, rfl⟩
            refine ⟨_, List.Perm.refl _, ?_⟩
            refine wx_ef ?_
            refine ks_e rfl (e_appN 6 t22 rfl rfl rfl (fun w hh => Rd.held0 hh (i := 1) rfl) (by simp [Value.oneCell']) (by omega) (by omega)) ?_
            rintro _ _ w7_20 ⟨⟨P1, a3, rfl⟩, rfl⟩
            refine ⟨_, List.Perm.refl _, ?_⟩
            refine wx_f rfl (f_nilCheck rfl) ?_
            refine wx_f rfl (f_fieldAddr 4 rfl Tryz.underlying182 rfl rfl (by kernel_rfl)) ?_
            refine wx_ef ?_
            refine ks_e0 rfl (e_storeN 0 (us := [_]) rfl rfl rfl rfl (by kernel_rfl) (by simp [Value.oneCell']) rfl rfl) ?_
            rintro _ _ w7_23 rfl
            refine ⟨_, pick_perm [] _ rfl, ?_⟩
            refine wx_f rfl (f_nilCheck rfl) ?_
            refine wx_f rfl (f_fieldAddr 5 rfl Tryz.underlying182 rfl rfl (by kernel_rfl)) ?_
            refine wx_ef ?_
            refine ks_e0 rfl (e_storeN 0 (us := [_]) rfl rfl rfl rfl (by kernel_rfl) (by simp [Value.oneCell']) rfl rfl) ?_
            rintro _ _ w7_26 rfl
            refine ⟨_, List.Perm.refl _, ?_⟩
            refine wx_f rfl (f_nilCheck rfl) ?_
            refine wx_f rfl (f_fieldAddr 6 rfl Tryz.underlying182 rfl rfl (by kernel_rfl)) ?_
            refine wx_ef ?_
            refine ks_e0 rfl (e_storeN 0 (us := [_]) rfl rfl rfl rfl (by kernel_rfl) (by simp [Value.oneCell']) rfl rfl) ?_
            rintro _ _ w7_29 rfl
            refine ⟨_, List.Perm.refl _, ?_⟩
            refine wx_endp [(0, _)] [0, 3, 3, 3, 3] ⟨rfl, trivial⟩ rfl ?_
            exact ⟨U1, N1, P1, a1, a2, a3, rfl, by rw [bov_app, iv_app, iv_app]; rfl⟩
        · skip
          refine ks_e rfl (e_lit1 (cs := [_]) t22 rfl rfl rfl (by omega)) ?_
          rintro _ _ w7_19 ⟨b7_19, rfl, rfl⟩
          refine ⟨_, List.perm_middle.symm, ?_⟩
          refine wx_two ?_ ?_
          · skip
            refine ks_e rfl (e_appN 3 t128 rfl rfl rfl (fun w hh => Rd.held0 hh (i := 2) rfl) (by simp [Value.oneCell']) (by omega) (by omega)) ?_
            rintro _ _ w7_8 ⟨⟨U1, a1, rfl⟩, rfl⟩
            refine ⟨_, List.Perm.refl _, ?_⟩
            refine wx_ef ?_
            refine ks_e rfl (e_lit1 (cs := [_]) t22 rfl rfl rfl (by omega)) ?_
            rintro _ _ w7_13 ⟨b7_13, rfl, rfl⟩
            refine ⟨_, List.perm_middle.symm, ?_⟩
            refine wx_ef ?_
            refine ks_e rfl (e_appN 5 t22 rfl rfl rfl (fun w hh => Rd.held0 hh (i := 1) rfl) (by simp [Value.oneCell']) (by omega) (by omega)) ?_
            rintro _ _ w7_14 ⟨⟨N1, a2, rfl⟩, rfl⟩
            refine ⟨_, List.Perm.refl _, ?_⟩
            refine wx_ef ?_
            refine ks_e rfl (e_appN 6 t22 rfl rfl rfl (fun w hh => Rd.held0 hh (i := 2) rfl) (by simp [Value.oneCell']) (by omega) (by omega)) ?_
            rintro _ _ w7_20 ⟨⟨P1, a3, rfl⟩, rfl⟩
            refine ⟨_, List.Perm.refl _, ?_⟩
            refine wx_f rfl (f_nilCheck rfl) ?_
            refine wx_f rfl (f_fieldAddr 4 rfl Tryz.underlying182 rfl rfl (by kernel_rfl)) ?_
            refine wx_ef ?_
            refine ks_e0 rfl (e_storeN 0 (us := [_]) rfl rfl rfl rfl (by kernel_rfl) (by simp [Value.oneCell']) rfl rfl) ?_
            rintro _ _ w7_23 rfl
            refine ⟨_, pick_perm [] _ rfl, ?_⟩
            refine wx_f rfl (f_nilCheck rfl) ?_
            refine wx_f rfl (f_fieldAddr 5 rfl Tryz.underlying182 rfl rfl (by kernel_rfl)) ?_
            refine wx_ef ?_
            refine ks_e0 rfl (e_storeN 0 (us := [_]) rfl rfl rfl rfl (by kernel_rfl) (by simp [Value.oneCell']) rfl rfl) ?_
            rintro _ _ w7_26 rfl
            refine ⟨_, List.Perm.refl _, ?_⟩
            refine wx_f rfl (f_nilCheck rfl) ?_
            refine wx_f rfl (f_fieldAddr 6 rfl Tryz.underlying182 rfl rfl (by kernel_rfl)) ?_
            refine wx_ef ?_
            refine ks_e0 rfl (e_storeN 0 (us := [_]) rfl rfl rfl rfl (by kernel_rfl) (by simp [Value.oneCell']) rfl rfl) ?_
            rintro _ _ w7_29 rfl
            refine ⟨_, List.Perm.refl _, ?_⟩
            refine wx_endp [(0, _)] [0, 3, 3, 3, 3] ⟨rfl, trivial⟩ rfl ?_
            exact ⟨U1, N1, P1, a1, a2, a3, rfl, by rw [bov_app, iv_app, iv_app]; rfl⟩
          · skip
            refine ks_e rfl (e_lit1 (cs := [_]) t22 rfl rfl rfl (by omega)) ?_
            rintro _ _ w7_13 ⟨b7_13, rfl, rfl⟩
            refine ⟨_, List.perm_middle.symm, ?_⟩
            refine wx_ef ?_
            refine ks_e rfl (e_appN 4 t128 rfl rfl rfl (fun w hh => Rd.held0 hh (i := 3) rfl) (by simp [Value.oneCell']) (by omega) (by omega)) ?_
            rintro _ _ w7_8 ⟨⟨U1, a1, rfl⟩, rfl⟩
            refine ⟨_, List.Perm.refl _, ?_⟩
            refine wx_ef ?_
            refine ks_e rfl (e_appN 5 t22 rfl rfl rfl (fun w hh => Rd.held0 hh (i := 1) rfl) (by simp [Value.oneCell']) (by omega) (by omega)) ?_
            rintro _ _ w7_14 ⟨⟨N1, a2, rfl⟩, rfl⟩
            refine ⟨_, List.Perm.refl _, ?_⟩
            refine wx_ef ?_
            refine ks_e rfl (e_appN 6 t22 rfl rfl rfl (fun w hh => Rd.held0 hh (i := 2) rfl) (by simp [Value.oneCell']) (by omega) (by omega)) ?_
            rintro _ _ w7_20 ⟨⟨P1, a3, rfl⟩, rfl⟩
            refine ⟨_, List.Perm.refl _, ?_⟩
            refine wx_f rfl (f_nilCheck rfl) ?_
            refine wx_f rfl (f_fieldAddr 4 rfl Tryz.underlying182 rfl rfl (by kernel_rfl)) ?_
            refine wx_ef ?_
            refine ks_e0 rfl (e_storeN 0 (us := [_]) rfl rfl rfl rfl (by kernel_rfl) (by simp [Value.oneCell']) rfl rfl) ?_
            rintro _ _ w7_23 rfl
            refine ⟨_, pick_perm [] _ rfl, ?_⟩
            refine wx_f rfl (f_nilCheck rfl) ?_
            refine wx_f rfl (f_fieldAddr 5 rfl Tryz.underlying182 rfl rfl (by kernel_rfl)) ?_
            refine wx_ef ?_
            refine ks_e0 rfl (e_storeN 0 (us := [_]) rfl rfl rfl rfl (by kernel_rfl) (by simp [Value.oneCell']) rfl rfl) ?_
            rintro _ _ w7_26 rfl
            refine ⟨_, List.Perm.refl _, ?_⟩
            refine wx_f rfl (f_nilCheck rfl) ?_
            refine wx_f rfl (f_fieldAddr 6 rfl Tryz.underlying182 rfl rfl (by kernel_rfl)) ?_
            refine wx_ef ?_
            refine ks_e0 rfl (e_storeN 0 (us := [_]) rfl rfl rfl rfl (by kernel_rfl) (by simp [Value.oneCell']) rfl rfl) ?_
            rintro _ _ w7_29 rfl
            refine ⟨_, List.Perm.refl _, ?_⟩
            refine wx_endp [(0, _)] [0, 3, 3, 3, 3] ⟨rfl, trivial⟩ rfl ?_
            exact ⟨U1, N1, P1, a1, a2, a3, rfl, by rw [bov_app, iv_app, iv_app]; rfl⟩
      · skip
        refine ks_e rfl (e_lit1 (cs := [_]) t22 rfl rfl rfl (by omega)) ?_
        rintro _ _ w7_13 ⟨b7_13, rfl, rfl⟩
        refine ⟨_, List.perm_middle.symm, ?_⟩
        refine wx_two ?_ ?_
        · skip
          refine ks_e rfl (e_lit1 (cs := [_]) t128 rfl rfl rfl (by omega)) ?_
          rintro _ _ w7_7 ⟨b7_7, rfl, rfl⟩
          refine ⟨_, List.perm_middle.symm, ?_⟩
          refine wx_two ?_ ?_
          · skip
            refine ks_e rfl (e_appN 3 t128 rfl rfl rfl (fun w hh => Rd.held0 hh (i := 1) rfl) (by simp [Value.oneCell']) (by omega) (by omega)) ?_
            rintro _ _ w7_8 ⟨⟨U1, a1, rfl⟩, rfl⟩
            refine ⟨_, List.Perm.refl _, ?_⟩
            refine wx_two ?_ ?_
            · skip
              refine ks_e rfl (e_appN 4 t22 rfl rfl rfl (fun w hh => Rd.held0 hh (i := 2) rfl) (by simp [Value.oneCell']) (by omega) (by omega)) ?_
              rintro _ _ w7_14 ⟨⟨N1, a2, rfl⟩, rfl⟩
              refine ⟨_, List.Perm.refl _, ?_⟩
              refine wx_ef ?_
              refine ks_e rfl (e_lit1 (cs := [_]) t22 rfl rfl rfl (by omega)) ?_
              rintro _ _ w7_19 ⟨b7_19, rfl, rfl⟩
              refine ⟨_, List.perm_middle.symm, ?_⟩
              refine wx_ef ?_
              refine ks_e rfl (e_appN 6 t22 rfl rfl rfl (fun w hh => Rd.held0 hh (i := 1) rfl) (by simp [Value.oneCell']) (by omega) (by omega)) ?_
              rintro _ _ w7_20 ⟨⟨P1, a3, rfl⟩, rfl⟩
              refine ⟨_, List.Perm.refl _, ?_⟩
              refine wx_f rfl (f_nilCheck rfl) ?_
              refine wx_f rfl (f_fieldAddr 4 rfl Tryz.underlying182 rfl rfl (by kernel_rfl)) ?_
              refine wx_ef ?_
              refine ks_e0 rfl (e_storeN 0 (us := [_]) rfl rfl rfl rfl (by kernel_rfl) (by simp [Value.oneCell']) rfl rfl) ?_
              rintro _ _ w7_23 rfl
              refine ⟨_, pick_perm [] _ rfl, ?_⟩
              refine wx_f rfl (f_nilCheck rfl) ?_
              refine wx_f rfl (f_fieldAddr 5 rfl Tryz.underlying182 rfl rfl (by kernel_rfl)) ?_
              refine wx_ef ?_
              refine ks_e0 rfl (e_storeN 0 (us := [_]) rfl rfl rfl rfl (by kernel_rfl) (by simp [Value.oneCell']) rfl rfl) ?_
              rintro _ _ w7_26 rfl
              refine ⟨_, List.Perm.refl _, ?_⟩
              refine wx_f rfl (f_nilCheck rfl) ?_
              refine wx_f rfl (f_fieldAddr 6 rfl Tryz.underlying182 rfl rfl (by kernel_rfl)) ?_
              refine wx_ef ?_
              refine ks_e0 rfl (e_storeN 0 (us := [_]) rfl rfl rfl rfl (by kernel_rfl) (by simp [Value.oneCell']) rfl rfl) ?_
              rintro _ _ w7_29 rfl
              refine ⟨_, List.Perm.refl _, ?_⟩
              refine wx_endp [(0, _)] [0, 3, 3, 3, 3] ⟨rfl, trivial⟩ rfl ?_
              exact ⟨U1, N1, P1, a1, a2, a3, rfl, by rw [bov_app, iv_app, iv_app]; rfl⟩
            · skip
              refine ks_e rfl (e_lit1 (cs := [_]) t22 rfl rfl rfl (by omega)) ?_
              rintro _ _ w7_19 ⟨b7_19, rfl, rfl⟩
              refine ⟨_, List.perm_middle.symm, ?_⟩
              refine wx_ef ?_
              refine ks_e rfl (e_appN 5 t22 rfl rfl rfl (fun w hh => Rd.held0 hh (i := 3) rfl) (by simp [Value.oneCell']) (by omega) (by omega)) ?_
              rintro _ _ w7_14 ⟨⟨N1, a2, rfl⟩, rfl⟩
              refine ⟨_, List.Perm.refl _, ?_⟩
              refine wx_ef ?_
              refine ks_e rfl (e_appN 6 t22 rfl rfl rfl (fun w hh => Rd.held0 hh (i := 1) rfl) (by simp [Value.oneCell']) (by omega) (by omega)) ?_
              rintro _ _ w7_20 ⟨⟨P1, a3, rfl⟩, rfl⟩
              refine ⟨_, List.Perm.refl _, ?_⟩
              refine wx_f rfl (f_nilCheck rfl) ?_
              refine wx_f rfl (f_fieldAddr 4 rfl Tryz.underlying182 rfl rfl (by kernel_rfl)) ?_
              refine wx_ef ?_
              refine ks_e0 rfl (e_storeN 0 (us := [_]) rfl rfl rfl rfl (by kernel_rfl) (by simp [Value.oneCell']) rfl rfl) ?_
              rintro _ _ w7_23 rfl
              refine ⟨_, pick_perm [] _ rfl, ?_⟩
              refine wx_f rfl (f_nilCheck rfl) ?_
              refine wx_f rfl (f_fieldAddr 5 rfl Tryz.underlying182 rfl rfl (by kernel_rfl)) ?_
              refine wx_ef ?_
              refine ks_e0 rfl (e_storeN 0 (us := [_]) rfl rfl rfl rfl (by kernel_rfl) (by simp [Value.oneCell']) rfl rfl) ?_
              rintro _ _ w7_26 rfl
              refine ⟨_, List.Perm.refl _, ?_⟩
              refine wx_f rfl (f_nilCheck rfl) ?_
              refine wx_f rfl (f_fieldAddr 6 rfl Tryz.underlying182 rfl rfl (by kernel_rfl)) ?_
              refine wx_ef ?_
              refine ks_e0 rfl (e_storeN 0 (us := [_]) rfl rfl rfl rfl (by kernel_rfl) (by simp [Value.oneCell']) rfl rfl) ?_
              rintro _ _ w7_29 rfl
              refine ⟨_, List.Perm.refl _, ?_⟩
              refine wx_endp [(0, _)] [0, 3, 3, 3, 3] ⟨rfl, trivial⟩ rfl ?_
              exact ⟨U1, N1, P1, a1, a2, a3, rfl, by rw [bov_app, iv_app, iv_app]; rfl⟩
          · skip
            refine ks_e rfl (e_lit1 (cs := [_]) t22 rfl rfl rfl (by omega)) ?_
            rintro _ _ w7_19 ⟨b7_19, rfl, rfl⟩
            refine ⟨_, List.perm_middle.symm, ?_⟩
            refine wx_ef ?_
            refine ks_e rfl (e_appN 4 t128 rfl rfl rfl (fun w hh => Rd.held0 hh (i := 2) rfl) (by simp [Value.oneCell']) (by omega) (by omega)) ?_
            rintro _ _ w7_8 ⟨⟨U1, a1, rfl⟩, rfl⟩
            refine ⟨_, List.Perm.refl _, ?_⟩
            refine wx_ef ?_
            refine ks_e rfl (e_appN 5 t22 rfl rfl rfl (fun w hh => Rd.held0 hh (i := 3) rfl) (by simp [Value.oneCell']) (by omega) (by omega)) ?_
            rintro _ _ w7_14 ⟨⟨N1, a2, rfl⟩, rfl⟩
            refine ⟨_, List.Perm.refl _, ?_⟩
            refine wx_ef ?_
            refine ks_e rfl (e_appN 6 t22 rfl rfl rfl (fun w hh => Rd.held0 hh (i := 1) rfl) (by simp [Value.oneCell']) (by omega) (by omega)) ?_
            rintro _ _ w7_20 ⟨⟨P1, a3, rfl⟩, rfl⟩
            refine ⟨_, List.Perm.refl _, ?_⟩
            refine wx_f rfl (f_nilCheck rfl) ?_
            refine wx_f rfl (f_fieldAddr 4 rfl Tryz.underlying182 rfl rfl (by kernel_rfl)) ?_
            refine wx_ef ?_
            refine ks_e0 rfl (e_storeN 0 (us := [_]) rfl rfl rfl rfl (by kernel_rfl) (by simp [Value.oneCell']) rfl rfl) ?_
            rintro _ _ w7_23 rfl
            refine ⟨_, pick_perm [] _ rfl, ?_⟩
            refine wx_f rfl (f_nilCheck rfl) ?_
            refine wx_f rfl (f_fieldAddr 5 rfl Tryz.underlying182 rfl rfl (by kernel_rfl)) ?_
            refine wx_ef ?_
            refine ks_e0 rfl (e_storeN 0 (us := [_]) rfl rfl rfl rfl (by kernel_rfl) (by simp [Value.oneCell']) rfl rfl) ?_
            rintro _ _ w7_26 rfl
            refine ⟨_, List.Perm.refl _, ?_⟩
            refine wx_f rfl (f_nilCheck rfl) ?_
            refine wx_f rfl (f_fieldAddr 6 rfl Tryz.underlying182 rfl rfl (by kernel_rfl)) ?_
            refine wx_ef ?_
            refine ks_e0 rfl (e_storeN 0 (us := [_]) rfl rfl rfl rfl (by kernel_rfl) (by simp [Value.oneCell']) rfl rfl) ?_
            rintro _ _ w7_29 rfl
            refine ⟨_, List.Perm.refl _, ?_⟩
            refine wx_endp [(0, _)] [0, 3, 3, 3, 3] ⟨rfl, trivial⟩ rfl ?_
            exact ⟨U1, N1, P1, a1, a2, a3, rfl, by rw [bov_app, iv_app, iv_app]; rfl⟩
        · skip
          refine ks_e rfl (e_lit1 (cs := [_]) t22 rfl rfl rfl (by omega)) ?_
          rintro _ _ w7_19 ⟨b7_19, rfl, rfl⟩
          refine ⟨_, List.perm_middle.symm, ?_⟩
          refine wx_ef ?_
          refine ks_e rfl (e_lit1 (cs := [_]) t128 rfl rfl rfl (by omega)) ?_
          rintro _ _ w7_7 ⟨b7_7, rfl, rfl⟩
          refine ⟨_, List.perm_middle.symm, ?_⟩
          refine wx_ef ?_
          refine ks_e rfl (e_appN 4 t128 rfl rfl rfl (fun w hh => Rd.held0 hh (i := 1) rfl) (by simp [Value.oneCell']) (by omega) (by omega)) ?_
          rintro _ _ w7_8 ⟨⟨U1, a1, rfl⟩, rfl⟩
          refine ⟨_, List.Perm.refl _, ?_⟩
          refine wx_ef ?_
          refine ks_e rfl (e_appN 5 t22 rfl rfl rfl (fun w hh => Rd.held0 hh (i := 3) rfl) (by simp [Value.oneCell']) (by omega) (by omega)) ?_
          rintro _ _ w7_14 ⟨⟨N1, a2, rfl⟩, rfl⟩
          refine ⟨_, List.Perm.refl _, ?_⟩
          refine wx_ef ?_
          refine ks_e rfl (e_appN 6 t22 rfl rfl rfl (fun w hh => Rd.held0 hh (i := 2) rfl) (by simp [Value.oneCell']) (by omega) (by omega)) ?_
          rintro _ _ w7_20 ⟨⟨P1, a3, rfl⟩, rfl⟩
          refine ⟨_, List.Perm.refl _, ?_⟩
          refine wx_f rfl (f_nilCheck rfl) ?_
          refine wx_f rfl (f_fieldAddr 4 rfl Tryz.underlying182 rfl rfl (by kernel_rfl)) ?_
          refine wx_ef ?_
          refine ks_e0 rfl (e_storeN 0 (us := [_]) rfl rfl rfl rfl (by kernel_rfl) (by simp [Value.oneCell']) rfl rfl) ?_
          rintro _ _ w7_23 rfl
          refine ⟨_, pick_perm [] _ rfl, ?_⟩
          refine wx_f rfl (f_nilCheck rfl) ?_
          refine wx_f rfl (f_fieldAddr 5 rfl Tryz.underlying182 rfl rfl (by kernel_rfl)) ?_
          refine wx_ef ?_
          refine ks_e0 rfl (e_storeN 0 (us := [_]) rfl rfl rfl rfl (by kernel_rfl) (by simp [Value.oneCell']) rfl rfl) ?_
          rintro _ _ w7_26 rfl
          refine ⟨_, List.Perm.refl _, ?_⟩
          refine wx_f rfl (f_nilCheck rfl) ?_
          refine wx_f rfl (f_fieldAddr 6 rfl Tryz.underlying182 rfl rfl (by kernel_rfl)) ?_
          refine wx_ef ?_
          refine ks_e0 rfl (e_storeN 0 (us := [_]) rfl rfl rfl rfl (by kernel_rfl) (by simp [Value.oneCell']) rfl rfl) ?_
          rintro _ _ w7_29 rfl
          refine ⟨_, List.Perm.refl _, ?_⟩
          refine wx_endp [(0, _)] [0, 3, 3, 3, 3] ⟨rfl, trivial⟩ rfl ?_
          exact ⟨U1, N1, P1, a1, a2, a3, rfl, by rw [bov_app, iv_app, iv_app]; rfl⟩
      · skip
        refine ks_e rfl (e_lit1 (cs := [_]) t22 rfl rfl rfl (by omega)) ?_
        rintro _ _ w7_19 ⟨b7_19, rfl, rfl⟩
        refine ⟨_, List.perm_middle.symm, ?_⟩
        refine wx_two ?_ ?_
        · skip
          refine ks_e rfl (e_lit1 (cs := [_]) t128 rfl rfl rfl (by omega)) ?_
          rintro _ _ w7_7 ⟨b7_7, rfl, rfl⟩
          refine ⟨_, List.perm_middle.symm, ?_⟩
          refine wx_two ?_ ?_
          · skip
            refine ks_e rfl (e_appN 3 t128 rfl rfl rfl (fun w hh => Rd.held0 hh (i := 1) rfl) (by simp [Value.oneCell']) (by omega) (by omega)) ?_
            rintro _ _ w7_8 ⟨⟨U1, a1, rfl⟩, rfl⟩
            refine ⟨_, List.Perm.refl _, ?_⟩
            refine wx_ef ?_
            refine ks_e rfl (e_lit1 (cs := [_]) t22 rfl rfl rfl (by omega)) ?_
            rintro _ _ w7_13 ⟨b7_13, rfl, rfl⟩
            refine ⟨_, List.perm_middle.symm, ?_⟩
            refine wx_ef ?_
            refine ks_e rfl (e_appN 5 t22 rfl rfl rfl (fun w hh => Rd.held0 hh (i := 1) rfl) (by simp [Value.oneCell']) (by omega) (by omega)) ?_
            rintro _ _ w7_14 ⟨⟨N1, a2, rfl⟩, rfl⟩
            refine ⟨_, List.Perm.refl _, ?_⟩
            refine wx_ef ?_
            refine ks_e rfl (e_appN 6 t22 rfl rfl rfl (fun w hh => Rd.held0 hh (i := 3) rfl) (by simp [Value.oneCell']) (by omega) (by omega)) ?_
            rintro _ _ w7_20 ⟨⟨P1, a3, rfl⟩, rfl⟩
            refine ⟨_, List.Perm.refl _, ?_⟩
            refine wx_f rfl (f_nilCheck rfl) ?_
            refine wx_f rfl (f_fieldAddr 4 rfl Tryz.underlying182 rfl rfl (by kernel_rfl)) ?_
            refine wx_ef ?_
            refine ks_e0 rfl (e_storeN 0 (us := [_]) rfl rfl rfl rfl (by kernel_rfl) (by simp [Value.oneCell']) rfl rfl) ?_
            rintro _ _ w7_23 rfl
            refine ⟨_, pick_perm [] _ rfl, ?_⟩
            refine wx_f rfl (f_nilCheck rfl) ?_
            refine wx_f rfl (f_fieldAddr 5 rfl Tryz.underlying182 rfl rfl (by kernel_rfl)) ?_
            refine wx_ef ?_
            refine ks_e0 rfl (e_storeN 0 (us := [_]) rfl rfl rfl rfl (by kernel_rfl) (by simp [Value.oneCell']) rfl rfl) ?_
            rintro _ _ w7_26 rfl
            refine ⟨_, List.Perm.refl _, ?_⟩
            refine wx_f rfl (f_nilCheck rfl) ?_
            refine wx_f rfl (f_fieldAddr 6 rfl Tryz.underlying182 rfl rfl (by kernel_rfl)) ?_
            refine wx_ef ?_
            refine ks_e0 rfl (e_storeN 0 (us := [_]) rfl rfl rfl rfl (by kernel_rfl) (by simp [Value.oneCell']) rfl rfl) ?_
            rintro _ _ w7_29 rfl
            refine ⟨_, List.Perm.refl _, ?_⟩
            refine wx_endp [(0, _)] [0, 3, 3, 3, 3] ⟨rfl, trivial⟩ rfl ?_
            exact ⟨U1, N1, P1, a1, a2, a3, rfl, by rw [bov_app, iv_app, iv_app]; rfl⟩
          · skip
            refine ks_e rfl (e_lit1 (cs := [_]) t22 rfl rfl rfl (by omega)) ?_
            rintro _ _ w7_13 ⟨b7_13, rfl, rfl⟩
            refine ⟨_, List.perm_middle.symm, ?_⟩
            refine wx_ef ?_
            refine ks_e rfl (e_appN 4 t128 rfl rfl rfl (fun w hh => Rd.held0 hh (i := 2) rfl) (by simp [Value.oneCell']) (by omega) (by omega)) ?_
            rintro _ _ w7_8 ⟨⟨U1, a1, rfl⟩, rfl⟩
            refine ⟨_, List.Perm.refl _, ?_⟩
            refine wx_ef ?_
            refine ks_e rfl (e_appN 5 t22 rfl rfl rfl (fun w hh => Rd.held0 hh (i := 1) rfl) (by simp [Value.oneCell']) (by omega) (by omega)) ?_
            rintro _ _ w7_14 ⟨⟨N1, a2, rfl⟩, rfl⟩
            refine ⟨_, List.Perm.refl _, ?_⟩
            refine wx_ef ?_
            refine ks_e rfl (e_appN 6 t22 rfl rfl rfl (fun w hh => Rd.held0 hh (i := 3) rfl) (by simp [Value.oneCell']) (by omega) (by omega)) ?_
            rintro _ _ w7_20 ⟨⟨P1, a3, rfl⟩, rfl⟩
            refine ⟨_, List.Perm.refl _, ?_⟩
            refine wx_f rfl (f_nilCheck rfl) ?_
            refine wx_f rfl (f_fieldAddr 4 rfl Tryz.underlying182 rfl rfl (by kernel_rfl)) ?_
            refine wx_ef ?_
            refine ks_e0 rfl (e_storeN 0 (us := [_]) rfl rfl rfl rfl (by kernel_rfl) (by simp [Value.oneCell']) rfl rfl) ?_
            rintro _ _ w7_23 rfl
            refine ⟨_, pick_perm [] _ rfl, ?_⟩
            refine wx_f rfl (f_nilCheck rfl) ?_
            refine wx_f rfl (f_fieldAddr 5 rfl Tryz.underlying182 rfl rfl (by kernel_rfl)) ?_
            refine wx_ef ?_
            refine ks_e0 rfl (e_storeN 0 (us := [_]) rfl rfl rfl rfl (by kernel_rfl) (by simp [Value.oneCell']) rfl rfl) ?_
            rintro _ _ w7_26 rfl
            refine ⟨_, List.Perm.refl _, ?_⟩
            refine wx_f rfl (f_nilCheck rfl) ?_
            refine wx_f rfl (f_fieldAddr 6 rfl Tryz.underlying182 rfl rfl (by kernel_rfl)) ?_
            refine wx_ef ?_
            refine ks_e0 rfl (e_storeN 0 (us := [_]) rfl rfl rfl rfl (by kernel_rfl) (by simp [Value.oneCell']) rfl rfl) ?_
            rintro _ _ w7_29 rfl
            refine ⟨_, List.Perm.refl _, ?_⟩
            refine wx_endp [(0, _)] [0, 3, 3, 3, 3] ⟨rfl, trivial⟩ rfl ?_
            exact ⟨U1, N1, P1, a1, a2, a3, rfl, by rw [bov_app, iv_app, iv_app]; rfl⟩
        · skip
          refine ks_e rfl (e_lit1 (cs := [_]) t22 rfl rfl rfl (by omega)) ?_
          rintro _ _ w7_13 ⟨b7_13, rfl, rfl⟩
          refine ⟨_, List.perm_middle.symm, ?_⟩
          refine wx_ef ?_
          refine ks_e rfl (e_lit1 (cs := [_]) t128 rfl rfl rfl (by omega)) ?_
          rintro _ _ w7_7 ⟨b7_7, rfl, rfl⟩
          refine ⟨_, List.perm_middle.symm, ?_⟩
          refine wx_ef ?_
          refine ks_e rfl (e_appN 4 t128 rfl rfl rfl (fun w hh => Rd.held0 hh (i := 1) rfl) (by simp [Value.oneCell']) (by omega) (by omega)) ?_
          rintro _ _ w7_8 ⟨⟨U1, a1, rfl⟩, rfl⟩
          refine ⟨_, List.Perm.refl _, ?_⟩
          refine wx_ef ?_
          refine ks_e rfl (e_appN 5 t22 rfl rfl rfl (fun w hh => Rd.held0 hh (i := 2) rfl) (by simp [Value.oneCell']) (by omega) (by omega)) ?_
          rintro _ _ w7_14 ⟨⟨N1, a2, rfl⟩, rfl⟩
          refine ⟨_, List.Perm.refl _, ?_⟩
          refine wx_ef ?_
          refine ks_e rfl (e_appN 6 t22 rfl rfl rfl (fun w hh => Rd.held0 hh (i := 3) rfl) (by simp [Value.oneCell']) (by omega) (by omega)) ?_
          rintro _ _ w7_20 ⟨⟨P1, a3, rfl⟩, rfl⟩
          refine ⟨_, List.Perm.refl _, ?_⟩
          refine wx_f rfl (f_nilCheck rfl) ?_
          refine wx_f rfl (f_fieldAddr 4 rfl Tryz.underlying182 rfl rfl (by kernel_rfl)) ?_
          refine wx_ef ?_
          refine ks_e0 rfl (e_storeN 0 (us := [_]) rfl rfl rfl rfl (by kernel_rfl) (by simp [Value.oneCell']) rfl rfl) ?_
          rintro _ _ w7_23 rfl
          refine ⟨_, pick_perm [] _ rfl, ?_⟩
          refine wx_f rfl (f_nilCheck rfl) ?_
          refine wx_f rfl (f_fieldAddr 5 rfl Tryz.underlying182 rfl rfl (by kernel_rfl)) ?_
          refine wx_ef ?_
          refine ks_e0 rfl (e_storeN 0 (us := [_]) rfl rfl rfl rfl (by kernel_rfl) (by simp [Value.oneCell']) rfl rfl) ?_
          rintro _ _ w7_26 rfl
          refine ⟨_, List.Perm.refl _, ?_⟩
          refine wx_f rfl (f_nilCheck rfl) ?_
          refine wx_f rfl (f_fieldAddr 6 rfl Tryz.underlying182 rfl rfl (by kernel_rfl)) ?_
          refine wx_ef ?_
          refine ks_e0 rfl (e_storeN 0 (us := [_]) rfl rfl rfl rfl (by kernel_rfl) (by simp [Value.oneCell']) rfl rfl) ?_
          rintro _ _ w7_29 rfl
          refine ⟨_, List.Perm.refl _, ?_⟩
          refine wx_endp [(0, _)] [0, 3, 3, 3, 3] ⟨rfl, trivial⟩ rfl ?_
          exact ⟨U1, N1, P1, a1, a2, a3, rfl, by rw [bov_app, iv_app, iv_app]; rfl⟩
    rintro _ _ w7_ ⟨U1, N1, P1, a1, a2, a3, rfl, rfl⟩
    refine w_seq ?_
    refine w_drawk [(0, true), (1, true), (2, true), (3, true), (4, true), (5, false), (6, true), (7, false), (8, false), (9, false), (10, true), (11, true), (12, false)] ([(_, some 12)]) ([_, _, _, _]) mixed (by kernel_rfl) (by kernel_rfl) rfl rfl (List.Perm.refl _) (fun w8_ => ?_)
    refine wk_f rfl (f_move rfl) ?_
    refine wk_f rfl (f_move rfl) ?_
    refine wk_f rfl (f_nilCheck rfl) ?_
    refine wk_f rfl (f_fieldAddr 7 rfl Tryz.underlying182 rfl rfl (by kernel_rfl)) ?_
    (first | refine wk_f rfl (f_loadb 0 rfl Tryz.underlying22 rfl rfl rfl) ?_ | refine wk_f rfl (f_loadb 1 rfl Tryz.underlying22 rfl rfl rfl) ?_ | refine wk_f rfl (f_loadb 2 rfl Tryz.underlying22 rfl rfl rfl) ?_ | refine wk_f rfl (f_loadb 3 rfl Tryz.underlying22 rfl rfl rfl) ?_ | refine wk_f rfl (f_loadb 4 rfl Tryz.underlying22 rfl rfl rfl) ?_ | refine wk_f rfl (f_loadb 5 rfl Tryz.underlying22 rfl rfl rfl) ?_ | refine wk_f rfl (f_loadb 6 rfl Tryz.underlying22 rfl rfl rfl) ?_)
    refine wk_e rfl (e_alloc1 (.int .i64 0) (by kernel_rfl) rfl) ?_
    rintro _ _ w8_5 ⟨b8_5, rfl, rfl⟩
    refine ⟨_, List.perm_middle.symm, ?_⟩
    refine wk_f rfl (f_nilCheck rfl) ?_
    (first | refine wk_e rfl (f_loadb 0 rfl Tryz.underlying3 rfl rfl rfl).eff ?_ | refine wk_e rfl (f_loadb 1 rfl Tryz.underlying3 rfl rfl rfl).eff ?_ | refine wk_e rfl (f_loadb 2 rfl Tryz.underlying3 rfl rfl rfl).eff ?_ | refine wk_e rfl (f_loadb 3 rfl Tryz.underlying3 rfl rfl rfl).eff ?_ | refine wk_e rfl (f_loadb 4 rfl Tryz.underlying3 rfl rfl rfl).eff ?_ | refine wk_e rfl (f_loadb 5 rfl Tryz.underlying3 rfl rfl rfl).eff ?_ | refine wk_e rfl (f_loadb 6 rfl Tryz.underlying3 rfl rfl rfl).eff ?_)
    rintro _ _ _ ⟨rfl, rfl⟩
    refine ⟨_, List.Perm.refl _, ?_⟩
    refine wk_e rfl (e_lit1 (cs := [_]) t22 rfl rfl rfl (by omega)) ?_
    rintro _ _ w8_8 ⟨b8_8, rfl, rfl⟩
    refine ⟨_, List.perm_middle.symm, ?_⟩
    refine wk_e rfl (e_appN 6 t22 rfl rfl rfl (fun w hh => Rd.held0 hh (i := 1) rfl) (by simp [Value.oneCell']) (by omega) (by omega)) ?_
    rintro _ _ w8_9 ⟨⟨V1, a4, rfl⟩, rfl⟩
    refine ⟨_, List.Perm.refl _, ?_⟩
    refine wk_f rfl (f_nilCheck rfl) ?_
    refine wk_f rfl (f_fieldAddr 7 rfl Tryz.underlying182 rfl rfl (by kernel_rfl)) ?_
    (first | refine wk_e0 rfl (e_store0 (us := [_]) rfl rfl rfl (by kernel_rfl) (by simp [Value.oneCell']) rfl rfl) ?_ | refine wk_e0 rfl (e_store1 (us := [_]) rfl rfl rfl (by kernel_rfl) (by simp [Value.oneCell']) rfl rfl) ?_ | refine wk_e0 rfl (e_store2 (us := [_]) rfl rfl rfl (by kernel_rfl) (by simp [Value.oneCell']) rfl rfl) ?_ | refine wk_e0 rfl (e_store3 (us := [_]) rfl rfl rfl (by kernel_rfl) (by simp [Value.oneCell']) rfl rfl) ?_)
    rintro _ _ w8_12 rfl
    refine ⟨_, List.Perm.refl _, ?_⟩
    refine wk_endp [(0, _)] [0, 2, 2, 2, 2] ⟨rfl, trivial⟩ rfl ?_
    refine w_seq ?_
    refine w_reg ?_
    refine wl_f (f_move rfl) ?_
    refine wl_f (f_nilCheck rfl) ?_
    refine wl_f (f_fieldAddr 4 rfl Tryz.underlying182 rfl rfl (by kernel_rfl)) ?_
    (first | refine wl_f (f_loadb 0 rfl Tryz.underlying128 rfl rfl rfl) ?_ | refine wl_f (f_loadb 1 rfl Tryz.underlying128 rfl rfl rfl) ?_ | refine wl_f (f_loadb 2 rfl Tryz.underlying128 rfl rfl rfl) ?_ | refine wl_f (f_loadb 3 rfl Tryz.underlying128 rfl rfl rfl) ?_ | refine wl_f (f_loadb 4 rfl Tryz.underlying128 rfl rfl rfl) ?_ | refine wl_f (f_loadb 5 rfl Tryz.underlying128 rfl rfl rfl) ?_ | refine wl_f (f_loadb 6 rfl Tryz.underlying128 rfl rfl rfl) ?_)
    refine wl_f (f_len rfl Tryz.underlying128) ?_
    refine wl_f (f_sub rfl rfl (by omega)) ?_
    refine wl_f (f_assign rfl) ?_
    refine wl_end [(2, _)] ⟨rfl, trivial⟩ ?_
    refine w_bun (H := []) [_, _, _, _, _] ?_
    refine w_ret ?_
    refine ⟨_, _, fun a ha hh => results_tmps Tryz.results137 rfl a ha _, List.Sublist.refl _, ?_⟩
    refine ⟨used.length, _, ?_, rfl, .slice U1 (used.length + 1) a1, .slice N1 (used.length + 1) a2, .slice P1 (used.length + 1) a3, .slice V1 (used.length + 1) a4, used ++ [false], nx ++ [-1], pv ++ [-1], vs ++ [(kInt).zero], ?_, hc.more (by omega) _ _ _, by simp, hc.fresh (by simp) hall⟩
    · show Value.int .i64 _ = _
      congr 1
      omega
    · rw [chs, List.length_append, vc_app]; rfl
set_option maxHeartbeats 4000000 in
theorem bfree_spec (b n : Nat) (l : List (Nat × _)) (r : Res) (w : World) (hn : n ≤ 8192) (hl : l.length < n) (hr : ChR kBuc b n l r) (hs : Holds w r.foot [r] w) :
    Spec Tryz.prog 136 [.pointer (some ⟨b, 0, .none⟩)] w r.foot fun v H => ∃ (x : Nat) (r' : Res), v = .int .i64 x ∧ H = [r'] ∧ ChF kBuc b n l x r' := by
  obtain ⟨uV, nV, pV, vV, used, nx, pv, vs, rfl, hc⟩ := hr
  have hle := hc.le
  refine enter (n := 64) Tryz.func136 rfl rfl [(0, _)] rfl ⟨rfl, trivial⟩ hs ?_
  refine w_unb (chs kBuc b n l uV nV pV vV used nx pv vs) ?_
  refine w_with fun hh => ?_
  obtain ⟨U, cu, rfl⟩ := row_slice hh (i := 1) rfl
  clear hh
  refine w_seq ?_
  refine w_reg ?_
  refine wl_f (f_assign rfl) ?_
  refine wl_end [(0, _)] ⟨rfl, trivial⟩ ?_
  refine w_seq ?_
  refine w_seq ?_
  refine w_reg ?_
  refine wl_f (f_move rfl) ?_
  refine wl_f (f_nilCheck rfl) ?_
  refine wl_f (f_fieldAddr 4 rfl Tryz.underlying131 rfl rfl (by kernel_rfl)) ?_
  (first | refine wl_f (f_loadb 0 rfl Tryz.underlying128 rfl rfl rfl) ?_ | refine wl_f (f_loadb 1 rfl Tryz.underlying128 rfl rfl rfl) ?_ | refine wl_f (f_loadb 2 rfl Tryz.underlying128 rfl rfl rfl) ?_ | refine wl_f (f_loadb 3 rfl Tryz.underlying128 rfl rfl rfl) ?_ | refine wl_f (f_loadb 4 rfl Tryz.underlying128 rfl rfl rfl) ?_ | refine wl_f (f_loadb 5 rfl Tryz.underlying128 rfl rfl rfl) ?_ | refine wl_f (f_loadb 6 rfl Tryz.underlying128 rfl rfl rfl) ?_)
  refine wl_f (f_len rfl Tryz.underlying128) ?_
  refine wl_f (f_move rfl) ?_
  refine wl_end [(0, _), (8, _), (9, _), (10, _)] ⟨rfl, rfl, rfl, rfl, trivial⟩ ?_
  refine w_block ?_
  refine w_loop (fun k m H w => ∃ i : Nat, m = [(0, .pointer (some ⟨b, 0, .none⟩)), (8, .slice U used.length cu), (9, .int .i64 used.length), (10, .int .i64 i)] ∧ H = chs kBuc b n l (.slice U used.length cu) nV pV vV used nx pv vs ∧ k + i = used.length ∧ ∀ j < i, used[j]? = some true) used.length
    ⟨0, rfl, rfl, by omega, by omega⟩ ?_
  rintro k _ _ w1 ⟨i, rfl, rfl, hk, hall⟩
  refine w_seq ?_
  refine w_reg ?_
  refine wl_f (f_lss rfl rfl) ?_
  refine wl_end [(0, _), (8, _), (9, _), (10, _), (11, _)] ⟨rfl, rfl, rfl, rfl, rfl, trivial⟩ ?_
  refine w_seq ?_
  refine w_ifd rfl (fun hc1 => ?_) (fun hc1 => ?_)
  · skip
    have hi : i < used.length := by omega
    refine w_skip ?_
    refine w_seq ?_
    refine w_block ?_
    refine w_seq ?_
    refine w_reg ?_
    refine wl_f (f_move rfl) ?_
    refine wl_with fun hh => ?_
    obtain ⟨g, cap, e⟩ := row_form hh (i := 1) rfl (by omega)
    injection e with e1 _ e3
    subst e1; subst e3
    clear hh
    refine wl_f (f_indexAddr 1 (i := i) rfl rfl Tryz.underlying128 (by kernel_rfl) rfl hi) ?_
    refine wl_f (f_loadr (v := .bool used[i]) 1 rfl Tryz.underlying4 rfl rfl (map_get Value.bool (List.getElem?_eq_getElem hi))) ?_
    refine wl_f (f_assign rfl) ?_
    refine wl_f (f_assign rfl) ?_
    refine wl_end [(0, _), (3, _), (4, _), (8, _), (9, _), (10, _)] ⟨rfl, rfl, rfl, rfl, rfl, rfl, trivial⟩ ?_
    refine w_seq ?_
    refine w_reg ?_
    refine wl_f (f_move rfl) ?_
    refine wl_f (f_not rfl rfl) ?_
    refine wl_end [(0, _), (3, _), (8, _), (9, _), (10, _), (16, _)] ⟨rfl, rfl, rfl, rfl, rfl, rfl, trivial⟩ ?_
    refine w_ifb rfl (fun hc2 => ?_) (fun hc2 => ?_)
    · skip
      have hf : used[i] = false := by simpa using hc2
      refine w_seq ?_
      refine w_reg ?_
      refine wl_f (f_move rfl) ?_
      refine wl_f (f_assign rfl) ?_
      refine wl_end [(2, _)] ⟨rfl, trivial⟩ ?_
      refine w_bun (H := []) (chs kBuc b n l (.slice (some ⟨g, 0, .none⟩) used.length cu) nV pV vV used nx pv vs) ?_
      refine w_ret ?_
      refine ⟨_, _, fun a ha hh => results_tmps Tryz.results136 rfl a ha _, List.Sublist.refl _, ?_⟩
      exact ⟨i, _, rfl, rfl, _, _, _, _, used, nx, pv, vs, rfl, hc, hi, hc.fresh (by rw [List.getElem?_eq_getElem hi, hf]; simp) hall⟩
    · skip
      have hf : used[i] = true := by simpa using hc2
      refine w_skip ?_
      refine w_reg ?_
      refine wl_f (f_add rfl rfl (by omega)) ?_
      refine wl_f (f_move rfl) ?_
      refine wl_end [(0, _), (8, _), (9, _), (10, _)] ⟨rfl, rfl, rfl, rfl, trivial⟩ ?_
      refine ⟨k - 1, by omega, i + 1, rfl, rfl, by omega, fun j hj => ?_⟩
      rcases Nat.lt_or_eq_of_le (Nat.le_of_lt_succ hj) with h | rfl
      · exact hall j h
      · rw [List.getElem?_eq_getElem hi, hf]
  · skip
    obtain rfl : i = used.length := by omega
    have hfull := hc.full hall
    refine w_exit0 ?_
    refine w_seq ?_
    refine w_post (fun m H w' => ∃ (U1 N1 P1 : Option Addr) (a1 a2 a3 : Nat), m = [(0, .pointer (some ⟨b, 0, .none⟩))] ∧
    H = [blk b [.int .i64 (n : Int), .int .i64 (l.length : Int), .int .i64 (hdE (-1) (nodes l)), .int .i64 (hdE (-1) (nodes l).reverse), .slice U1 (used.length + 1) a1, .slice N1 (used.length + 1) a2, .slice P1 (used.length + 1) a3, vV] (kBuc).list,
      row (.slice U1 (used.length + 1) a1) 4 1 (used.length + 1) (bov (used ++ [false])), row (.slice N1 (used.length + 1) a2) 3 1 (used.length + 1) (iv (nx ++ [-1])), row (.slice P1 (used.length + 1) a3) 3 1 (used.length + 1) (iv (pv ++ [-1])),
      row vV (kBuc).elem (kBuc).sz used.length (vcells kBuc vs)]) ?_ ?_
    · skip
      refine w_drawx (.fl 0 (.fl 1 (.fl 2 (.fl 3 (.fl 4 (.fl 5 (.fl 6 (.fl 9 (.fl 10 (.fl 11 (.fl 12 (.fl 15 (.fl 16 (.fl 17 (.fl 18 (.three 7 (.three 8 (.two 13 (.two 14 (.ef 19 (.ef 20 (.fl 21 (.fl 22 (.ef 23 (.fl 24 (.fl 25 (.ef 26 (.fl 27 (.fl 28 (.ef 29 .done))))))))))) 19 (.ef 14 (.ef 20 (.fl 21 (.fl 22 (.ef 23 (.fl 24 (.fl 25 (.ef 26 (.fl 27 (.fl 28 (.ef 29 .done)))))))))))) 19 (.ef 13 (.ef 14 (.ef 20 (.fl 21 (.fl 22 (.ef 23 (.fl 24 (.fl 25 (.ef 26 (.fl 27 (.fl 28 (.ef 29 .done))))))))))))) 13 (.two 8 (.two 14 (.ef 19 (.ef 20 (.fl 21 (.fl 22 (.ef 23 (.fl 24 (.fl 25 (.ef 26 (.fl 27 (.fl 28 (.ef 29 .done))))))))))) 19 (.ef 14 (.ef 20 (.fl 21 (.fl 22 (.ef 23 (.fl 24 (.fl 25 (.ef 26 (.fl 27 (.fl 28 (.ef 29 .done)))))))))))) 19 (.ef 8 (.ef 14 (.ef 20 (.fl 21 (.fl 22 (.ef 23 (.fl 24 (.fl 25 (.ef 26 (.fl 27 (.fl 28 (.ef 29 .done))))))))))))) 19 (.two 8 (.ef 13 (.ef 14 (.ef 20 (.fl 21 (.fl 22 (.ef 23 (.fl 24 (.fl 25 (.ef 26 (.fl 27 (.fl 28 (.ef 29 .done)))))))))))) 13 (.ef 8 (.ef 14 (.ef 20 (.fl 21 (.fl 22 (.ef 23 (.fl 24 (.fl 25 (.ef 26 (.fl 27 (.fl 28 (.ef 29 .done)))))))))))))) 13 (.two 7 (.two 8 (.two 14 (.ef 19 (.ef 20 (.fl 21 (.fl 22 (.ef 23 (.fl 24 (.fl 25 (.ef 26 (.fl 27 (.fl 28 (.ef 29 .done))))))))))) 19 (.ef 14 (.ef 20 (.fl 21 (.fl 22 (.ef 23 (.fl 24 (.fl 25 (.ef 26 (.fl 27 (.fl 28 (.ef 29 .done)))))))))))) 19 (.ef 8 (.ef 14 (.ef 20 (.fl 21 (.fl 22 (.ef 23 (.fl 24 (.fl 25 (.ef 26 (.fl 27 (.fl 28 (.ef 29 .done))))))))))))) 19 (.ef 7 (.ef 8 (.ef 14 (.ef 20 (.fl 21 (.fl 22 (.ef 23 (.fl 24 (.fl 25 (.ef 26 (.fl 27 (.fl 28 (.ef 29 .done)))))))))))))) 19 (.two 7 (.two 8 (.ef 13 (.ef 14 (.ef 20 (.fl 21 (.fl 22 (.ef 23 (.fl 24 (.fl 25 (.ef 26 (.fl 27 (.fl 28 (.ef 29 .done)))))))))))) 13 (.ef 8 (.ef 14 (.ef 20 (.fl 21 (.fl 22 (.ef 23 (.fl 24 (.fl 25 (.ef 26 (.fl 27 (.fl 28 (.ef 29 .done))))))))))))) 13 (.ef 7 (.ef 8 (.ef 14 (.ef 20 (.fl 21 (.fl 22 (.ef 23 (.fl 24 (.fl 25 (.ef 26 (.fl 27 (.fl 28 (.ef 29 .done)))))))))))))))))))))))))))))) ([(_, some 23)]) ([_, _, _, _]) mixed (by kernel_rfl) (by kernel_rfl) rfl rfl (List.Perm.refl _) (fun w7_ => ?_)
      refine wx_f rfl (f_move rfl) ?_
      refine wx_f rfl (f_move rfl) ?_
      refine wx_f rfl (f_move rfl) ?_
      refine wx_f rfl (f_move rfl) ?_
      refine wx_f rfl (f_nilCheck rfl) ?_
      refine wx_f rfl (f_fieldAddr 4 rfl Tryz.underlying131 rfl rfl (by kernel_rfl)) ?_
      (first | refine wx_f rfl (f_loadb 0 rfl Tryz.underlying128 rfl rfl rfl) ?_ | refine wx_f rfl (f_loadb 1 rfl Tryz.underlying128 rfl rfl rfl) ?_ | refine wx_f rfl (f_loadb 2 rfl Tryz.underlying128 rfl rfl rfl) ?_ | refine wx_f rfl (f_loadb 3 rfl Tryz.underlying128 rfl rfl rfl) ?_ | refine wx_f rfl (f_loadb 4 rfl Tryz.underlying128 rfl rfl rfl) ?_ | refine wx_f rfl (f_loadb 5 rfl Tryz.underlying128 rfl rfl rfl) ?_ | refine wx_f rfl (f_loadb 6 rfl Tryz.underlying128 rfl rfl rfl) ?_)
      refine wx_f rfl (f_move rfl) ?_
      refine wx_f rfl (f_nilCheck rfl) ?_
      refine wx_f rfl (f_fieldAddr 5 rfl Tryz.underlying131 rfl rfl (by kernel_rfl)) ?_
      (first | refine wx_f rfl (f_loadb 0 rfl Tryz.underlying22 rfl rfl rfl) ?_ | refine wx_f rfl (f_loadb 1 rfl Tryz.underlying22 rfl rfl rfl) ?_ | refine wx_f rfl (f_loadb 2 rfl Tryz.underlying22 rfl rfl rfl) ?_ | refine wx_f rfl (f_loadb 3 rfl Tryz.underlying22 rfl rfl rfl) ?_ | refine wx_f rfl (f_loadb 4 rfl Tryz.underlying22 rfl rfl rfl) ?_ | refine wx_f rfl (f_loadb 5 rfl Tryz.underlying22 rfl rfl rfl) ?_ | refine wx_f rfl (f_loadb 6 rfl Tryz.underlying22 rfl rfl rfl) ?_)
      refine wx_f rfl (f_move rfl) ?_
      refine wx_f rfl (f_nilCheck rfl) ?_
      refine wx_f rfl (f_fieldAddr 6 rfl Tryz.underlying131 rfl rfl (by kernel_rfl)) ?_
      (first | refine wx_f rfl (f_loadb 0 rfl Tryz.underlying22 rfl rfl rfl) ?_ | refine wx_f rfl (f_loadb 1 rfl Tryz.underlying22 rfl rfl rfl) ?_ | refine wx_f rfl (f_loadb 2 rfl Tryz.underlying22 rfl rfl rfl) ?_ | refine wx_f rfl (f_loadb 3 rfl Tryz.underlying22 rfl rfl rfl) ?_ | refine wx_f rfl (f_loadb 4 rfl Tryz.underlying22 rfl rfl rfl) ?_ | refine wx_f rfl (f_loadb 5 rfl Tryz.underlying22 rfl rfl rfl) ?_ | refine wx_f rfl (f_loadb 6 rfl Tryz.underlying22 rfl rfl rfl) ?_)
      refine wx_three ?_ ?_ ?_
      · skip
        refine ks_e rfl (e_lit1 (cs := [_]) t128 rfl rfl rfl (by omega)) ?_
        rintro _ _ w7_7 ⟨b7_7, rfl, rfl⟩
        refine ⟨_, List.perm_middle.symm, ?_⟩
        refine wx_three ?_ ?_ ?_
        · skip
          refine ks_e rfl (e_appN 2 t128 rfl rfl rfl (fun w hh => Rd.held0 hh (i := 1) rfl) (by simp [Value.oneCell']) (by omega) (by omega)) ?_
          rintro _ _ w7_8 ⟨⟨U1, a1, rfl⟩, rfl⟩
          refine ⟨_, List.Perm.refl _, ?_⟩
          refine wx_two ?_ ?_
          · skip
            refine ks_e rfl (e_lit1 (cs := [_]) t22 rfl rfl rfl (by omega)) ?_
            rintro _ _ w7_13 ⟨b7_13, rfl, rfl⟩
            refine ⟨_, List.perm_middle.symm, ?_⟩
            refine wx_two ?_ ?_
            · skip
              refine ks_e rfl (e_appN 4 t22 rfl rfl rfl (fun w hh => Rd.held0 hh (i := 1) rfl) (by simp [Value.oneCell']) (by omega) (by omega)) ?_
              rintro _ _ w7_14 ⟨⟨N1, a2, rfl⟩, rfl⟩
              refine ⟨_, List.Perm.refl _, ?_⟩
              refine wx_ef ?_
              refine ks_e rfl (e_lit1 (cs := [_]) t22 rfl rfl rfl (by omega)) ?_
              rintro _ _ w7_19 ⟨b7_19, rfl, rfl⟩
              refine ⟨_, List.perm_middle.symm, ?_⟩
              refine wx_ef ?_
              refine ks_e rfl (e_appN 6 t22 rfl rfl rfl (fun w hh => Rd.held0 hh (i := 1) rfl) (by simp [Value.oneCell']) (by omega) (by omega)) ?_
              rintro _ _ w7_20 ⟨⟨P1, a3, rfl⟩, rfl⟩
              refine ⟨_, List.Perm.refl _, ?_⟩
              refine wx_f rfl (f_nilCheck rfl) ?_
              refine wx_f rfl (f_fieldAddr 4 rfl Tryz.underlying131 rfl rfl (by kernel_rfl)) ?_
              refine wx_ef ?_
              refine ks_e0 rfl (e_storeN 0 (us := [_]) rfl rfl rfl rfl (by kernel_rfl) (by simp [Value.oneCell']) rfl rfl) ?_
              rintro _ _ w7_23 rfl
              refine ⟨_, pick_perm [] _ rfl, ?_⟩
              refine wx_f rfl (f_nilCheck rfl) ?_
              refine wx_f rfl (f_fieldAddr 5 rfl Tryz.underlying131 rfl rfl (by kernel_rfl)) ?_
              refine wx_ef ?_
              refine ks_e0 rfl (e_storeN 0 (us := [_]) rfl rfl rfl rfl (by kernel_rfl) (by simp [Value.oneCell']) rfl rfl) ?_
              rintro _ _ w7_26 rfl
              refine ⟨_, List.Perm.refl _, ?_⟩
              refine wx_f rfl (f_nilCheck rfl) ?_
              refine wx_f rfl (f_fieldAddr 6 rfl Tryz.underlying131 rfl rfl (by kernel_rfl)) ?_
              refine wx_ef ?_
              refine ks_e0 rfl (e_storeN 0 (us := [_]) rfl rfl rfl rfl (by kernel_rfl) (by simp [Value.oneCell']) rfl rfl) ?_
              rintro _ _ w7_29 rfl
              refine ⟨_, List.Perm.refl _, ?_⟩
              refine wx_endp [(0, _)] [0, 3, 3, 3, 3] ⟨rfl, trivial⟩ rfl ?_
              exact ⟨U1, N1, P1, a1, a2, a3, rfl, by rw [bov_app, iv_app, iv_app]; rfl⟩
            · skip
              refine ks_e rfl (e_lit1 (cs := [_]) t22 rfl rfl rfl (by omega)) ?_
              rintro _ _ w7_19 ⟨b7_19, rfl, rfl⟩
              refine ⟨_, List.perm_middle.symm, ?_⟩
              refine wx_ef ?_
              refine ks_e rfl (e_appN 5 t22 rfl rfl rfl (fun w hh => Rd.held0 hh (i := 2) rfl) (by simp [Value.oneCell']) (by omega) (by omega)) ?_
              rintro _ _ w7_14 ⟨⟨N1, a2, rfl⟩, rfl⟩
              refine ⟨_, List.Perm.refl _, ?_⟩
              refine wx_ef ?_
              refine ks_e rfl (e_appN 6 t22 rfl rfl rfl (fun w hh => Rd.held0 hh (i := 1) rfl) (by simp [Value.oneCell']) (by omega) (by omega)) ?_
              rintro _ _ w7_20 ⟨⟨P1, a3, rfl⟩, rfl⟩
              refine ⟨_, List.Perm.refl _, ?_⟩
              refine wx_f rfl (f_nilCheck rfl) ?_
              refine wx_f rfl (f_fieldAddr 4 rfl Tryz.underlying131 rfl rfl (by kernel_rfl)) ?_
              refine wx_ef ?_
              refine ks_e0 rfl (e_storeN 0 (us := [_]) rfl rfl rfl rfl (by kernel_rfl) (by simp [Value.oneCell']) rfl rfl) ?_
              rintro _ _ w7_23 rfl
              refine ⟨_, pick_perm [] _ rfl, ?_⟩
              refine wx_f rfl (f_nilCheck rfl) ?_
              refine wx_f rfl (f_fieldAddr 5 rfl Tryz.underlying131 rfl rfl (by kernel_rfl)) ?_
              refine wx_ef ?_
              refine ks_e0 rfl (e_storeN 0 (us := [_]) rfl rfl rfl rfl (by kernel_rfl) (by simp [Value.oneCell']) rfl rfl) ?_
              rintro _ _ w7_26 rfl
              refine ⟨_, List.Perm.refl _, ?_⟩
              refine wx_f rfl (f_nilCheck rfl) ?_
              refine wx_f rfl (f_fieldAddr 6 rfl Tryz.underlying131 rfl rfl (by kernel_rfl)) ?_
              refine wx_ef ?_
              refine ks_e0 rfl (e_storeN 0 (us := [_]) rfl rfl rfl rfl (by kernel_rfl) (by simp [Value.oneCell']) rfl rfl) ?_
              rintro _ _ w7_29 rfl
              refine ⟨_, List.Perm.refl _, ?_⟩
              refine wx_endp [(0, _)] [0, 3, 3, 3, 3] ⟨rfl, trivial⟩ rfl ?_
              exact ⟨U1, N1, P1, a1, a2, a3, rfl, by rw [bov_app, iv_app, iv_app]; rfl⟩
          · skip
            refine ks_e rfl (e_lit1 (cs := [_]) t22 rfl rfl rfl (by omega)) ?_
            rintro _ _ w7_19 ⟨b7_19, rfl, rfl⟩
            refine ⟨_, List.perm_middle.symm, ?_⟩
            refine wx_ef ?_
            refine ks_e rfl (e_lit1 (cs := [_]) t22 rfl rfl rfl (by omega)) ?_
            rintro _ _ w7_13 ⟨b7_13, rfl, rfl⟩
            refine ⟨_, List.perm_middle.symm, ?_⟩
            refine wx_ef ?_
            refine ks_e rfl (e_appN 5 t22 rfl rfl rfl (fun w hh => Rd.held0 hh (i := 1) rfl) (by simp [Value.oneCell']) (by omega) (by omega)) ?_
            rintro _ _ w7_14 ⟨⟨N1, a2, rfl⟩, rfl⟩
            refine ⟨_, List.Perm.refl _, ?_⟩
            refine wx_ef ?_
            refine ks_e rfl (e_appN 6 t22 rfl rfl rfl (fun w hh => Rd.held0 hh (i := 2) rfl) (by simp [Value.oneCell']) (by omega) (by omega)) ?_
            rintro _ _ w7_20 ⟨⟨P1, a3, rfl⟩, rfl⟩
            refine ⟨_, List.Perm.refl _, ?_⟩
            refine wx_f rfl (f_nilCheck rfl) ?_
            refine wx_f rfl (f_fieldAddr 4 rfl Tryz.underlying131 rfl rfl (by kernel_rfl)) ?_
            refine wx_ef ?_
            refine ks_e0 rfl (e_storeN 0 (us := [_]) rfl rfl rfl rfl (by kernel_rfl) (by simp [Value.oneCell']) rfl rfl) ?_
            rintro _ _ w7_23 rfl
            refine ⟨_, pick_perm [] _ rfl, ?_⟩
            refine wx_f rfl (f_nilCheck rfl) ?_
            refine wx_f rfl (f_fieldAddr 5 rfl Tryz.underlying131 rfl rfl (by kernel_rfl)) ?_
            refine wx_ef ?_
            refine ks_e0 rfl (e_storeN 0 (us := [_]) rfl rfl rfl rfl (by kernel_rfl) (by simp [Value.oneCell']) rfl rfl) ?_
            rintro _ _ w7_26 rfl
            refine ⟨_, List.Perm.refl _, ?_⟩
            refine wx_f rfl (f_nilCheck rfl) ?_
            refine wx_f rfl (f_fieldAddr 6 rfl Tryz.underlying131 rfl rfl (by kernel_rfl)) ?_
            refine wx_ef ?_
            refine ks_e0 rfl (e_storeN 0 (us := [_]) rfl rfl rfl rfl (by kernel_rfl) (by simp [Value.oneCell']) rfl rfl) ?_
            rintro _ _ w7_29 rfl
            refine ⟨_, List.Perm.refl _, ?_⟩
            refine wx_endp [(0, _)] [0, 3, 3, 3, 3] ⟨rfl, trivial⟩ rfl ?_
            exact ⟨U1, N1, P1, a1, a2, a3, rfl, by rw [bov_app, iv_app, iv_app]; rfl⟩
        · skip
          refine ks_e rfl (e_lit1 (cs := [_]) t22 rfl rfl rfl (by omega)) ?_
          rintro _ _ w7_13 ⟨b7_13, rfl, rfl⟩
          refine ⟨_, List.perm_middle.symm, ?_⟩
          refine wx_two ?_ ?_
          · skip
            refine ks_e rfl (e_appN 3 t128 rfl rfl rfl (fun w hh => Rd.held0 hh (i := 2) rfl) (by simp [Value.oneCell']) (by omega) (by omega)) ?_
            rintro _ _ w7_8 ⟨⟨U1, a1, rfl⟩, rfl⟩
            refine ⟨_, List.Perm.refl _, ?_⟩
            refine wx_two ?_ ?_
            · skip
              refine ks_e rfl (e_appN 4 t22 rfl rfl rfl (fun w hh => Rd.held0 hh (i := 1) rfl) (by simp [Value.oneCell']) (by omega) (by omega)) ?_
              rintro _ _ w7_14 ⟨⟨N1, a2, rfl⟩, rfl⟩
              refine ⟨_, List.Perm.refl _, ?_⟩
              refine wx_ef ?_
              refine ks_e rfl (e_lit1 (cs := [_]) t22 rfl rfl rfl (by omega)) ?_
              rintro _ _ w7_19 ⟨b7_19, rfl, rfl⟩
              refine ⟨_, List.perm_middle.symm, ?_⟩
              refine wx_ef ?_
              refine ks_e rfl (e_appN 6 t22 rfl rfl rfl (fun w hh => Rd.held0 hh (i := 1) rfl) (by simp [Value.oneCell']) (by omega) (by omega)) ?_
              rintro _ _ w7_20 ⟨⟨P1, a3, rfl⟩, rfl⟩
              refine ⟨_, List.Perm.refl _, ?_⟩
              refine wx_f rfl (f_nilCheck rfl) ?_
              refine wx_f rfl (f_fieldAddr 4 rfl Tryz.underlying131 rfl rfl (by kernel_rfl)) ?_
              refine wx_ef ?_
              refine ks_e0 rfl (e_storeN 0 (us := [_]) rfl rfl rfl rfl (by kernel_rfl) (by simp [Value.oneCell']) rfl rfl) ?_
              rintro _ _ w7_23 rfl
              refine ⟨_, pick_perm [] _ rfl, ?_⟩
              refine wx_f rfl (f_nilCheck rfl) ?_
              refine wx_f rfl (f_fieldAddr 5 rfl Tryz.underlying131 rfl rfl (by kernel_rfl)) ?_
              refine wx_ef ?_
              refine ks_e0 rfl (e_storeN 0 (us := [_]) rfl rfl rfl rfl (by kernel_rfl) (by simp [Value.oneCell']) rfl rfl) ?_
              rintro _ _ w7_26 rfl
              refine ⟨_, List.Perm.refl _, ?_⟩
              refine wx_f rfl (f_nilCheck rfl) ?_
              refine wx_f rfl (f_fieldAddr 6 rfl Tryz.underlying131 rfl rfl (by kernel_rfl)) ?_
              refine wx_ef ?_
              refine ks_e0 rfl (e_storeN 0 (us := [_]) rfl rfl rfl rfl (by kernel_rfl) (by simp [Value.oneCell']) rfl rfl) ?_
              rintro _ _ w7_29 rfl
              refine ⟨_, List.Perm.refl _, ?_⟩
              refine wx_endp [(0, _)] [0, 3, 3, 3, 3] ⟨rfl, trivial⟩ rfl ?_
              exact ⟨U1, N1, P1, a1, a2, a3, rfl, by rw [bov_app, iv_app, iv_app]; rfl⟩
            · skip
              refine ks_e rfl (e_lit1 (cs := [_]) t22 rfl rfl rfl (by omega)) ?_
              rintro _ _ w7_19 ⟨b7_19, rfl, rfl⟩
              refine ⟨_, List.perm_middle.symm, ?_⟩
              refine wx_ef ?_
              refine ks_e rfl (e_appN 5 t22 rfl rfl rfl (fun w hh => Rd.held0 hh (i := 2) rfl) (by simp [Value.oneCell']) (by omega) (by omega)) ?_
              rintro _ _ w7_14 ⟨⟨N1, a2, rfl⟩, rfl⟩
              refine ⟨_, List.Perm.refl _, ?_⟩
              refine wx_ef ?_
              refine ks_e rfl (e_appN 6 t22 rfl rfl rfl (fun w hh => Rd.held0 hh (i := 1) rfl) (by simp [Value.oneCell']) (by omega) (by omega)) ?_
              rintro _ _ w7_20 ⟨⟨P1, a3, rfl⟩, rfl⟩
              refine ⟨_, List.Perm.refl _, ?_⟩
              refine wx_f rfl (f_nilCheck rfl) ?_
              refine wx_f rfl (f_fieldAddr 4 rfl Tryz.underlying131 rfl rfl (by kernel_rfl)) ?_
              refine wx_ef ?_
              refine ks_e0 rfl (e_storeN 0 (us := [_]) rfl rfl rfl rfl (by kernel_rfl) (by simp [Value.oneCell']) rfl rfl) ?_
              rintro _ _ w7_23 rfl
              refine ⟨_, pick_perm [] _ rfl, ?_⟩
              refine wx_f rfl (f_nilCheck rfl) ?_
              refine wx_f rfl (f_fieldAddr 5 rfl Tryz.underlying131 rfl rfl (by kernel_rfl)) ?_
              refine wx_ef ?_
              refine ks_e0 rfl (e_storeN 0 (us := [_]) rfl rfl rfl rfl (by kernel_rfl) (by simp [Value.oneCell']) rfl rfl) ?_
              rintro _ _ w7_26 rfl
              refine ⟨_, List.Perm.refl _, ?_⟩
              refine wx_f rfl (f_nilCheck rfl) ?_
              refine wx_f rfl (f_fieldAddr 6 rfl Tryz.underlying131 rfl rfl (by kernel_rfl)) ?_
              refine wx_ef ?_
              refine ks_e0 rfl (e_storeN 0 (us := [_]) rfl rfl rfl rfl (by kernel_rfl) (by simp [Value.oneCell']) rfl rfl) ?_
              rintro _ _ w7_29 rfl
              refine ⟨_, List.Perm.refl _, ?_⟩
              refine wx_endp [(0, _)] [0, 3, 3, 3, 3] ⟨rfl, trivial⟩ rfl ?_
              exact ⟨U1, N1, P1, a1, a2, a3, rfl, by rw [bov_app, iv_app, iv_app]; rfl⟩
          · skip
            refine ks_e rfl (e_lit1 (cs := [_]) t22 rfl rfl rfl (by omega)) ?_
            rintro _ _ w7_19 ⟨b7_19, rfl, rfl⟩
            refine ⟨_, List.perm_middle.symm, ?_⟩
            refine wx_ef ?_
            refine ks_e rfl (e_appN 4 t128 rfl rfl rfl (fun w hh => Rd.held0 hh (i := 3) rfl) (by simp [Value.oneCell']) (by omega) (by omega)) ?_
            rintro _ _ w7_8 ⟨⟨U1, a1, rfl⟩, rfl⟩
            refine ⟨_, List.Perm.refl _, ?_⟩
            refine wx_ef ?_
            refine ks_e rfl (e_appN 5 t22 rfl rfl rfl (fun w hh => Rd.held0 hh (i := 2) rfl) (by simp [Value.oneCell']) (by omega) (by omega)) ?_
            rintro _ _ w7_14 ⟨⟨N1, a2, rfl⟩, rfl⟩
            refine ⟨_, List.Perm.refl _, ?_⟩
            refine wx_ef ?_
            refine ks_e rfl (e_appN 6 t22 rfl rfl rfl (fun w hh => Rd.held0 hh (i := 1) rfl) (by simp [Value.oneCell']) (by omega) (by omega)) ?_
            rintro _ _ w7_20 ⟨⟨P1, a3, rfl⟩, rfl⟩
            refine ⟨_, List.Perm.refl _, ?_⟩
            refine wx_f rfl (f_nilCheck rfl) ?_
            refine wx_f rfl (f_fieldAddr 4 rfl Tryz.underlying131 rfl rfl (by kernel_rfl)) ?_
            refine wx_ef ?_
            refine ks_e0 rfl (e_storeN 0 (us := [_]) rfl rfl rfl rfl (by kernel_rfl) (by simp [Value.oneCell']) rfl rfl) ?_
            rintro _ _ w7_23 rfl
            refine ⟨_, pick_perm [] _ rfl, ?_⟩
            refine wx_f rfl (f_nilCheck rfl) ?_
            refine wx_f rfl (f_fieldAddr 5 rfl Tryz.underlying131 rfl rfl (by kernel_rfl)) ?_
            refine wx_ef ?_
            refine ks_e0 rfl (e_storeN 0 (us := [_]) rfl rfl rfl rfl (by kernel_rfl) (by simp [Value.oneCell']) rfl rfl) ?_
            rintro _ _ w7_26 rfl
            refine ⟨_, List.Perm.refl _, ?_⟩
            refine wx_f rfl (f_nilCheck rfl) ?_
            refine wx_f rfl (f_fieldAddr 6 rfl Tryz.underlying131 rfl rfl (by kernel_rfl)) ?_
            refine wx_ef ?_
            refine ks_e0 rfl (e_storeN 0 (us := [_]) rfl rfl rfl rfl (by kernel_rfl) (by simp [Value.oneCell']) rfl rfl) ?_
            rintro _ _ w7_29 rfl
            refine ⟨_, List.Perm.refl _, ?_⟩
            refine wx_endp [(0, _)] [0, 3, 3, 3, 3] ⟨rfl, trivial⟩ rfl ?_
            exact ⟨U1, N1, P1, a1, a2, a3, rfl, by rw [bov_app, iv_app, iv_app]; rfl⟩
        · skip
          refine ks_e rfl (e_lit1 (cs := [_]) t22 rfl rfl rfl (by omega)) ?_
          rintro _ _ w7_19 ⟨b7_19, rfl, rfl⟩
          refine ⟨_, List.perm_middle.symm, ?_⟩
          refine wx_two ?_ ?_
          · skip
            refine ks_e rfl (e_appN 3 t128 rfl rfl rfl (fun w hh => Rd.held0 hh (i := 2) rfl) (by simp [Value.oneCell']) (by omega) (by omega)) ?_
            rintro _ _ w7_8 ⟨⟨U1, a1, rfl⟩, rfl⟩
            refine ⟨_, List.Perm.refl _, ?_⟩
            refine wx_ef ?_
            refine ks_e rfl (e_lit1 (cs := [_]) t22 rfl rfl rfl (by omega)) ?_
            rintro _ _ w7_13 ⟨b7_13, rfl, rfl⟩
            refine ⟨_, List.perm_middle.symm, ?_⟩
            refine wx_ef ?_
            refine ks_e rfl (e_appN 5 t22 rfl rfl rfl (fun w hh => Rd.held0 hh (i := 1) rfl) (by simp [Value.oneCell']) (by omega) (by omega)) ?_
            rintro _ _ w7_14 ⟨⟨N1, a2, rfl⟩, rfl⟩
            refine ⟨_, List.Perm.refl _, ?_⟩
            refine wx_ef ?_
            refine ks_e rfl (e_appN 6 t22 rfl rfl rfl (fun w hh => Rd.held0 hh (i := 2) rfl) (by simp [Value.oneCell']) (by omega) (by omega)) ?_
            rintro _ _ w7_20 ⟨⟨P1, a3, rfl⟩, rfl⟩
            refine ⟨_, List.Perm.refl _, ?_⟩
            refine wx_f rfl (f_nilCheck rfl) ?_
            refine wx_f rfl (f_fieldAddr 4 rfl Tryz.underlying131 rfl rfl (by kernel_rfl)) ?_
            refine wx_ef ?_
            refine ks_e0 rfl (e_storeN 0 (us := [_]) rfl rfl rfl rfl (by kernel_rfl) (by simp [Value.oneCell']) rfl rfl) ?_
            rintro _ _ w7_23 rfl
            refine ⟨_, pick_perm [] _ rfl, ?_⟩
            refine wx_f rfl (f_nilCheck rfl) ?_
            refine wx_f rfl (f_fieldAddr 5 rfl Tryz.underlying131 rfl rfl (by kernel_rfl)) ?_
            refine wx_ef ?_
            refine ks_e0 rfl (e_storeN 0 (us := [_]) rfl rfl rfl rfl (by kernel_rfl) (by simp [Value.oneCell']) rfl rfl) ?_
            rintro _ _ w7_26 rfl
            refine ⟨_, List.Perm.refl _, ?_⟩
            refine wx_f rfl (f_nilCheck rfl) ?_
            refine wx_f rfl (f_fieldAddr 6 rfl Tryz.underlying131 rfl rfl (by kernel_rfl)) ?_
            refine wx_ef ?_
            refine ks_e0 rfl (e_storeN 0 (us := [_]) rfl rfl rfl rfl (by kernel_rfl) (by simp [Value.oneCell']) rfl rfl) ?_
            rintro _ _ w7_29 rfl
            refine ⟨_, List.Perm.refl _, ?_⟩
            refine wx_endp [(0, _)] [0, 3, 3, 3, 3] ⟨rfl, trivial⟩ rfl ?_
            exact ⟨U1, N1, P1, a1, a2, a3, rfl, by rw [bov_app, iv_app, iv_app]; rfl⟩
          · skip
            refine ks_e rfl (e_lit1 (cs := [_]) t22 rfl rfl rfl (by omega)) ?_
            rintro _ _ w7_13 ⟨b7_13, rfl, rfl⟩
            refine ⟨_, List.perm_middle.symm, ?_⟩
            refine wx_ef ?_
            refine ks_e rfl (e_appN 4 t128 rfl rfl rfl (fun w hh => Rd.held0 hh (i := 3) rfl) (by simp [Value.oneCell']) (by omega) (by omega)) ?_
            rintro _ _ w7_8 ⟨⟨U1, a1, rfl⟩, rfl⟩
            refine ⟨_, List.Perm.refl _, ?_⟩
            refine wx_ef ?_
            refine ks_e rfl (e_appN 5 t22 rfl rfl rfl (fun w hh => Rd.held0 hh (i := 1) rfl) (by simp [Value.oneCell']) (by omega) (by omega)) ?_
            rintro _ _ w7_14 ⟨⟨N1, a2, rfl⟩, rfl⟩
            refine ⟨_, List.Perm.refl _, ?_⟩
            refine wx_ef ?_
            refine ks_e rfl (e_appN 6 t22 rfl rfl rfl (fun w hh => Rd.held0 hh (i := 2) rfl) (by simp [Value.oneCell']) (by omega) (by omega)) ?_
            rintro _ _ w7_20 ⟨⟨P1, a3, rfl⟩, rfl⟩
            refine ⟨_, List.Perm.refl _, ?_⟩
            refine wx_f rfl (f_nilCheck rfl) ?_
            refine wx_f rfl (f_fieldAddr 4 rfl Tryz.underlying131 rfl rfl (by kernel_rfl)) ?_
            refine wx_ef ?_
            refine ks_e0 rfl (e_storeN 0 (us := [_]) rfl rfl rfl rfl (by kernel_rfl) (by simp [Value.oneCell']) rfl rfl) ?_
            rintro _ _ w7_23 rfl
            refine ⟨_, pick_perm [] _ rfl, ?_⟩
            refine wx_f rfl (f_nilCheck rfl) ?_
            refine wx_f rfl (f_fieldAddr 5 rfl Tryz.underlying131 rfl rfl (by kernel_rfl)) ?_
            refine wx_ef ?_
            refine ks_e0 rfl (e_storeN 0 (us := [_]) rfl rfl rfl rfl (by kernel_rfl) (by simp [Value.oneCell']) rfl rfl) ?_
            rintro _ _ w7_26 rfl
            refine ⟨_, List.Perm.refl _, ?_⟩
            refine wx_f rfl (f_nilCheck rfl) ?_
            refine wx_f rfl (f_fieldAddr 6 rfl Tryz.underlying131 rfl rfl (by kernel_rfl)) ?_
            refine wx_ef ?_
            refine ks_e0 rfl (e_storeN 0 (us := [_]) rfl rfl rfl rfl (by kernel_rfl) (by simp [Value.oneCell']) rfl rfl) ?_
            rintro _ _ w7_29 rfl
            refine ⟨_, List.Perm.refl _, ?_⟩
            refine wx_endp [(0, _)] [0, 3, 3, 3, 3] ⟨rfl, trivial⟩ rfl ?_
            exact ⟨U1, N1, P1, a1, a2, a3, rfl, by rw [bov_app, iv_app, iv_app]; rfl⟩
      · skip
        refine ks_e rfl (e_lit1 (cs := [_]) t22 rfl rfl rfl (by omega)) ?_
        rintro _ _ w7_13 ⟨b7_13, rfl, rfl⟩
        refine ⟨_, List.perm_middle.symm, ?_⟩
        refine wx_two ?_ ?_
        · skip
          refine ks_e rfl (e_lit1 (cs := [_]) t128 rfl rfl rfl (by omega)) ?_
          rintro _ _ w7_7 ⟨b7_7, rfl, rfl⟩
          refine ⟨_, List.perm_middle.symm, ?_⟩
          refine wx_two ?_ ?_
          · skip
            refine ks_e rfl (e_appN 3 t128 rfl rfl rfl (fun w hh => Rd.held0 hh (i := 1) rfl) (by simp [Value.oneCell']) (by omega) (by omega)) ?_
            rintro _ _ w7_8 ⟨⟨U1, a1, rfl⟩, rfl⟩
            refine ⟨_, List.Perm.refl _, ?_⟩
            refine wx_two ?_ ?_
            · skip
              refine ks_e rfl (e_appN 4 t22 rfl rfl rfl (fun w hh => Rd.held0 hh (i := 2) rfl) (by simp [Value.oneCell']) (by omega) (by omega)) ?_
              rintro _ _ w7_14 ⟨⟨N1, a2, rfl⟩, rfl⟩
              refine ⟨_, List.Perm.refl _, ?_⟩
              refine wx_ef ?_
              refine ks_e rfl (e_lit1 (cs := [_]) t22 rfl rfl rfl (by omega)) ?_
              rintro _ _ w7_19 ⟨b7_19, rfl, rfl⟩
              refine ⟨_, List.perm_middle.symm, ?_⟩
              refine wx_ef ?_
              refine ks_e rfl (e_appN 6 t22 rfl rfl rfl (fun w hh => Rd.held0 hh (i := 1) rfl) (by simp [Value.oneCell']) (by omega) (by omega)) ?_
              rintro _ _ w7_20 ⟨⟨P1, a3, rfl⟩, rfl⟩
              refine ⟨_, List.Perm.refl _, ?_⟩
              refine wx_f rfl (f_nilCheck rfl) ?_
              refine wx_f rfl (f_fieldAddr 4 rfl Tryz.underlying131 rfl rfl (by kernel_rfl)) ?_
              refine wx_ef ?_
              refine ks_e0 rfl (e_storeN 0 (us := [_]) rfl rfl rfl rfl (by kernel_rfl) (by simp [Value.oneCell']) rfl rfl) ?_
              rintro _ _ w7_23 rfl
              refine ⟨_, pick_perm [] _ rfl, ?_⟩
              refine wx_f rfl (f_nilCheck rfl) ?_
              refine wx_f rfl (f_fieldAddr 5 rfl Tryz.underlying131 rfl rfl (by kernel_rfl)) ?_
              refine wx_ef ?_
              refine ks_e0 rfl (e_storeN 0 (us := [_]) rfl rfl rfl rfl (by kernel_rfl) (by simp [Value.oneCell']) rfl rfl) ?_
              rintro _ _ w7_26 rfl
              refine ⟨_, List.Perm.refl _, ?_⟩
              refine wx_f rfl (f_nilCheck rfl) ?_
              refine wx_f rfl (f_fieldAddr 6 rfl Tryz.underlying131 rfl rfl (by kernel_rfl)) ?_
              refine wx_ef ?_
              refine ks_e0 rfl (e_storeN 0 (us := [_]) rfl rfl rfl rfl (by kernel_rfl) (by simp [Value.oneCell']) rfl rfl) ?_
              rintro _ _ w7_29 rfl
              refine ⟨_, List.Perm.refl _, ?_⟩
              refine wx_endp [(0, _)] [0, 3, 3, 3, 3] ⟨rfl, trivial⟩ rfl ?_
              exact ⟨U1, N1, P1, a1, a2, a3, rfl, by rw [bov_app, iv_app, iv_app]; rfl⟩
            · skip
              refine ks_e rfl (e_lit1 (cs := [_]) t22 rfl rfl rfl (by omega)) ?_
              rintro _ _ w7_19 ⟨b7_19, rfl, rfl⟩
              refine ⟨_, List.perm_middle.symm, ?_⟩
              refine wx_ef ?_
              refine ks_e rfl (e_appN 5 t22 rfl rfl rfl (fun w hh => Rd.held0 hh (i := 3) rfl) (by simp [Value.oneCell']) (by omega) (by omega)) ?_
              rintro _ _ w7_14 ⟨⟨N1, a2, rfl⟩, rfl⟩
              refine ⟨_, List.Perm.refl _, ?_⟩
              refine wx_ef ?_
              refine ks_e rfl (e_appN 6 t22 rfl rfl rfl (fun w hh => Rd.held0 hh (i := 1) rfl) (by simp [Value.oneCell']) (by omega) (by omega)) ?_
              rintro _ _ w7_20 ⟨⟨P1, a3, rfl⟩, rfl⟩
              refine ⟨_, List.Perm.refl _, ?_⟩
              refine wx_f rfl (f_nilCheck rfl) ?_
              refine wx_f rfl (f_fieldAddr 4 rfl Tryz.underlying131 rfl rfl (by kernel_rfl)) ?_
              refine wx_ef ?_
              refine ks_e0 rfl (e_storeN 0 (us := [_]) rfl rfl rfl rfl (by kernel_rfl) (by simp [Value.oneCell']) rfl rfl) ?_
              rintro _ _ w7_23 rfl
              refine ⟨_, pick_perm [] _ rfl, ?_⟩
              refine wx_f rfl (f_nilCheck rfl) ?_
              refine wx_f rfl (f_fieldAddr 5 rfl Tryz.underlying131 rfl rfl (by kernel_rfl)) ?_
              refine wx_ef ?_
              refine ks_e0 rfl (e_storeN 0 (us := [_]) rfl rfl rfl rfl (by kernel_rfl) (by simp [Value.oneCell']) rfl rfl) ?_
              rintro _ _ w7_26 rfl
              refine ⟨_, List.Perm.refl _, ?_⟩
              refine wx_f rfl (f_nilCheck rfl) ?_
              refine wx_f rfl (f_fieldAddr 6 rfl Tryz.underlying131 rfl rfl (by kernel_rfl)) ?_
              refine wx_ef ?_
              refine ks_e0 rfl (e_storeN 0 (us := [_]) rfl rfl rfl rfl (by kernel_rfl) (by simp [Value.oneCell']) rfl rfl) ?_
              rintro _ _ w7_29 rfl
              refine ⟨_, List.Perm.refl _, ?_⟩
              refine wx_endp [(0, _)] [0, 3, 3, 3, 3] ⟨rfl, trivial⟩ rfl ?_
              exact ⟨U1, N1, P1, a1, a2, a3, rfl, by rw [bov_app, iv_app, iv_app]; rfl⟩
          · skip
            refine ks_e rfl (e_lit1 (cs := [_]) t22 rfl rfl rfl (by omega)) ?_
            rintro _ _ w7_19 ⟨b7_19, rfl, rfl⟩
            refine ⟨_, List.perm_middle.symm, ?_⟩
            refine wx_ef ?_
            refine ks_e rfl (e_appN 4 t128 rfl rfl rfl (fun w hh => Rd.held0 hh (i := 2) rfl) (by simp [Value.oneCell']) (by omega) (by omega)) ?_
            rintro _ _ w7_8 ⟨⟨U1, a1, rfl⟩, rfl⟩
            refine ⟨_, List.Perm.refl _, ?_⟩
            refine wx_ef ?_
            refine ks_e rfl (e_appN 5 t22 rfl rfl rfl (fun w hh => Rd.held0 hh (i := 3) rfl) (by simp [Value.oneCell']) (by omega) (by omega)) ?_
            rintro _ _ w7_14 ⟨⟨N1, a2, rfl⟩, rfl⟩
            refine ⟨_, List.Perm.refl _, ?_⟩
            refine wx_ef ?_
            refine ks_e rfl (e_appN 6 t22 rfl rfl rfl (fun w hh => Rd.held0 hh (i := 1) rfl) (by simp [Value.oneCell']) (by omega) (by omega)) ?_
            rintro _ _ w7_20 ⟨⟨P1, a3, rfl⟩, rfl⟩
            refine ⟨_, List.Perm.refl _, ?_⟩
            refine wx_f rfl (f_nilCheck rfl) ?_
            refine wx_f rfl (f_fieldAddr 4 rfl Tryz.underlying131 rfl rfl (by kernel_rfl)) ?_
            refine wx_ef ?_
            refine ks_e0 rfl (e_storeN 0 (us := [_]) rfl rfl rfl rfl (by kernel_rfl) (by simp [Value.oneCell']) rfl rfl) ?_
            rintro _ _ w7_23 rfl
            refine ⟨_, pick_perm [] _ rfl, ?_⟩
            refine wx_f rfl (f_nilCheck rfl) ?_
            refine wx_f rfl (f_fieldAddr 5 rfl Tryz.underlying131 rfl rfl (by kernel_rfl)) ?_
            refine wx_ef ?_
            refine ks_e0 rfl (e_storeN 0 (us := [_]) rfl rfl rfl rfl (by kernel_rfl) (by simp [Value.oneCell']) rfl rfl) ?_
            rintro _ _ w7_26 rfl
            refine ⟨_, List.Perm.refl _, ?_⟩
            refine wx_f rfl (f_nilCheck rfl) ?_
            refine wx_f rfl (f_fieldAddr 6 rfl Tryz.underlying131 rfl rfl (by kernel_rfl)) ?_
            refine wx_ef ?_
            refine ks_e0 rfl (e_storeN 0 (us := [_]) rfl rfl rfl rfl (by kernel_rfl) (by simp [Value.oneCell']) rfl rfl) ?_
            rintro _ _ w7_29 rfl
            refine ⟨_, List.Perm.refl _, ?_⟩
            refine wx_endp [(0, _)] [0, 3, 3, 3, 3] ⟨rfl, trivial⟩ rfl ?_
            exact ⟨U1, N1, P1, a1, a2, a3, rfl, by rw [bov_app, iv_app, iv_app]; rfl⟩
        · skip
          refine ks_e rfl (e_lit1 (cs := [_]) t22 rfl rfl rfl (by omega)) ?_
          rintro _ _ w7_19 ⟨b7_19, rfl, rfl⟩
          refine ⟨_, List.perm_middle.symm, ?_⟩
          refine wx_ef ?_
          refine ks_e rfl (e_lit1 (cs := [_]) t128 rfl rfl rfl (by omega)) ?_
          rintro _ _ w7_7 ⟨b7_7, rfl, rfl⟩
          refine ⟨_, List.perm_middle.symm, ?_⟩
          refine wx_ef ?_
          refine ks_e rfl (e_appN 4 t128 rfl rfl rfl (fun w hh => Rd.held0 hh (i := 1) rfl) (by simp [Value.oneCell']) (by omega) (by omega)) ?_
          rintro _ _ w7_8 ⟨⟨U1, a1, rfl⟩, rfl⟩
          refine ⟨_, List.Perm.refl _, ?_⟩
          refine wx_ef ?_
          refine ks_e rfl (e_appN 5 t22 rfl rfl rfl (fun w hh => Rd.held0 hh (i := 3) rfl) (by simp [Value.oneCell']) (by omega) (by omega)) ?_
          rintro _ _ w7_14 ⟨⟨N1, a2, rfl⟩, rfl⟩
          refine ⟨_, List.Perm.refl _, ?_⟩
          refine wx_ef ?_
          refine ks_e rfl (e_appN 6 t22 rfl rfl rfl (fun w hh => Rd.held0 hh (i := 2) rfl) (by simp [Value.oneCell']) (by omega) (by omega)) ?_
          rintro _ _ w7_20 ⟨⟨P1, a3, rfl⟩, rfl⟩
          refine ⟨_, List.Perm.refl _, ?_⟩
          refine wx_f rfl (f_nilCheck rfl) ?_
          refine wx_f rfl (f_fieldAddr 4 rfl Tryz.underlying131 rfl rfl (by kernel_rfl)) ?_
          refine wx_ef ?_
          refine ks_e0 rfl (e_storeN 0 (us := [_]) rfl rfl rfl rfl (by kernel_rfl) (by simp [Value.oneCell']) rfl rfl) ?_
          rintro _ _ w7_23 rfl
          refine ⟨_, pick_perm [] _ rfl, ?_⟩
          refine wx_f rfl (f_nilCheck rfl) ?_
          refine wx_f rfl (f_fieldAddr 5 rfl Tryz.underlying131 rfl rfl (by kernel_rfl)) ?_
          refine wx_ef ?_
          refine ks_e0 rfl (e_storeN 0 (us := [_]) rfl rfl rfl rfl (by kernel_rfl) (by simp [Value.oneCell']) rfl rfl) ?_
          rintro _ _ w7_26 rfl
          refine ⟨_, List.Perm.refl _, ?_⟩
          refine wx_f rfl (f_nilCheck rfl) ?_
          refine wx_f rfl (f_fieldAddr 6 rfl Tryz.underlying131 rfl rfl (by kernel_rfl)) ?_
          refine wx_ef ?_
          refine ks_e0 rfl (e_storeN 0 (us := [_]) rfl rfl rfl rfl (by kernel_rfl) (by simp [Value.oneCell']) rfl rfl) ?_
          rintro _ _ w7_29 rfl
          refine ⟨_, List.Perm.refl _, ?_⟩
          refine wx_endp [(0, _)] [0, 3, 3, 3, 3] ⟨rfl, trivial⟩ rfl ?_
          exact ⟨U1, N1, P1, a1, a2, a3, rfl, by rw [bov_app, iv_app, iv_app]; rfl⟩
      · skip
        refine ks_e rfl (e_lit1 (cs := [_]) t22 rfl rfl rfl (by omega)) ?_
        rintro _ _ w7_19 ⟨b7_19, rfl, rfl⟩
        refine ⟨_, List.perm_middle.symm, ?_⟩
        refine wx_two ?_ ?_
        · skip
          refine ks_e rfl (e_lit1 (cs := [_]) t128 rfl rfl rfl (by omega)) ?_
          rintro _ _ w7_7 ⟨b7_7, rfl, rfl⟩
          refine ⟨_, List.perm_middle.symm, ?_⟩
          refine wx_two ?_ ?_
          · skip
            refine ks_e rfl (e_appN 3 t128 rfl rfl rfl (fun w hh => Rd.held0 hh (i := 1) rfl) (by simp [Value.oneCell']) (by omega) (by omega)) ?_
            rintro _ _ w7_8 ⟨⟨U1, a1, rfl⟩, rfl⟩
            refine ⟨_, List.Perm.refl _, ?_⟩
            refine wx_ef ?_
            refine ks_e rfl (e_lit1 (cs := [_]) t22 rfl rfl rfl (by omega)) ?_
            rintro _ _ w7_13 ⟨b7_13, rfl, rfl⟩
            refine ⟨_, List.perm_middle.symm, ?_⟩
            refine wx_ef ?_
            refine ks_e rfl (e_appN 5 t22 rfl rfl rfl (fun w hh => Rd.held0 hh (i := 1) rfl) (by simp [Value.oneCell']) (by omega) (by omega)) ?_
            rintro _ _ w7_14 ⟨⟨N1, a2, rfl⟩, rfl⟩
            refine ⟨_, List.Perm.refl _, ?_⟩
            refine wx_ef ?_
            refine ks_e rfl (e_appN 6 t22 rfl rfl rfl (fun w hh => Rd.held0 hh (i := 3) rfl) (by simp [Value.oneCell']) (by omega) (by omega)) ?_
            rintro _ _ w7_20 ⟨⟨P1, a3, rfl⟩, rfl⟩
            refine ⟨_, List.Perm.refl _, ?_⟩
            refine wx_f rfl (f_nilCheck rfl) ?_
            refine wx_f rfl (f_fieldAddr 4 rfl Tryz.underlying131 rfl rfl (by kernel_rfl)) ?_
            refine wx_ef ?_
            refine ks_e0 rfl (e_storeN 0 (us := [_]) rfl rfl rfl rfl (by kernel_rfl) (by simp [Value.oneCell']) rfl rfl) ?_
            rintro _ _ w7_23 rfl
            refine ⟨_, pick_perm [] _ rfl, ?_⟩
            refine wx_f rfl (f_nilCheck rfl) ?_
            refine wx_f rfl (f_fieldAddr 5 rfl Tryz.underlying131 rfl rfl (by kernel_rfl)) ?_
            refine wx_ef ?_
            refine ks_e0 rfl (e_storeN 0 (us := [_]) rfl rfl rfl rfl (by kernel_rfl) (by simp [Value.oneCell']) rfl rfl) ?_
            rintro _ _ w7_26 rfl
            refine ⟨_, List.Perm.refl _, ?_⟩
            refine wx_f rfl (f_nilCheck rfl) ?_
            refine wx_f rfl (f_fieldAddr 6 rfl Tryz.underlying131 rfl rfl (by kernel_rfl)) ?_
            refine wx_ef ?_
            refine ks_e0 rfl (e_storeN 0 (us := [_]) rfl rfl rfl rfl (by kernel_rfl) (by simp [Value.oneCell']) rfl rfl) ?_
            rintro _ _ w7_29 rfl
            refine ⟨_, List.Perm.refl _, ?_⟩
            refine wx_endp [(0, _)] [0, 3, 3, 3, 3] ⟨rfl, trivial⟩ rfl ?_
            exact ⟨U1, N1, P1, a1, a2, a3, rfl, by rw [bov_app, iv_app, iv_app]; rfl⟩
          · skip
            refine ks_e rfl (e_lit1 (cs := [_]) t22 rfl rfl rfl (by omega)) ?_
            rintro _ _ w7_13 ⟨b7_13, rfl, rfl⟩
            refine ⟨_, List.perm_middle.symm, ?_⟩
            refine wx_ef ?_
            refine ks_e rfl (e_appN 4 t128 rfl rfl rfl (fun w hh => Rd.held0 hh (i := 2) rfl) (by simp [Value.oneCell']) (by omega) (by omega)) ?_
            rintro _ _ w7_8 ⟨⟨U1, a1, rfl⟩, rfl⟩
            refine ⟨_, List.Perm.refl _, ?_⟩
            refine wx_ef ?_
            refine ks_e rfl (e_appN 5 t22 rfl rfl rfl (fun w hh => Rd.held0 hh (i := 1) rfl) (by simp [Value.oneCell']) (by omega) (by omega)) ?_
            rintro _ _ w7_14 ⟨⟨N1, a2, rfl⟩, rfl⟩
            refine ⟨_, List.Perm.refl _, ?_⟩
            refine wx_ef ?_
            refine ks_e rfl (e_appN 6 t22 rfl rfl rfl (fun w hh => Rd.held0 hh (i := 3) rfl) (by simp [Value.oneCell']) (by omega) (by omega)) ?_
            rintro _ _ w7_20 ⟨⟨P1, a3, rfl⟩, rfl⟩
            refine ⟨_, List.Perm.refl _, ?_⟩
            refine wx_f rfl (f_nilCheck rfl) ?_
            refine wx_f rfl (f_fieldAddr 4 rfl Tryz.underlying131 rfl rfl (by kernel_rfl)) ?_
            refine wx_ef ?_
            refine ks_e0 rfl (e_storeN 0 (us := [_]) rfl rfl rfl rfl (by kernel_rfl) (by simp [Value.oneCell']) rfl rfl) ?_
            rintro _ _ w7_23 rfl
            refine ⟨_, pick_perm [] _ rfl, ?_⟩
            refine wx_f rfl (f_nilCheck rfl) ?_
            refine wx_f rfl (f_fieldAddr 5 rfl Tryz.underlying131 rfl rfl (by kernel_rfl)) ?_
            refine wx_ef ?_
            refine ks_e0 rfl (e_storeN 0 (us := [_]) rfl rfl rfl rfl (by kernel_rfl) (by simp [Value.oneCell']) rfl rfl) ?_
            rintro _ _ w7_26 rfl
            refine ⟨_, List.Perm.refl _, ?_⟩
            refine wx_f rfl (f_nilCheck rfl) ?_
            refine wx_f rfl (f_fieldAddr 6 rfl Tryz.underlying131 rfl rfl (by kernel_rfl)) ?_
            refine wx_ef ?_
            refine ks_e0 rfl (e_storeN 0 (us := [_]) rfl rfl rfl rfl (by kernel_rfl) (by simp [Value.oneCell']) rfl rfl) ?_
            rintro _ _ w7_29 rfl
            refine ⟨_, List.Perm.refl _, ?_⟩
            refine wx_endp [(0, _)] [0, 3, 3, 3, 3] ⟨rfl, trivial⟩ rfl ?_
            exact ⟨U1, N1, P1, a1, a2, a3, rfl, by rw [bov_app, iv_app, iv_app]; rfl⟩
        · skip
          refine ks_e rfl (e_lit1 (cs := [_]) t22 rfl rfl rfl (by omega)) ?_
          rintro _ _ w7_13 ⟨b7_13, rfl, rfl⟩
          refine ⟨_, List.perm_middle.symm, ?_⟩
          refine wx_ef ?_
          refine ks_e rfl (e_lit1 (cs := [_]) t128 rfl rfl rfl (by omega)) ?_
          rintro _ _ w7_7 ⟨b7_7, rfl, rfl⟩
          refine ⟨_, List.perm_middle.symm, ?_⟩
          refine wx_ef ?_
          refine ks_e rfl (e_appN 4 t128 rfl rfl rfl (fun w hh => Rd.held0 hh (i := 1) rfl) (by simp [Value.oneCell']) (by omega) (by omega)) ?_
          rintro _ _ w7_8 ⟨⟨U1, a1, rfl⟩, rfl⟩
          refine ⟨_, List.Perm.refl _, ?_⟩
          refine wx_ef ?_
          refine ks_e rfl (e_appN 5 t22 rfl rfl rfl (fun w hh => Rd.held0 hh (i := 2) rfl) (by simp [Value.oneCell']) (by omega) (by omega)) ?_
          rintro _ _ w7_14 ⟨⟨N1, a2, rfl⟩, rfl⟩
          refine ⟨_, List.Perm.refl _, ?_⟩
          refine wx_ef ?_
          refine ks_e rfl (e_appN 6 t22 rfl rfl rfl (fun w hh => Rd.held0 hh (i := 3) rfl) (by simp [Value.oneCell']) (by omega) (by omega)) ?_
          rintro _ _ w7_20 ⟨⟨P1, a3, rfl⟩, rfl⟩
          refine ⟨_, List.Perm.refl _, ?_⟩
          refine wx_f rfl (f_nilCheck rfl) ?_
          refine wx_f rfl (f_fieldAddr 4 rfl Tryz.underlying131 rfl rfl (by kernel_rfl)) ?_
          refine wx_ef ?_
          refine ks_e0 rfl (e_storeN 0 (us := [_]) rfl rfl rfl rfl (by kernel_rfl) (by simp [Value.oneCell']) rfl rfl) ?_
          rintro _ _ w7_23 rfl
          refine ⟨_, pick_perm [] _ rfl, ?_⟩
          refine wx_f rfl (f_nilCheck rfl) ?_
          refine wx_f rfl (f_fieldAddr 5 rfl Tryz.underlying131 rfl rfl (by kernel_rfl)) ?_
          refine wx_ef ?_
          refine ks_e0 rfl (e_storeN 0 (us := [_]) rfl rfl rfl rfl (by kernel_rfl) (by simp [Value.oneCell']) rfl rfl) ?_
          rintro _ _ w7_26 rfl
          refine ⟨_, List.Perm.refl _, ?_⟩
          refine wx_f rfl (f_nilCheck rfl) ?_
          refine wx_f rfl (f_fieldAddr 6 rfl Tryz.underlying131 rfl rfl (by kernel_rfl)) ?_
          refine wx_ef ?_
          refine ks_e0 rfl (e_storeN 0 (us := [_]) rfl rfl rfl rfl (by kernel_rfl) (by simp [Value.oneCell']) rfl rfl) ?_
          rintro _ _ w7_29 rfl
          refine ⟨_, List.Perm.refl _, ?_⟩
          refine wx_endp [(0, _)] [0, 3, 3, 3, 3] ⟨rfl, trivial⟩ rfl ?_
          exact ⟨U1, N1, P1, a1, a2, a3, rfl, by rw [bov_app, iv_app, iv_app]; rfl⟩
    rintro _ _ w7_ ⟨U1, N1, P1, a1, a2, a3, rfl, rfl⟩
    refine w_seq ?_
    refine w_drawk [(0, true), (1, true), (2, true), (3, true), (4, true), (5, false), (6, true), (7, false), (8, false), (9, false), (10, true), (11, true), (12, false)] ([(_, some 12)]) ([_, _, _, _]) mixed (by kernel_rfl) (by kernel_rfl) rfl rfl (List.Perm.refl _) (fun w8_ => ?_)
    refine wk_f rfl (f_move rfl) ?_
    refine wk_f rfl (f_move rfl) ?_
    refine wk_f rfl (f_nilCheck rfl) ?_
    refine wk_f rfl (f_fieldAddr 7 rfl Tryz.underlying131 rfl rfl (by kernel_rfl)) ?_
    (first | refine wk_f rfl (f_loadb 0 rfl Tryz.underlying129 rfl rfl rfl) ?_ | refine wk_f rfl (f_loadb 1 rfl Tryz.underlying129 rfl rfl rfl) ?_ | refine wk_f rfl (f_loadb 2 rfl Tryz.underlying129 rfl rfl rfl) ?_ | refine wk_f rfl (f_loadb 3 rfl Tryz.underlying129 rfl rfl rfl) ?_ | refine wk_f rfl (f_loadb 4 rfl Tryz.underlying129 rfl rfl rfl) ?_ | refine wk_f rfl (f_loadb 5 rfl Tryz.underlying129 rfl rfl rfl) ?_ | refine wk_f rfl (f_loadb 6 rfl Tryz.underlying129 rfl rfl rfl) ?_)
    refine wk_e rfl (e_allocs [.int .u64 0, .pointer .none] (by kernel_rfl)) ?_
    rintro _ _ w8_5 ⟨b8_5, rfl, rfl⟩
    refine ⟨_, List.perm_middle.symm, ?_⟩
    refine wk_f rfl (f_nilCheck rfl) ?_
    (first | refine wk_e rfl (f_loadsb (cs := [_, _]) 0 rfl Tryz.underlying116 rfl (by kernel_rfl) rfl rfl).eff ?_ | refine wk_e rfl (f_loadsb (cs := [_, _]) 1 rfl Tryz.underlying116 rfl (by kernel_rfl) rfl rfl).eff ?_ | refine wk_e rfl (f_loadsb (cs := [_, _]) 2 rfl Tryz.underlying116 rfl (by kernel_rfl) rfl rfl).eff ?_ | refine wk_e rfl (f_loadsb (cs := [_, _]) 3 rfl Tryz.underlying116 rfl (by kernel_rfl) rfl rfl).eff ?_ | refine wk_e rfl (f_loadsb (cs := [_, _]) 4 rfl Tryz.underlying116 rfl (by kernel_rfl) rfl rfl).eff ?_ | refine wk_e rfl (f_loadsb (cs := [_, _]) 5 rfl Tryz.underlying116 rfl (by kernel_rfl) rfl rfl).eff ?_ | refine wk_e rfl (f_loadsb (cs := [_, _]) 6 rfl Tryz.underlying116 rfl (by kernel_rfl) rfl rfl).eff ?_)
    rintro _ _ _ ⟨rfl, rfl⟩
    refine ⟨_, List.Perm.refl _, ?_⟩
    refine wk_e rfl (e_lit1 (cs := [_, _]) t129 rfl rfl rfl (by omega)) ?_
    rintro _ _ w8_8 ⟨b8_8, rfl, rfl⟩
    refine ⟨_, List.perm_middle.symm, ?_⟩
    refine wk_e rfl (e_appN 6 t129 rfl rfl rfl (fun w hh => Rd.held0 hh (i := 1) rfl) (by simp [Value.oneCell']) (by omega) (by omega)) ?_
    rintro _ _ w8_9 ⟨⟨V1, a4, rfl⟩, rfl⟩
    refine ⟨_, List.Perm.refl _, ?_⟩
    refine wk_f rfl (f_nilCheck rfl) ?_
    refine wk_f rfl (f_fieldAddr 7 rfl Tryz.underlying131 rfl rfl (by kernel_rfl)) ?_
    (first | refine wk_e0 rfl (e_store0 (us := [_]) rfl rfl rfl (by kernel_rfl) (by simp [Value.oneCell']) rfl rfl) ?_ | refine wk_e0 rfl (e_store1 (us := [_]) rfl rfl rfl (by kernel_rfl) (by simp [Value.oneCell']) rfl rfl) ?_ | refine wk_e0 rfl (e_store2 (us := [_]) rfl rfl rfl (by kernel_rfl) (by simp [Value.oneCell']) rfl rfl) ?_ | refine wk_e0 rfl (e_store3 (us := [_]) rfl rfl rfl (by kernel_rfl) (by simp [Value.oneCell']) rfl rfl) ?_)
    rintro _ _ w8_12 rfl
    refine ⟨_, List.Perm.refl _, ?_⟩
    refine wk_endp [(0, _)] [0, 2, 2, 2, 2] ⟨rfl, trivial⟩ rfl ?_
    refine w_seq ?_
    refine w_reg ?_
    refine wl_f (f_move rfl) ?_
    refine wl_f (f_nilCheck rfl) ?_
    refine wl_f (f_fieldAddr 4 rfl Tryz.underlying131 rfl rfl (by kernel_rfl)) ?_
    (first | refine wl_f (f_loadb 0 rfl Tryz.underlying128 rfl rfl rfl) ?_ | refine wl_f (f_loadb 1 rfl Tryz.underlying128 rfl rfl rfl) ?_ | refine wl_f (f_loadb 2 rfl Tryz.underlying128 rfl rfl rfl) ?_ | refine wl_f (f_loadb 3 rfl Tryz.underlying128 rfl rfl rfl) ?_ | refine wl_f (f_loadb 4 rfl Tryz.underlying128 rfl rfl rfl) ?_ | refine wl_f (f_loadb 5 rfl Tryz.underlying128 rfl rfl rfl) ?_ | refine wl_f (f_loadb 6 rfl Tryz.underlying128 rfl rfl rfl) ?_)
    refine wl_f (f_len rfl Tryz.underlying128) ?_
    refine wl_f (f_sub rfl rfl (by omega)) ?_
    refine wl_f (f_assign rfl) ?_
    refine wl_end [(2, _)] ⟨rfl, trivial⟩ ?_
    refine w_bun (H := []) [_, _, _, _, _] ?_
    refine w_ret ?_
    refine ⟨_, _, fun a ha hh => results_tmps Tryz.results136 rfl a ha _, List.Sublist.refl _, ?_⟩
    refine ⟨used.length, _, ?_, rfl, .slice U1 (used.length + 1) a1, .slice N1 (used.length + 1) a2, .slice P1 (used.length + 1) a3, .slice V1 (used.length + 1) a4, used ++ [false], nx ++ [-1], pv ++ [-1], vs ++ [(kBuc).zero], ?_, hc.more (by omega) _ _ _, by simp, hc.fresh (by simp) hall⟩
    · show Value.int .i64 _ = _
      congr 1
      omega
    · rw [chs, List.length_append, vc_app]; rfl
end Go.Proofs.YtmagdjlcckgkpaaGreat
