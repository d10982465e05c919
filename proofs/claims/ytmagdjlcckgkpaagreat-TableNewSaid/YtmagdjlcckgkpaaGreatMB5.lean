/- Texts of this proof, part MB5: what the code does, step by step. They have no conditions. -/
import Derived.Test.YtmagdjlcckgkpaaGreatMB4
/- Linked lists: a free place; a new node. -/
namespace Go.Proofs.YtmagdjlcckgkpaaGreat
open Go.RowKit

/-- A list in which the node x is free. -/
def ChF {α : Type} (K : VK α) (b n : Nat) (l : List (Nat × α)) (x : Nat) (r : Res) : Prop :=
  ∃ uV nV pV vV used nx pv vs, r = bun (chs K b n l uV nV pV vV used nx pv vs) ∧ CInv n l used nx pv vs ∧ x < used.length ∧ Fresh (nodes l) x

theorem bov_app (l : List Bool) (a : Bool) : bov (l ++ [a]) = bov l ++ [.bool a] := by simp [bov]
theorem iv_app (l : List Int) (a : Int) : iv (l ++ [a]) = iv l ++ [.int .i64 a] := by simp [iv]
theorem vc_app {α : Type} (K : VK α) (l : List α) (a : α) : vcells K (l ++ [a]) = vcells K l ++ K.cells a := by simp [vcells]

set_option maxHeartbeats 4000000 in
theorem ifree_spec (b n : Nat) (l : List (Nat × _)) (r : Res) (w : World) (hn : n ≤ 8192) (hl : l.length < n) (hr : ChR kInt b n l r) (hs : Holds w r.foot [r] w) :
    Spec Tryz.prog 137 [.pointer (some ⟨b, 0, .none⟩)] w r.foot fun v H => ∃ (x : Nat) (r' : Res), v = .int .i64 x ∧ H = [r'] ∧ ChF kInt b n l x r' := by
  obtain ⟨uV, nV, pV, vV, used, nx, pv, vs, rfl, hc⟩ := hr
  have hle := hc.le
  refine enter (n := 64) Tryz.func137 rfl rfl [(0, _)] rfl ⟨rfl, trivial⟩ hs ?_
  refine w_unb (chs kInt b n l uV nV pV vV used nx pv vs) ?_
  refine w_with fun hh => ?_
  obtain ⟨U, cu, rfl⟩ := row_slice hh (i := 1) rfl
  clear hh
  refine w_seq (w_reg (wl_f (f_assign rfl) (wl_end [(0, _)] ⟨rfl, trivial⟩ ?_)))
  refine w_seq (w_seq (w_reg (wl_f (f_move rfl) (wl_f (f_nilCheck rfl) (wl_f (f_fieldAddr 4 rfl Tryz.underlying182 rfl rfl (by kernel_rfl)) ?_)))))
  refine wl_f (f_loadb 0 rfl Tryz.underlying128 rfl rfl rfl) ?_
  refine wl_f (f_len rfl Tryz.underlying128) ?_
  refine wl_f (f_move rfl) (wl_end [(0, _), (8, _), (9, _), (10, _)] ⟨rfl, rfl, rfl, rfl, trivial⟩ ?_)
  refine w_block ?_
  refine w_loop (fun k m H w => ∃ i : Nat, m = [(0, .pointer (some ⟨b, 0, .none⟩)), (8, .slice U used.length cu), (9, .int .i64 used.length), (10, .int .i64 i)] ∧ H = chs kInt b n l (.slice U used.length cu) nV pV vV used nx pv vs ∧ k + i = used.length ∧ ∀ j < i, used[j]? = some true) used.length
    ⟨0, rfl, rfl, by omega, by omega⟩ ?_
  rintro k _ _ w1 ⟨i, rfl, rfl, hk, hall⟩
  refine w_seq (w_reg (wl_f (f_lss rfl rfl) ?_))
  refine wl_end [(0, _), (8, _), (9, _), (10, _), (11, _)] ⟨rfl, rfl, rfl, rfl, rfl, trivial⟩ ?_
  refine w_seq ?_
  refine w_ifd rfl (fun hc1 => ?_) (fun hc1 => ?_)
  · skip
    have hi : i < used.length := by omega
    refine w_skip ?_
    refine w_seq (w_block ?_)
    refine w_seq (w_reg (wl_f (f_move rfl) (wl_with fun hh => ?_)))
    obtain ⟨g, cap, e⟩ := row_form hh (i := 1) rfl (by omega)
    injection e with e1 _ e3
    subst e1; subst e3
    clear hh
    refine wl_f (f_indexAddr 1 (i := i) rfl rfl Tryz.underlying128 (by kernel_rfl) rfl hi) ?_
    refine wl_f (f_loadr (v := .bool used[i]) 1 rfl Tryz.underlying4 rfl rfl (map_get Value.bool (List.getElem?_eq_getElem hi))) ?_
    refine wl_f (f_assign rfl) (wl_f (f_assign rfl) (wl_end [(0, _), (3, _), (4, _), (8, _), (9, _), (10, _)] ⟨rfl, rfl, rfl, rfl, rfl, rfl, trivial⟩ ?_))
    refine w_seq (w_reg (wl_f (f_move rfl) (wl_f (f_not rfl rfl) ?_)))
    refine wl_end [(0, _), (3, _), (8, _), (9, _), (10, _), (16, _)] ⟨rfl, rfl, rfl, rfl, rfl, rfl, trivial⟩ ?_
    refine w_ifb rfl (fun hc2 => ?_) (fun hc2 => ?_)
    · skip
      have hf : used[i] = false := by simpa using hc2
      refine w_seq (w_reg (wl_f (f_move rfl) (wl_f (f_assign rfl) (wl_end [(2, _)] ⟨rfl, trivial⟩ ?_))))
      refine w_bun (H := []) (chs kInt b n l (.slice (some ⟨g, 0, .none⟩) used.length cu) nV pV vV used nx pv vs) ?_
      refine w_ret ?_
      refine ⟨_, _, fun a ha hh => results_tmps Tryz.results137 rfl a ha _, List.Sublist.refl _, ?_⟩
      exact ⟨i, _, rfl, rfl, _, _, _, _, used, nx, pv, vs, rfl, hc, hi, hc.fresh (by rw [List.getElem?_eq_getElem hi, hf]; simp) hall⟩
    · skip
      have hf : used[i] = true := by simpa using hc2
      refine w_skip ?_
      refine w_reg (wl_f (f_add rfl rfl (by omega)) ?_)
      refine wl_f (f_move rfl) (wl_end [(0, _), (8, _), (9, _), (10, _)] ⟨rfl, rfl, rfl, rfl, trivial⟩ ?_)
      refine ⟨k - 1, by omega, i + 1, rfl, rfl, by omega, fun j hj => ?_⟩
      rcases Nat.lt_or_eq_of_le (Nat.le_of_lt_succ hj) with h | rfl
      · exact hall j h
      · rw [List.getElem?_eq_getElem hi, hf]
  · skip
    obtain rfl : i = used.length := by omega
    have hfull := hc.full hall
    refine w_exit0 ?_
    refine w_seq ?_
    refine w_post (fun m H w' => ∃ (U1 N1 P1 : Option Addr) (a1 a2 a3 : Nat), m = [(0, .pointer (some ⟨b, 0, .none⟩))] ∧
    H = [blk b [.int .i64 (n : Int), .int .i64 (l.length : Int), .int .i64 (hdE (-1) (nodes l)), .int .i64 (hdE (-1) (nodes l).reverse), .slice U1 (used.length + 1) a1, .slice N1 (used.length + 1) a2, .slice P1 (used.length + 1) a3, vV] (kInt).list,
      row (.slice U1 (used.length + 1) a1) 4 1 (used.length + 1) (bov (used ++ [false])), row (.slice N1 (used.length + 1) a2) 3 1 (used.length + 1) (iv (nx ++ [-1])), row (.slice P1 (used.length + 1) a3) 3 1 (used.length + 1) (iv (pv ++ [-1])),
      row vV (kInt).elem (kInt).sz used.length (vcells kInt vs)]) ?_ ?_
    · skip
      refine w_drawx (.fl 0 (.fl 1 (.fl 2 (.fl 3 (.fl 4 (.fl 5 (.fl 6 (.fl 9 (.fl 10 (.fl 11 (.fl 12 (.fl 15 (.fl 16 (.fl 17 (.fl 18 (.three 7 (.three 8 (.two 13 (.two 14 (.ef 19 (.ef 20 (.fl 21 (.fl 22 (.ef 23 (.fl 24 (.fl 25 (.ef 26 (.fl 27 (.fl 28 (.ef 29 .done))))))))))) 19 (.ef 14 (.ef 20 (.fl 21 (.fl 22 (.ef 23 (.fl 24 (.fl 25 (.ef 26 (.fl 27 (.fl 28 (.ef 29 .done)))))))))))) 19 (.ef 13 (.ef 14 (.ef 20 (.fl 21 (.fl 22 (.ef 23 (.fl 24 (.fl 25 (.ef 26 (.fl 27 (.fl 28 (.ef 29 .done))))))))))))) 13 (.two 8 (.two 14 (.ef 19 (.ef 20 (.fl 21 (.fl 22 (.ef 23 (.fl 24 (.fl 25 (.ef 26 (.fl 27 (.fl 28 (.ef 29 .done))))))))))) 19 (.ef 14 (.ef 20 (.fl 21 (.fl 22 (.ef 23 (.fl 24 (.fl 25 (.ef 26 (.fl 27 (.fl 28 (.ef 29 .done)))))))))))) 19 (.ef 8 (.ef 14 (.ef 20 (.fl 21 (.fl 22 (.ef 23 (.fl 24 (.fl 25 (.ef 26 (.fl 27 (.fl 28 (.ef 29 .done))))))))))))) 19 (.two 8 (.ef 13 (.ef 14 (.ef 20 (.fl 21 (.fl 22 (.ef 23 (.fl 24 (.fl 25 (.ef 26 (.fl 27 (.fl 28 (.ef 29 .done)))))))))))) 13 (.ef 8 (.ef 14 (.ef 20 (.fl 21 (.fl 22 (.ef 23 (.fl 24 (.fl 25 (.ef 26 (.fl 27 (.fl 28 (.ef 29 .done)))))))))))))) 13 (.two 7 (.two 8 (.two 14 (.ef 19 (.ef 20 (.fl 21 (.fl 22 (.ef 23 (.fl 24 (.fl 25 (.ef 26 (.fl 27 (.fl 28 (.ef 29 .done))))))))))) 19 (.ef 14 (.ef 20 (.fl 21 (.fl 22 (.ef 23 (.fl 24 (.fl 25 (.ef 26 (.fl 27 (.fl 28 (.ef 29 .done)))))))))))) 19 (.ef 8 (.ef 14 (.ef 20 (.fl 21 (.fl 22 (.ef 23 (.fl 24 (.fl 25 (.ef 26 (.fl 27 (.fl 28 (.ef 29 .done))))))))))))) 19 (.ef 7 (.ef 8 (.ef 14 (.ef 20 (.fl 21 (.fl 22 (.ef 23 (.fl 24 (.fl 25 (.ef 26 (.fl 27 (.fl 28 (.ef 29 .done)))))))))))))) 19 (.two 7 (.two 8 (.ef 13 (.ef 14 (.ef 20 (.fl 21 (.fl 22 (.ef 23 (.fl 24 (.fl 25 (.ef 26 (.fl 27 (.fl 28 (.ef 29 .done)))))))))))) 13 (.ef 8 (.ef 14 (.ef 20 (.fl 21 (.fl 22 (.ef 23 (.fl 24 (.fl 25 (.ef 26 (.fl 27 (.fl 28 (.ef 29 .done))))))))))))) 13 (.ef 7 (.ef 8 (.ef 14 (.ef 20 (.fl 21 (.fl 22 (.ef 23 (.fl 24 (.fl 25 (.ef 26 (.fl 27 (.fl 28 (.ef 29 .done)))))))))))))))))))))))))))))) ([(_, some 23)]) ([_, _, _, _]) mixed (by kernel_rfl) (by kernel_rfl) rfl rfl (List.Perm.refl _) (fun w7_ => ?_)
      refine wx_f rfl (f_move rfl) (wx_f rfl (f_move rfl) (wx_f rfl (f_move rfl) (wx_f rfl (f_move rfl) (wx_f rfl (f_nilCheck rfl) (wx_f rfl (f_fieldAddr 4 rfl Tryz.underlying182 rfl rfl (by kernel_rfl)) ?_)))))
      refine wx_f rfl (f_loadb 0 rfl Tryz.underlying128 rfl rfl rfl) ?_
      refine wx_f rfl (f_move rfl) (wx_f rfl (f_nilCheck rfl) (wx_f rfl (f_fieldAddr 5 rfl Tryz.underlying182 rfl rfl (by kernel_rfl)) ?_))
      refine wx_f rfl (f_loadb 0 rfl Tryz.underlying22 rfl rfl rfl) ?_
      refine wx_f rfl (f_move rfl) (wx_f rfl (f_nilCheck rfl) (wx_f rfl (f_fieldAddr 6 rfl Tryz.underlying182 rfl rfl (by kernel_rfl)) ?_))
      refine wx_f rfl (f_loadb 0 rfl Tryz.underlying22 rfl rfl rfl) ?_
      refine wx_three ?_ ?_ ?_
      · skip
        refine ks_e rfl (e_lit1 (cs := [_]) t128 rfl rfl rfl (by omega)) ?_
        rintro _ _ w7_7 ⟨b7_7, rfl, rfl⟩
        refine ⟨_, List.perm_middle.symm, ?_⟩
        refine wx_three ?_ ?_ ?_
        · skip
          refine ks_e rfl (e_appN 2 t128 rfl rfl rfl (fun w hh => Rd.held0 hh (i := 1) rfl) (by simp [Value.oneCell']) (by omega) (by omega)) ?_
          rintro _ _ w7_8 ⟨⟨U1, a1, rfl⟩, rfl⟩
          refine ⟨_, List.Perm.refl _, ?_⟩
          refine wx_two ?_ ?_
          · skip
            refine ks_e rfl (e_lit1 (cs := [_]) t22 rfl rfl rfl (by omega)) ?_
            rintro _ _ w7_13 ⟨b7_13, rfl, rfl⟩
            refine ⟨_, List.perm_middle.symm, ?_⟩
            refine wx_two ?_ ?_
            · skip
              refine ks_e rfl (e_appN 4 t22 rfl rfl rfl (fun w hh => Rd.held0 hh (i := 1) rfl) (by simp [Value.oneCell']) (by omega) (by omega)) ?_
              rintro _ _ w7_14 ⟨⟨N1, a2, rfl⟩, rfl⟩
              refine ⟨_, List.Perm.refl _, ?_⟩
              refine wx_ef ?_
              refine ks_e rfl (e_lit1 (cs := [_]) t22 rfl rfl rfl (by omega)) ?_
              rintro _ _ w7_19 ⟨b7_19, rfl, rfl⟩
              refine ⟨_, List.perm_middle.symm, ?_⟩
              refine wx_ef ?_
              refine ks_e rfl (e_appN 6 t22 rfl rfl rfl (fun w hh => Rd.held0 hh (i := 1) rfl) (by simp [Value.oneCell']) (by omega) (by omega)) ?_
              rintro _ _ w7_20 ⟨⟨P1, a3, rfl⟩, rfl⟩
              refine ⟨_, List.Perm.refl _, ?_⟩
              refine wx_f rfl (f_nilCheck rfl) (wx_f rfl (f_fieldAddr 4 rfl Tryz.underlying182 rfl rfl (by kernel_rfl)) ?_)
              refine wx_ef ?_
              refine ks_e0 rfl (e_storeN 0 (us := [_]) rfl rfl rfl rfl (by kernel_rfl) (by simp [Value.oneCell']) rfl rfl) ?_
              rintro _ _ w7_23 rfl
              refine ⟨_, pick_perm [] _ rfl, ?_⟩
              refine wx_f rfl (f_nilCheck rfl) (wx_f rfl (f_fieldAddr 5 rfl Tryz.underlying182 rfl rfl (by kernel_rfl)) ?_)
              refine wx_ef ?_
              refine ks_e0 rfl (e_storeN 0 (us := [_]) rfl rfl rfl rfl (by kernel_rfl) (by simp [Value.oneCell']) rfl rfl) ?_
              rintro _ _ w7_26 rfl
              refine ⟨_, List.Perm.refl _, ?_⟩
              refine wx_f rfl (f_nilCheck rfl) (wx_f rfl (f_fieldAddr 6 rfl Tryz.underlying182 rfl rfl (by kernel_rfl)) ?_)
              refine wx_ef ?_
              refine ks_e0 rfl (e_storeN 0 (us := [_]) rfl rfl rfl rfl (by kernel_rfl) (by simp [Value.oneCell']) rfl rfl) ?_
              rintro _ _ w7_29 rfl
              refine ⟨_, List.Perm.refl _, ?_⟩
              refine wx_endp [(0, _)] [0, 3, 3, 3, 3] ⟨rfl, trivial⟩ rfl ?_
              exact ⟨U1, N1, P1, a1, a2, a3, rfl, by rw [bov_app, iv_app, iv_app]; rfl⟩
            · skip
              refine ks_e rfl (e_lit1 (cs := [_]) t22 rfl rfl rfl (by omega)) ?_
              rintro _ _ w7_19 ⟨b7_19, rfl, rfl⟩
              refine ⟨_, List.perm_middle.symm, ?_⟩
              refine wx_ef ?_
              refine ks_e rfl (e_appN 5 t22 rfl rfl rfl (fun w hh => Rd.held0 hh (i := 2) rfl) (by simp [Value.oneCell']) (by omega) (by omega)) ?_
              rintro _ _ w7_14 ⟨⟨N1, a2, rfl⟩, rfl⟩
              refine ⟨_, List.Perm.refl _, ?_⟩
              refine wx_ef ?_
              refine ks_e rfl (e_appN 6 t22 rfl rfl rfl (fun w hh => Rd.held0 hh (i := 1) rfl) (by simp [Value.oneCell']) (by omega) (by omega)) ?_
              rintro _ _ w7_20 ⟨⟨P1, a3, rfl⟩, rfl⟩
              refine ⟨_, List.Perm.refl _, ?_⟩
              refine wx_f rfl (f_nilCheck rfl) (wx_f rfl (f_fieldAddr 4 rfl Tryz.underlying182 rfl rfl (by kernel_rfl)) ?_)
              refine wx_ef ?_
              refine ks_e0 rfl (e_storeN 0 (us := [_]) rfl rfl rfl rfl (by kernel_rfl) (by simp [Value.oneCell']) rfl rfl) ?_
              rintro _ _ w7_23 rfl
              refine ⟨_, pick_perm [] _ rfl, ?_⟩
              refine wx_f rfl (f_nilCheck rfl) (wx_f rfl (f_fieldAddr 5 rfl Tryz.underlying182 rfl rfl (by kernel_rfl)) ?_)
              refine wx_ef ?_
              refine ks_e0 rfl (e_storeN 0 (us := [_]) rfl rfl rfl rfl (by kernel_rfl) (by simp [Value.oneCell']) rfl rfl) ?_
              rintro _ _ w7_26 rfl
              refine ⟨_, List.Perm.refl _, ?_⟩
              refine wx_f rfl (f_nilCheck rfl) (wx_f rfl (f_fieldAddr 6 rfl Tryz.underlying182 rfl rfl (by kernel_rfl)) ?_)
              refine wx_ef ?_
              refine ks_e0 rfl (e_storeN 0 (us := [_]) rfl rfl rfl rfl (by kernel_rfl) (by simp [Value.oneCell']) rfl rfl) ?_
              rintro _ _ w7_29 rfl
              refine ⟨_, List.Perm.refl _, ?_⟩
              refine wx_endp [(0, _)] [0, 3, 3, 3, 3] ⟨rfl, trivial⟩ rfl ?_
              exact ⟨U1, N1, P1, a1, a2, a3, rfl, by rw [bov_app, iv_app, iv_app]; rfl⟩
          · skip
            refine ks_e rfl (e_lit1 (cs := [_]) t22 rfl rfl rfl (by omega)) ?_
            rintro _ _ w7_19 ⟨b7_19, rfl, rfl⟩
            refine ⟨_, List.perm_middle.symm, ?_⟩
            refine wx_ef ?_
            refine ks_e rfl (e_lit1 (cs := [_]) t22 rfl rfl rfl (by omega)) ?_
            rintro _ _ w7_13 ⟨b7_13, rfl, rfl⟩
            refine ⟨_, List.perm_middle.symm, ?_⟩
            refine wx_ef ?_
            refine ks_e rfl (e_appN 5 t22 rfl rfl rfl (fun w hh => Rd.held0 hh (i := 1) rfl) (by simp [Value.oneCell']) (by omega) (by omega)) ?_
            rintro _ _ w7_14 ⟨⟨N1, a2, rfl⟩, rfl⟩
            refine ⟨_, List.Perm.refl _, ?_⟩
            refine wx_ef ?_
            refine ks_e rfl (e_appN 6 t22 rfl rfl rfl (fun w hh => Rd.held0 hh (i := 2) rfl) (by simp [Value.oneCell']) (by omega) (by omega)) ?_
            rintro _ _ w7_20 ⟨⟨P1, a3, rfl⟩, rfl⟩
            refine ⟨_, List.Perm.refl _, ?_⟩
            refine wx_f rfl (f_nilCheck rfl) (wx_f rfl (f_fieldAddr 4 rfl Tryz.underlying182 rfl rfl (by kernel_rfl)) ?_)
            refine wx_ef ?_
            refine ks_e0 rfl (e_storeN 0 (us := [_]) rfl rfl rfl rfl (by kernel_rfl) (by simp [Value.oneCell']) rfl rfl) ?_
            rintro _ _ w7_23 rfl
            refine ⟨_, pick_perm [] _ rfl, ?_⟩
            refine wx_f rfl (f_nilCheck rfl) (wx_f rfl (f_fieldAddr 5 rfl Tryz.underlying182 rfl rfl (by kernel_rfl)) ?_)
            refine wx_ef ?_
            refine ks_e0 rfl (e_storeN 0 (us := [_]) rfl rfl rfl rfl (by kernel_rfl) (by simp [Value.oneCell']) rfl rfl) ?_
            rintro _ _ w7_26 rfl
            refine ⟨_, List.Perm.refl _, ?_⟩
            refine wx_f rfl (f_nilCheck rfl) (wx_f rfl (f_fieldAddr 6 rfl Tryz.underlying182 rfl rfl (by kernel_rfl)) ?_)
            refine wx_ef ?_
            refine ks_e0 rfl (e_storeN 0 (us := [_]) rfl rfl rfl rfl (by kernel_rfl) (by simp [Value.oneCell']) rfl rfl) ?_
            rintro _ _ w7_29 rfl
            refine ⟨_, List.Perm.refl _, ?_⟩
            refine wx_endp [(0, _)] [0, 3, 3, 3, 3] ⟨rfl, trivial⟩ rfl ?_
            exact ⟨U1, N1, P1, a1, a2, a3, rfl, by rw [bov_app, iv_app, iv_app]; rfl⟩
        · skip
          refine ks_e rfl (e_lit1 (cs := [_]) t22 rfl rfl rfl (by omega)) ?_
          rintro _ _ w7_13 ⟨b7_13, rfl, rfl⟩
          refine ⟨_, List.perm_middle.symm, ?_⟩
          refine wx_two ?_ ?_
          · skip
            refine ks_e rfl (e_appN 3 t128 rfl rfl rfl (fun w hh => Rd.held0 hh (i := 2) rfl) (by simp [Value.oneCell']) (by omega) (by omega)) ?_
            rintro _ _ w7_8 ⟨⟨U1, a1, rfl⟩, rfl⟩
            refine ⟨_, List.Perm.refl _, ?_⟩
            refine wx_two ?_ ?_
            · skip
              refine ks_e rfl (e_appN 4 t22 rfl rfl rfl (fun w hh => Rd.held0 hh (i := 1) rfl) (by simp [Value.oneCell']) (by omega) (by omega)) ?_
              rintro _ _ w7_14 ⟨⟨N1, a2, rfl⟩, rfl⟩
              refine ⟨_, List.Perm.refl _, ?_⟩
              refine wx_ef ?_
              refine ks_e rfl (e_lit1 (cs := [_]) t22 rfl rfl rfl (by omega)) ?_
              rintro _ _ w7_19 ⟨b7_19, rfl, rfl⟩
              refine ⟨_, List.perm_middle.symm, ?_⟩
              refine wx_ef ?_
              refine ks_e rfl (e_appN 6 t22 rfl rfl rfl (fun w hh => Rd.held0 hh (i := 1) rfl) (by simp [Value.oneCell']) (by omega) (by omega)) ?_
              rintro _ _ w7_20 ⟨⟨P1, a3, rfl⟩, rfl⟩
              refine ⟨_, List.Perm.refl _, ?_⟩
              refine wx_f rfl (f_nilCheck rfl) (wx_f rfl (f_fieldAddr 4 rfl Tryz.underlying182 rfl rfl (by kernel_rfl)) ?_)
              refine wx_ef ?_
              refine ks_e0 rfl (e_storeN 0 (us := [_]) rfl rfl rfl rfl (by kernel_rfl) (by simp [Value.oneCell']) rfl rfl) ?_
              rintro _ _ w7_23 rfl
              refine ⟨_, pick_perm [] _ rfl, ?_⟩
              refine wx_f rfl (f_nilCheck rfl) (wx_f rfl (f_fieldAddr 5 rfl Tryz.underlying182 rfl rfl (by kernel_rfl)) ?_)
              refine wx_ef ?_
              refine ks_e0 rfl (e_storeN 0 (us := [_]) rfl rfl rfl rfl (by kernel_rfl) (by simp [Value.oneCell']) rfl rfl) ?_
              rintro _ _ w7_26 rfl
              refine ⟨_, List.Perm.refl _, ?_⟩
              refine wx_f rfl (f_nilCheck rfl) (wx_f rfl (f_fieldAddr 6 rfl Tryz.underlying182 rfl rfl (by kernel_rfl)) ?_)
              refine wx_ef ?_
              refine ks_e0 rfl (e_storeN 0 (us := [_]) rfl rfl rfl rfl (by kernel_rfl) (by simp [Value.oneCell']) rfl rfl) ?_
              rintro _ _ w7_29 rfl
              refine ⟨_, List.Perm.refl _, ?_⟩
              refine wx_endp [(0, _)] [0, 3, 3, 3, 3] ⟨rfl, trivial⟩ rfl ?_
              exact ⟨U1, N1, P1, a1, a2, a3, rfl, by rw [bov_app, iv_app, iv_app]; rfl⟩
            · skip
              refine ks_e rfl (e_lit1 (cs := [_]) t22 rfl rfl rfl (by omega)) ?_
              rintro _ _ w7_19 ⟨b7_19, rfl, rfl⟩
              refine ⟨_, List.perm_middle.symm, ?_⟩
              refine wx_ef ?_
              refine ks_e rfl (e_appN 5 t22 rfl rfl rfl (fun w hh => Rd.held0 hh (i := 2) rfl) (by simp [Value.oneCell']) (by omega) (by omega)) ?_
              rintro _ _ w7_14 ⟨⟨N1, a2, rfl⟩, rfl⟩
              refine ⟨_, List.Perm.refl _, ?_⟩
              refine wx_ef ?_
              refine ks_e rfl (e_appN 6 t22 rfl rfl rfl (fun w hh => Rd.held0 hh (i := 1) rfl) (by simp [Value.oneCell']) (by omega) (by omega)) ?_
              rintro _ _ w7_20 ⟨⟨P1, a3, rfl⟩, rfl⟩
              refine ⟨_, List.Perm.refl _, ?_⟩
              refine wx_f rfl (f_nilCheck rfl) (wx_f rfl (f_fieldAddr 4 rfl Tryz.underlying182 rfl rfl (by kernel_rfl)) ?_)
              refine wx_ef ?_
              refine ks_e0 rfl (e_storeN 0 (us := [_]) rfl rfl rfl rfl (by kernel_rfl) (by simp [Value.oneCell']) rfl rfl) ?_
              rintro _ _ w7_23 rfl
              refine ⟨_, pick_perm [] _ rfl, ?_⟩
              refine wx_f rfl (f_nilCheck rfl) (wx_f rfl (f_fieldAddr 5 rfl Tryz.underlying182 rfl rfl (by kernel_rfl)) ?_)
              refine wx_ef ?_
              refine ks_e0 rfl (e_storeN 0 (us := [_]) rfl rfl rfl rfl (by kernel_rfl) (by simp [Value.oneCell']) rfl rfl) ?_
              rintro _ _ w7_26 rfl
              refine ⟨_, List.Perm.refl _, ?_⟩
              refine wx_f rfl (f_nilCheck rfl) (wx_f rfl (f_fieldAddr 6 rfl Tryz.underlying182 rfl rfl (by kernel_rfl)) ?_)
              refine wx_ef ?_
              refine ks_e0 rfl (e_storeN 0 (us := [_]) rfl rfl rfl rfl (by kernel_rfl) (by simp [Value.oneCell']) rfl rfl) ?_
              rintro _ _ w7_29 rfl
              refine ⟨_, List.Perm.refl _, ?_⟩
              refine wx_endp [(0, _)] [0, 3, 3, 3, 3] ⟨rfl, trivial⟩ rfl ?_
              exact ⟨U1, N1, P1, a1, a2, a3, rfl, by rw [bov_app, iv_app, iv_app]; rfl⟩
          · skip
            refine ks_e rfl (e_lit1 (cs := [_]) t22 rfl rfl rfl (by omega)) ?_
            rintro _ _ w7_19 ⟨b7_19, rfl, rfl⟩
            refine ⟨_, List.perm_middle.symm, ?_⟩
            refine wx_ef ?_
            refine ks_e rfl (e_appN 4 t128 rfl rfl rfl (fun w hh => Rd.held0 hh (i := 3) rfl) (by simp [Value.oneCell']) (by omega) (by omega)) ?_
            rintro _ _ w7_8 ⟨⟨U1, a1, rfl⟩, rfl⟩
            refine ⟨_, List.Perm.refl _, ?_⟩
            refine wx_ef ?_
            refine ks_e rfl (e_appN 5 t22 rfl rfl rfl (fun w hh => Rd.held0 hh (i := 2) rfl) (by simp [Value.oneCell']) (by omega) (by omega)) ?_
            rintro _ _ w7_14 ⟨⟨N1, a2, rfl⟩, rfl⟩
            refine ⟨_, List.Perm.refl _, ?_⟩
            refine wx_ef ?_
            refine ks_e rfl (e_appN 6 t22 rfl rfl rfl (fun w hh => Rd.held0 hh (i := 1) rfl) (by simp [Value.oneCell']) (by omega) (by omega)) ?_
            rintro _ _ w7_20 ⟨⟨P1, a3, rfl⟩, rfl⟩
            refine ⟨_, List.Perm.refl _, ?_⟩
            refine wx_f rfl (f_nilCheck rfl) (wx_f rfl (f_fieldAddr 4 rfl Tryz.underlying182 rfl rfl (by kernel_rfl)) ?_)
            refine wx_ef ?_
            refine ks_e0 rfl (e_storeN 0 (us := [_]) rfl rfl rfl rfl (by kernel_rfl) (by simp [Value.oneCell']) rfl rfl) ?_
            rintro _ _ w7_23 rfl
            refine ⟨_, pick_perm [] _ rfl, ?_⟩
            refine wx_f rfl (f_nilCheck rfl) (wx_f rfl (f_fieldAddr 5 rfl Tryz.underlying182 rfl rfl (by kernel_rfl)) ?_)
            refine wx_ef ?_
            refine ks_e0 rfl (e_storeN 0 (us := [_]) rfl rfl rfl rfl (by kernel_rfl) (by simp [Value.oneCell']) rfl rfl) ?_
            rintro _ _ w7_26 rfl
            refine ⟨_, List.Perm.refl _, ?_⟩
            refine wx_f rfl (f_nilCheck rfl) (wx_f rfl (f_fieldAddr 6 rfl Tryz.underlying182 rfl rfl (by kernel_rfl)) ?_)
            refine wx_ef ?_
            refine ks_e0 rfl (e_storeN 0 (us := [_]) rfl rfl rfl rfl (by kernel_rfl) (by simp [Value.oneCell']) rfl rfl) ?_
            rintro _ _ w7_29 rfl
            refine ⟨_, List.Perm.refl _, ?_⟩
            refine wx_endp [(0, _)] [0, 3, 3, 3, 3] ⟨rfl, trivial⟩ rfl ?_
            exact ⟨U1, N1, P1, a1, a2, a3, rfl, by rw [bov_app, iv_app, iv_app]; rfl⟩
        · skip
          refine ks_e rfl (e_lit1 (cs := [_]) t22 rfl rfl rfl (by omega)) ?_
          rintro _ _ w7_19 ⟨b7_19, rfl, rfl⟩
          refine ⟨_, List.perm_middle.symm, ?_⟩
          refine wx_two ?_ ?_
          · skip
            refine ks_e rfl (e_appN 3 t128 rfl rfl rfl (fun w hh => Rd.held0 hh (i := 2) rfl) (by simp [Value.oneCell']) (by omega) (by omega)) ?_
            rintro _ _ w7_8 ⟨⟨U1, a1, rfl⟩, rfl⟩
            refine ⟨_, List.Perm.refl _, ?_⟩
            refine wx_ef ?_
            refine ks_e rfl (e_lit1 (cs := [_]) t22 rfl rfl rfl (by omega)) ?_
            rintro _ _ w7_13 ⟨b7_13, rfl, rfl⟩
            refine ⟨_, List.perm_middle.symm, ?_⟩
            refine wx_ef ?_
            refine ks_e rfl (e_appN 5 t22 rfl rfl rfl (fun w hh => Rd.held0 hh (i := 1) rfl) (by simp [Value.oneCell']) (by omega) (by omega)) ?_
            rintro _ _ w7_14 ⟨⟨N1, a2, rfl⟩, rfl⟩
            refine ⟨_, List.Perm.refl _, ?_⟩
            refine wx_ef ?_
            refine ks_e rfl (e_appN 6 t22 rfl rfl rfl (fun w hh => Rd.held0 hh (i := 2) rfl) (by simp [Value.oneCell']) (by omega) (by omega)) ?_
            rintro _ _ w7_20 ⟨⟨P1, a3, rfl⟩, rfl⟩
            refine ⟨_, List.Perm.refl _, ?_⟩
            refine wx_f rfl (f_nilCheck rfl) (wx_f rfl (f_fieldAddr 4 rfl Tryz.underlying182 rfl rfl (by kernel_rfl)) ?_)
            refine wx_ef ?_
            refine ks_e0 rfl (e_storeN 0 (us := [_]) rfl rfl rfl rfl (by kernel_rfl) (by simp [Value.oneCell']) rfl rfl) ?_
            rintro _ _ w7_23 rfl
            refine ⟨_, pick_perm [] _ rfl, ?_⟩
            refine wx_f rfl (f_nilCheck rfl) (wx_f rfl (f_fieldAddr 5 rfl Tryz.underlying182 rfl rfl (by kernel_rfl)) ?_)
            refine wx_ef ?_
            refine ks_e0 rfl (e_storeN 0 (us := [_]) rfl rfl rfl rfl (by kernel_rfl) (by simp [Value.oneCell']) rfl rfl) ?_
            rintro _ _ w7_26 rfl
            refine ⟨_, List.Perm.refl _, ?_⟩
            refine wx_f rfl (f_nilCheck rfl) (wx_f rfl (f_fieldAddr 6 rfl Tryz.underlying182 rfl rfl (by kernel_rfl)) ?_)
            refine wx_ef ?_
            refine ks_e0 rfl (e_storeN 0 (us := [_]) rfl rfl rfl rfl (by kernel_rfl) (by simp [Value.oneCell']) rfl rfl) ?_
            rintro _ _ w7_29 rfl
            refine ⟨_, List.Perm.refl _, ?_⟩
            refine wx_endp [(0, _)] [0, 3, 3, 3, 3] ⟨rfl, trivial⟩ rfl ?_
            exact ⟨U1, N1, P1, a1, a2, a3, rfl, by rw [bov_app, iv_app, iv_app]; rfl⟩
          · skip
            refine ks_e rfl (e_lit1 (cs := [_]) t22 rfl rfl rfl (by omega)) ?_
            rintro _ _ w7_13 ⟨b7_13, rfl, rfl⟩
            refine ⟨_, List.perm_middle.symm, ?_⟩
            refine wx_ef ?_
            refine ks_e rfl (e_appN 4 t128 rfl rfl rfl (fun w hh => Rd.held0 hh (i := 3) rfl) (by simp [Value.oneCell']) (by omega) (by omega)) ?_
            rintro _ _ w7_8 ⟨⟨U1, a1, rfl⟩, rfl⟩
            refine ⟨_, List.Perm.refl _, ?_⟩
            refine wx_ef ?_
            refine ks_e rfl (e_appN 5 t22 rfl rfl rfl (fun w hh => Rd.held0 hh (i := 1) rfl) (by simp [Value.oneCell']) (by omega) (by omega)) ?_
            rintro _ _ w7_14 ⟨⟨N1, a2, rfl⟩, rfl⟩
            refine ⟨_, List.Perm.refl _, ?_⟩
            refine wx_ef ?_
            refine ks_e rfl (e_appN 6 t22 rfl rfl rfl (fun w hh => Rd.held0 hh (i := 2) rfl) (by simp [Value.oneCell']) (by omega) (by omega)) ?_
            rintro _ _ w7_20 ⟨⟨P1, a3, rfl⟩, rfl⟩
            refine ⟨_, List.Perm.refl _, ?_⟩
            refine wx_f rfl (f_nilCheck rfl) (wx_f rfl (f_fieldAddr 4 rfl Tryz.underlying182 rfl rfl (by kernel_rfl)) ?_)
            refine wx_ef ?_
            refine ks_e0 rfl (e_storeN 0 (us := [_]) rfl rfl rfl rfl (by kernel_rfl) (by simp [Value.oneCell']) rfl rfl) ?_
            rintro _ _ w7_23 rfl
            refine ⟨_, pick_perm [] _ rfl, ?_⟩
            refine wx_f rfl (f_nilCheck rfl) (wx_f rfl (f_fieldAddr 5 rfl Tryz.underlying182 rfl rfl (by kernel_rfl)) ?_)
            refine wx_ef ?_
            refine ks_e0 rfl (e_storeN 0 (us := [_]) rfl rfl rfl rfl (by kernel_rfl) (by simp [Value.oneCell']) rfl rfl) ?_
            rintro _ _ w7_26 rfl
            refine ⟨_, List.Perm.refl _, ?_⟩
            refine wx_f rfl (f_nilCheck rfl) (wx_f rfl (f_fieldAddr 6 rfl Tryz.underlying182 rfl rfl (by kernel_rfl)) ?_)
            refine wx_ef ?_
            refine ks_e0 rfl (e_storeN 0 (us := [_]) rfl rfl rfl rfl (by kernel_rfl) (by simp [Value.oneCell']) rfl rfl) ?_
            rintro _ _ w7_29 rfl
            refine ⟨_, List.Perm.refl _, ?_⟩
            refine wx_endp [(0, _)] [0, 3, 3, 3, 3] ⟨rfl, trivial⟩ rfl ?_
            exact ⟨U1, N1, P1, a1, a2, a3, rfl, by rw [bov_app, iv_app, iv_app]; rfl⟩
      · skip
        refine ks_e rfl (e_lit1 (cs := [_]) t22 rfl rfl rfl (by omega)) ?_
        rintro _ _ w7_13 ⟨b7_13, rfl, rfl⟩
        refine ⟨_, List.perm_middle.symm, ?_⟩
        refine wx_two ?_ ?_
        · skip
          refine ks_e rfl (e_lit1 (cs := [_]) t128 rfl rfl rfl (by omega)) ?_
          rintro _ _ w7_7 ⟨b7_7, rfl, rfl⟩
          refine ⟨_, List.perm_middle.symm, ?_⟩
          refine wx_two ?_ ?_
          · skip
            refine ks_e rfl (e_appN 3 t128 rfl rfl rfl (fun w hh => Rd.held0 hh (i := 1) rfl) (by simp [Value.oneCell']) (by omega) (by omega)) ?_
            rintro _ _ w7_8 ⟨⟨U1, a1, rfl⟩, rfl⟩
            refine ⟨_, List.Perm.refl _, ?_⟩
            refine wx_two ?_ ?_
            · skip
              refine ks_e rfl (e_appN 4 t22 rfl rfl rfl (fun w hh => Rd.held0 hh (i := 2) rfl) (by simp [Value.oneCell']) (by omega) (by omega)) ?_
              rintro _ _ w7_14 ⟨⟨N1, a2, rfl⟩, rfl⟩
              refine ⟨_, List.Perm.refl _, ?_⟩
              refine wx_ef ?_
              refine ks_e rfl (e_lit1 (cs := [_]) t22 rfl rfl rfl (by omega)) ?_
              rintro _ _ w7_19 ⟨b7_19, rfl, rfl⟩
              refine ⟨_, List.perm_middle.symm, ?_⟩
              refine wx_ef ?_
              refine ks_e rfl (e_appN 6 t22 rfl rfl rfl (fun w hh => Rd.held0 hh (i := 1) rfl) (by simp [Value.oneCell']) (by omega) (by omega)) ?_
              rintro _ _ w7_20 ⟨⟨P1, a3, rfl⟩, rfl⟩
              refine ⟨_, List.Perm.refl _, ?_⟩
              refine wx_f rfl (f_nilCheck rfl) (wx_f rfl (f_fieldAddr 4 rfl Tryz.underlying182 rfl rfl (by kernel_rfl)) ?_)
              refine wx_ef ?_
              refine ks_e0 rfl (e_storeN 0 (us := [_]) rfl rfl rfl rfl (by kernel_rfl) (by simp [Value.oneCell']) rfl rfl) ?_
              rintro _ _ w7_23 rfl
              refine ⟨_, pick_perm [] _ rfl, ?_⟩
              refine wx_f rfl (f_nilCheck rfl) (wx_f rfl (f_fieldAddr 5 rfl Tryz.underlying182 rfl rfl (by kernel_rfl)) ?_)
              refine wx_ef ?_
              refine ks_e0 rfl (e_storeN 0 (us := [_]) rfl rfl rfl rfl (by kernel_rfl) (by simp [Value.oneCell']) rfl rfl) ?_
              rintro _ _ w7_26 rfl
              refine ⟨_, List.Perm.refl _, ?_⟩
              refine wx_f rfl (f_nilCheck rfl) (wx_f rfl (f_fieldAddr 6 rfl Tryz.underlying182 rfl rfl (by kernel_rfl)) ?_)
              refine wx_ef ?_
              refine ks_e0 rfl (e_storeN 0 (us := [_]) rfl rfl rfl rfl (by kernel_rfl) (by simp [Value.oneCell']) rfl rfl) ?_
              rintro _ _ w7_29 rfl
              refine ⟨_, List.Perm.refl _, ?_⟩
              refine wx_endp [(0, _)] [0, 3, 3, 3, 3] ⟨rfl, trivial⟩ rfl ?_
              exact ⟨U1, N1, P1, a1, a2, a3, rfl, by rw [bov_app, iv_app, iv_app]; rfl⟩
            · skip
              refine ks_e rfl (e_lit1 (cs := [_]) t22 rfl rfl rfl (by omega)) ?_
              rintro _ _ w7_19 ⟨b7_19, rfl, rfl⟩
              refine ⟨_, List.perm_middle.symm, ?_⟩
              refine wx_ef ?_
              refine ks_e rfl (e_appN 5 t22 rfl rfl rfl (fun w hh => Rd.held0 hh (i := 3) rfl) (by simp [Value.oneCell']) (by omega) (by omega)) ?_
              rintro _ _ w7_14 ⟨⟨N1, a2, rfl⟩, rfl⟩
              refine ⟨_, List.Perm.refl _, ?_⟩
              refine wx_ef ?_
              refine ks_e rfl (e_appN 6 t22 rfl rfl rfl (fun w hh => Rd.held0 hh (i := 1) rfl) (by simp [Value.oneCell']) (by omega) (by omega)) ?_
              rintro _ _ w7_20 ⟨⟨P1, a3, rfl⟩, rfl⟩
              refine ⟨_, List.Perm.refl _, ?_⟩
              refine wx_f rfl (f_nilCheck rfl) (wx_f rfl (f_fieldAddr 4 rfl Tryz.underlying182 rfl rfl (by kernel_rfl)) ?_)
              refine wx_ef ?_
              refine ks_e0 rfl (e_storeN 0 (us := [_]) rfl rfl rfl rfl (by kernel_rfl) (by simp [Value.oneCell']) rfl rfl) ?_
              rintro _ _ w7_23 rfl
              refine ⟨_, pick_perm [] _ rfl, ?_⟩
              refine wx_f rfl (f_nilCheck rfl) (wx_f rfl (f_fieldAddr 5 rfl Tryz.underlying182 rfl rfl (by kernel_rfl)) ?_)
              refine wx_ef ?_
              refine ks_e0 rfl (e_storeN 0 (us := [_]) rfl rfl rfl rfl (by kernel_rfl) (by simp [Value.oneCell']) rfl rfl) ?_
              rintro _ _ w7_26 rfl
              refine ⟨_, List.Perm.refl _, ?_⟩
              refine wx_f rfl (f_nilCheck rfl) (wx_f rfl (f_fieldAddr 6 rfl Tryz.underlying182 rfl rfl (by kernel_rfl)) ?_)
              refine wx_ef ?_
              refine ks_e0 rfl (e_storeN 0 (us := [_]) rfl rfl rfl rfl (by kernel_rfl) (by simp [Value.oneCell']) rfl rfl) ?_
              rintro _ _ w7_29 rfl
              refine ⟨_, List.Perm.refl _, ?_⟩
              refine wx_endp [(0, _)] [0, 3, 3, 3, 3] ⟨rfl, trivial⟩ rfl ?_
              exact ⟨U1, N1, P1, a1, a2, a3, rfl, by rw [bov_app, iv_app, iv_app]; rfl⟩
          · skip
            refine ks_e rfl (e_lit1 (cs := [_]) t22 rfl rfl rfl (by omega)) ?_
            rintro _ _ w7_19 ⟨b7_19, rfl, rfl⟩
            refine ⟨_, List.perm_middle.symm, ?_⟩
            refine wx_ef ?_
            refine ks_e rfl (e_appN 4 t128 rfl rfl rfl (fun w hh => Rd.held0 hh (i := 2) rfl) (by simp [Value.oneCell']) (by omega) (by omega)) ?_
            rintro _ _ w7_8 ⟨⟨U1, a1, rfl⟩, rfl⟩
            refine ⟨_, List.Perm.refl _, ?_⟩
            refine wx_ef ?_
            refine ks_e rfl (e_appN 5 t22 rfl rfl rfl (fun w hh => Rd.held0 hh (i := 3) rfl) (by simp [Value.oneCell']) (by omega) (by omega)) ?_
            rintro _ _ w7_14 ⟨⟨N1, a2, rfl⟩, rfl⟩
            refine ⟨_, List.Perm.refl _, ?_⟩
            refine wx_ef ?_
            refine ks_e rfl (e_appN 6 t22 rfl rfl rfl (fun w hh => Rd.held0 hh (i := 1) rfl) (by simp [Value.oneCell']) (by omega) (by omega)) ?_
            rintro _ _ w7_20 ⟨⟨P1, a3, rfl⟩, rfl⟩
            refine ⟨_, List.Perm.refl _, ?_⟩
            refine wx_f rfl (f_nilCheck rfl) (wx_f rfl (f_fieldAddr 4 rfl Tryz.underlying182 rfl rfl (by kernel_rfl)) ?_)
            refine wx_ef ?_
            refine ks_e0 rfl (e_storeN 0 (us := [_]) rfl rfl rfl rfl (by kernel_rfl) (by simp [Value.oneCell']) rfl rfl) ?_
            rintro _ _ w7_23 rfl
            refine ⟨_, pick_perm [] _ rfl, ?_⟩
            refine wx_f rfl (f_nilCheck rfl) (wx_f rfl (f_fieldAddr 5 rfl Tryz.underlying182 rfl rfl (by kernel_rfl)) ?_)
            refine wx_ef ?_
            refine ks_e0 rfl (e_storeN 0 (us := [_]) rfl rfl rfl rfl (by kernel_rfl) (by simp [Value.oneCell']) rfl rfl) ?_
            rintro _ _ w7_26 rfl
            refine ⟨_, List.Perm.refl _, ?_⟩
            refine wx_f rfl (f_nilCheck rfl) (wx_f rfl (f_fieldAddr 6 rfl Tryz.underlying182 rfl rfl (by kernel_rfl)) ?_)
            refine wx_ef ?_
            refine ks_e0 rfl (e_storeN 0 (us := [_]) rfl rfl rfl rfl (by kernel_rfl) (by simp [Value.oneCell']) rfl rfl) ?_
            rintro _ _ w7_29 rfl
            refine ⟨_, List.Perm.refl _, ?_⟩
            refine wx_endp [(0, _)] [0, 3, 3, 3, 3] ⟨rfl, trivial⟩ rfl ?_
            exact ⟨U1, N1, P1, a1, a2, a3, rfl, by rw [bov_app, iv_app, iv_app]; rfl⟩
        · skip
          refine ks_e rfl (e_lit1 (cs := [_]) t22 rfl rfl rfl (by omega)) ?_
          rintro _ _ w7_19 ⟨b7_19, rfl, rfl⟩
          refine ⟨_, List.perm_middle.symm, ?_⟩
          refine wx_ef ?_
          refine ks_e rfl (e_lit1 (cs := [_]) t128 rfl rfl rfl (by omega)) ?_
          rintro _ _ w7_7 ⟨b7_7, rfl, rfl⟩
          refine ⟨_, List.perm_middle.symm, ?_⟩
          refine wx_ef ?_
          refine ks_e rfl (e_appN 4 t128 rfl rfl rfl (fun w hh => Rd.held0 hh (i := 1) rfl) (by simp [Value.oneCell']) (by omega) (by omega)) ?_
          rintro _ _ w7_8 ⟨⟨U1, a1, rfl⟩, rfl⟩
          refine ⟨_, List.Perm.refl _, ?_⟩
          refine wx_ef ?_
          refine ks_e rfl (e_appN 5 t22 rfl rfl rfl (fun w hh => Rd.held0 hh (i := 3) rfl) (by simp [Value.oneCell']) (by omega) (by omega)) ?_
          rintro _ _ w7_14 ⟨⟨N1, a2, rfl⟩, rfl⟩
          refine ⟨_, List.Perm.refl _, ?_⟩
          refine wx_ef ?_
          refine ks_e rfl (e_appN 6 t22 rfl rfl rfl (fun w hh => Rd.held0 hh (i := 2) rfl) (by simp [Value.oneCell']) (by omega) (by omega)) ?_
          rintro _ _ w7_20 ⟨⟨P1, a3, rfl⟩, rfl⟩
          refine ⟨_, List.Perm.refl _, ?_⟩
          refine wx_f rfl (f_nilCheck rfl) (wx_f rfl (f_fieldAddr 4 rfl Tryz.underlying182 rfl rfl (by kernel_rfl)) ?_)
          refine wx_ef ?_
          refine ks_e0 rfl (e_storeN 0 (us := [_]) rfl rfl rfl rfl (by kernel_rfl) (by simp [Value.oneCell']) rfl rfl) ?_
          rintro _ _ w7_23 rfl
          refine ⟨_, pick_perm [] _ rfl, ?_⟩
          refine wx_f rfl (f_nilCheck rfl) (wx_f rfl (f_fieldAddr 5 rfl Tryz.underlying182 rfl rfl (by kernel_rfl)) ?_)
          refine wx_ef ?_
          refine ks_e0 rfl (e_storeN 0 (us := [_]) rfl rfl rfl rfl (by kernel_rfl) (by simp [Value.oneCell']) rfl rfl) ?_
          rintro _ _ w7_26 rfl
          refine ⟨_, List.Perm.refl _, ?_⟩
          refine wx_f rfl (f_nilCheck rfl) (wx_f rfl (f_fieldAddr 6 rfl Tryz.underlying182 rfl rfl (by kernel_rfl)) ?_)
          refine wx_ef ?_
          refine ks_e0 rfl (e_storeN 0 (us := [_]) rfl rfl rfl rfl (by kernel_rfl) (by simp [Value.oneCell']) rfl rfl) ?_
          rintro _ _ w7_29 rfl
          refine ⟨_, List.Perm.refl _, ?_⟩
          refine wx_endp [(0, _)] [0, 3, 3, 3, 3] ⟨rfl, trivial⟩ rfl ?_
          exact ⟨U1, N1, P1, a1, a2, a3, rfl, by rw [bov_app, iv_app, iv_app]; rfl⟩
      · skip
        refine ks_e rfl (e_lit1 (cs := [_]) t22 rfl rfl rfl (by omega)) ?_
        rintro _ _ w7_19 ⟨b7_19, rfl, rfl⟩
        refine ⟨_, List.perm_middle.symm, ?_⟩
        refine wx_two ?_ ?_
        · skip
          refine ks_e rfl (e_lit1 (cs := [_]) t128 rfl rfl rfl (by omega)) ?_
          rintro _ _ w7_7 ⟨b7_7, rfl, rfl⟩
          refine ⟨_, List.perm_middle.symm, ?_⟩
          refine wx_two ?_ ?_
          · skip
            refine ks_e rfl (e_appN 3 t128 rfl rfl rfl (fun w hh => Rd.held0 hh (i := 1) rfl) (by simp [Value.oneCell']) (by omega) (by omega)) ?_
            rintro _ _ w7_8 ⟨⟨U1, a1, rfl⟩, rfl⟩
            refine ⟨_, List.Perm.refl _, ?_⟩
            refine wx_ef ?_
            refine ks_e rfl (e_lit1 (cs := [_]) t22 rfl rfl rfl (by omega)) ?_
            rintro _ _ w7_13 ⟨b7_13, rfl, rfl⟩
            refine ⟨_, List.perm_middle.symm, ?_⟩
            refine wx_ef ?_
            refine ks_e rfl (e_appN 5 t22 rfl rfl rfl (fun w hh => Rd.held0 hh (i := 1) rfl) (by simp [Value.oneCell']) (by omega) (by omega)) ?_
            rintro _ _ w7_14 ⟨⟨N1, a2, rfl⟩, rfl⟩
            refine ⟨_, List.Perm.refl _, ?_⟩
            refine wx_ef ?_
            refine ks_e rfl (e_appN 6 t22 rfl rfl rfl (fun w hh => Rd.held0 hh (i := 3) rfl) (by simp [Value.oneCell']) (by omega) (by omega)) ?_
            rintro _ _ w7_20 ⟨⟨P1, a3, rfl⟩, rfl⟩
            refine ⟨_, List.Perm.refl _, ?_⟩
            refine wx_f rfl (f_nilCheck rfl) (wx_f rfl (f_fieldAddr 4 rfl Tryz.underlying182 rfl rfl (by kernel_rfl)) ?_)
            refine wx_ef ?_
            refine ks_e0 rfl (e_storeN 0 (us := [_]) rfl rfl rfl rfl (by kernel_rfl) (by simp [Value.oneCell']) rfl rfl) ?_
            rintro _ _ w7_23 rfl
            refine ⟨_, pick_perm [] _ rfl, ?_⟩
            refine wx_f rfl (f_nilCheck rfl) (wx_f rfl (f_fieldAddr 5 rfl Tryz.underlying182 rfl rfl (by kernel_rfl)) ?_)
            refine wx_ef ?_
            refine ks_e0 rfl (e_storeN 0 (us := [_]) rfl rfl rfl rfl (by kernel_rfl) (by simp [Value.oneCell']) rfl rfl) ?_
            rintro _ _ w7_26 rfl
            refine ⟨_, List.Perm.refl _, ?_⟩
            refine wx_f rfl (f_nilCheck rfl) (wx_f rfl (f_fieldAddr 6 rfl Tryz.underlying182 rfl rfl (by kernel_rfl)) ?_)
            refine wx_ef ?_
            refine ks_e0 rfl (e_storeN 0 (us := [_]) rfl rfl rfl rfl (by kernel_rfl) (by simp [Value.oneCell']) rfl rfl) ?_
            rintro _ _ w7_29 rfl
            refine ⟨_, List.Perm.refl _, ?_⟩
            refine wx_endp [(0, _)] [0, 3, 3, 3, 3] ⟨rfl, trivial⟩ rfl ?_
            exact ⟨U1, N1, P1, a1, a2, a3, rfl, by rw [bov_app, iv_app, iv_app]; rfl⟩
          · skip
            refine ks_e rfl (e_lit1 (cs := [_]) t22 rfl rfl rfl (by omega)) ?_
            rintro _ _ w7_13 ⟨b7_13, rfl, rfl⟩
            refine ⟨_, List.perm_middle.symm, ?_⟩
            refine wx_ef ?_
            refine ks_e rfl (e_appN 4 t128 rfl rfl rfl (fun w hh => Rd.held0 hh (i := 2) rfl) (by simp [Value.oneCell']) (by omega) (by omega)) ?_
            rintro _ _ w7_8 ⟨⟨U1, a1, rfl⟩, rfl⟩
            refine ⟨_, List.Perm.refl _, ?_⟩
            refine wx_ef ?_
            refine ks_e rfl (e_appN 5 t22 rfl rfl rfl (fun w hh => Rd.held0 hh (i := 1) rfl) (by simp [Value.oneCell']) (by omega) (by omega)) ?_
            rintro _ _ w7_14 ⟨⟨N1, a2, rfl⟩, rfl⟩
            refine ⟨_, List.Perm.refl _, ?_⟩
            refine wx_ef ?_
            refine ks_e rfl (e_appN 6 t22 rfl rfl rfl (fun w hh => Rd.held0 hh (i := 3) rfl) (by simp [Value.oneCell']) (by omega) (by omega)) ?_
            rintro _ _ w7_20 ⟨⟨P1, a3, rfl⟩, rfl⟩
            refine ⟨_, List.Perm.refl _, ?_⟩
            refine wx_f rfl (f_nilCheck rfl) (wx_f rfl (f_fieldAddr 4 rfl Tryz.underlying182 rfl rfl (by kernel_rfl)) ?_)
            refine wx_ef ?_
            refine ks_e0 rfl (e_storeN 0 (us := [_]) rfl rfl rfl rfl (by kernel_rfl) (by simp [Value.oneCell']) rfl rfl) ?_
            rintro _ _ w7_23 rfl
            refine ⟨_, pick_perm [] _ rfl, ?_⟩
            refine wx_f rfl (f_nilCheck rfl) (wx_f rfl (f_fieldAddr 5 rfl Tryz.underlying182 rfl rfl (by kernel_rfl)) ?_)
            refine wx_ef ?_
            refine ks_e0 rfl (e_storeN 0 (us := [_]) rfl rfl rfl rfl (by kernel_rfl) (by simp [Value.oneCell']) rfl rfl) ?_
            rintro _ _ w7_26 rfl
            refine ⟨_, List.Perm.refl _, ?_⟩
            refine wx_f rfl (f_nilCheck rfl) (wx_f rfl (f_fieldAddr 6 rfl Tryz.underlying182 rfl rfl (by kernel_rfl)) ?_)
            refine wx_ef ?_
            refine ks_e0 rfl (e_storeN 0 (us := [_]) rfl rfl rfl rfl (by kernel_rfl) (by simp [Value.oneCell']) rfl rfl) ?_
            rintro _ _ w7_29 rfl
            refine ⟨_, List.Perm.refl _, ?_⟩
            refine wx_endp [(0, _)] [0, 3, 3, 3, 3] ⟨rfl, trivial⟩ rfl ?_
            exact ⟨U1, N1, P1, a1, a2, a3, rfl, by rw [bov_app, iv_app, iv_app]; rfl⟩
        · skip
          refine ks_e rfl (e_lit1 (cs := [_]) t22 rfl rfl rfl (by omega)) ?_
          rintro _ _ w7_13 ⟨b7_13, rfl, rfl⟩
          refine ⟨_, List.perm_middle.symm, ?_⟩
          refine wx_ef ?_
          refine ks_e rfl (e_lit1 (cs := [_]) t128 rfl rfl rfl (by omega)) ?_
          rintro _ _ w7_7 ⟨b7_7, rfl, rfl⟩
          refine ⟨_, List.perm_middle.symm, ?_⟩
          refine wx_ef ?_
          refine ks_e rfl (e_appN 4 t128 rfl rfl rfl (fun w hh => Rd.held0 hh (i := 1) rfl) (by simp [Value.oneCell']) (by omega) (by omega)) ?_
          rintro _ _ w7_8 ⟨⟨U1, a1, rfl⟩, rfl⟩
          refine ⟨_, List.Perm.refl _, ?_⟩
          refine wx_ef ?_
          refine ks_e rfl (e_appN 5 t22 rfl rfl rfl (fun w hh => Rd.held0 hh (i := 2) rfl) (by simp [Value.oneCell']) (by omega) (by omega)) ?_
          rintro _ _ w7_14 ⟨⟨N1, a2, rfl⟩, rfl⟩
          refine ⟨_, List.Perm.refl _, ?_⟩
          refine wx_ef ?_
          refine ks_e rfl (e_appN 6 t22 rfl rfl rfl (fun w hh => Rd.held0 hh (i := 3) rfl) (by simp [Value.oneCell']) (by omega) (by omega)) ?_
          rintro _ _ w7_20 ⟨⟨P1, a3, rfl⟩, rfl⟩
          refine ⟨_, List.Perm.refl _, ?_⟩
          refine wx_f rfl (f_nilCheck rfl) (wx_f rfl (f_fieldAddr 4 rfl Tryz.underlying182 rfl rfl (by kernel_rfl)) ?_)
          refine wx_ef ?_
          refine ks_e0 rfl (e_storeN 0 (us := [_]) rfl rfl rfl rfl (by kernel_rfl) (by simp [Value.oneCell']) rfl rfl) ?_
          rintro _ _ w7_23 rfl
          refine ⟨_, pick_perm [] _ rfl, ?_⟩
          refine wx_f rfl (f_nilCheck rfl) (wx_f rfl (f_fieldAddr 5 rfl Tryz.underlying182 rfl rfl (by kernel_rfl)) ?_)
          refine wx_ef ?_
          refine ks_e0 rfl (e_storeN 0 (us := [_]) rfl rfl rfl rfl (by kernel_rfl) (by simp [Value.oneCell']) rfl rfl) ?_
          rintro _ _ w7_26 rfl
          refine ⟨_, List.Perm.refl _, ?_⟩
          refine wx_f rfl (f_nilCheck rfl) (wx_f rfl (f_fieldAddr 6 rfl Tryz.underlying182 rfl rfl (by kernel_rfl)) ?_)
          refine wx_ef ?_
          refine ks_e0 rfl (e_storeN 0 (us := [_]) rfl rfl rfl rfl (by kernel_rfl) (by simp [Value.oneCell']) rfl rfl) ?_
          rintro _ _ w7_29 rfl
          refine ⟨_, List.Perm.refl _, ?_⟩
          refine wx_endp [(0, _)] [0, 3, 3, 3, 3] ⟨rfl, trivial⟩ rfl ?_
          exact ⟨U1, N1, P1, a1, a2, a3, rfl, by rw [bov_app, iv_app, iv_app]; rfl⟩
    rintro _ _ w7_ ⟨U1, N1, P1, a1, a2, a3, rfl, rfl⟩
    refine w_seq ?_
    refine w_drawk [(0, true), (1, true), (2, true), (3, true), (4, true), (5, false), (6, true), (7, false), (8, false), (9, false), (10, true), (11, true), (12, false)] ([(_, some 12)]) ([_, _, _, _]) mixed (by kernel_rfl) (by kernel_rfl) rfl rfl (List.Perm.refl _) (fun w8_ => ?_)
    refine wk_f rfl (f_move rfl) (wk_f rfl (f_move rfl) (wk_f rfl (f_nilCheck rfl) (wk_f rfl (f_fieldAddr 7 rfl Tryz.underlying182 rfl rfl (by kernel_rfl)) ?_)))
    refine wk_f rfl (f_loadb 0 rfl Tryz.underlying22 rfl rfl rfl) ?_
    refine wk_e rfl (e_alloc1 (.int .i64 0) (by kernel_rfl) rfl) ?_
    rintro _ _ w8_5 ⟨b8_5, rfl, rfl⟩
    refine ⟨_, List.perm_middle.symm, ?_⟩
    refine wk_f rfl (f_nilCheck rfl) (wk_e rfl (f_loadb 1 rfl Tryz.underlying3 rfl rfl rfl).eff ?_)
    rintro _ _ _ ⟨rfl, rfl⟩
    refine ⟨_, List.Perm.refl _, ?_⟩
    refine wk_e rfl (e_lit1 (cs := [_]) t22 rfl rfl rfl (by omega)) ?_
    rintro _ _ w8_8 ⟨b8_8, rfl, rfl⟩
    refine ⟨_, List.perm_middle.symm, ?_⟩
    refine wk_e rfl (e_appN 6 t22 rfl rfl rfl (fun w hh => Rd.held0 hh (i := 1) rfl) (by simp [Value.oneCell']) (by omega) (by omega)) ?_
    rintro _ _ w8_9 ⟨⟨V1, a4, rfl⟩, rfl⟩
    refine ⟨_, List.Perm.refl _, ?_⟩
    refine wk_f rfl (f_nilCheck rfl) (wk_f rfl (f_fieldAddr 7 rfl Tryz.underlying182 rfl rfl (by kernel_rfl)) ?_)
    refine wk_e0 rfl (e_store0 (us := [_]) rfl rfl rfl (by kernel_rfl) (by simp [Value.oneCell']) rfl rfl) ?_
    rintro _ _ w8_12 rfl
    refine ⟨_, List.Perm.refl _, ?_⟩
    refine wk_endp [(0, _)] [0, 2, 2, 2, 2] ⟨rfl, trivial⟩ rfl ?_
    refine w_seq (w_reg (wl_f (f_move rfl) (wl_f (f_nilCheck rfl) (wl_f (f_fieldAddr 4 rfl Tryz.underlying182 rfl rfl (by kernel_rfl)) ?_))))
    refine wl_f (f_loadb 0 rfl Tryz.underlying128 rfl rfl rfl) ?_
    refine wl_f (f_len rfl Tryz.underlying128) ?_
    refine wl_f (f_sub rfl rfl (by omega)) ?_
    refine wl_f (f_assign rfl) (wl_end [(2, _)] ⟨rfl, trivial⟩ ?_)
    refine w_bun (H := []) [_, _, _, _, _] ?_
    refine w_ret ?_
    refine ⟨_, _, fun a ha hh => results_tmps Tryz.results137 rfl a ha _, List.Sublist.refl _, ?_⟩
    refine ⟨used.length, _, ?_, rfl, .slice U1 (used.length + 1) a1, .slice N1 (used.length + 1) a2, .slice P1 (used.length + 1) a3, .slice V1 (used.length + 1) a4, used ++ [false], nx ++ [-1], pv ++ [-1], vs ++ [(kInt).zero], ?_, hc.more (by omega) _ _ _, by simp, hc.fresh (by simp) hall⟩
    · show Value.int .i64 _ = _
      congr 1
      omega
    · rw [chs, List.length_append, vc_app]; rfl
set_option maxHeartbeats 4000000 in
theorem bfree_spec (b n : Nat) (l : List (Nat × _)) (r : Res) (w : World) (hn : n ≤ 8192) (hl : l.length < n) (hr : ChR kBuc b n l r) (hs : Holds w r.foot [r] w) :
    Spec Tryz.prog 136 [.pointer (some ⟨b, 0, .none⟩)] w r.foot fun v H => ∃ (x : Nat) (r' : Res), v = .int .i64 x ∧ H = [r'] ∧ ChF kBuc b n l x r' := by
  obtain ⟨uV, nV, pV, vV, used, nx, pv, vs, rfl, hc⟩ := hr
  have hle := hc.le
  refine enter (n := 64) Tryz.func136 rfl rfl [(0, _)] rfl ⟨rfl, trivial⟩ hs ?_
  refine w_unb (chs kBuc b n l uV nV pV vV used nx pv vs) ?_
  refine w_with fun hh => ?_
  obtain ⟨U, cu, rfl⟩ := row_slice hh (i := 1) rfl
  clear hh
  refine w_seq (w_reg (wl_f (f_assign rfl) (wl_end [(0, _)] ⟨rfl, trivial⟩ ?_)))
  refine w_seq (w_seq (w_reg (wl_f (f_move rfl) (wl_f (f_nilCheck rfl) (wl_f (f_fieldAddr 4 rfl Tryz.underlying131 rfl rfl (by kernel_rfl)) ?_)))))
  refine wl_f (f_loadb 0 rfl Tryz.underlying128 rfl rfl rfl) ?_
  refine wl_f (f_len rfl Tryz.underlying128) ?_
  refine wl_f (f_move rfl) (wl_end [(0, _), (8, _), (9, _), (10, _)] ⟨rfl, rfl, rfl, rfl, trivial⟩ ?_)
  refine w_block ?_
  refine w_loop (fun k m H w => ∃ i : Nat, m = [(0, .pointer (some ⟨b, 0, .none⟩)), (8, .slice U used.length cu), (9, .int .i64 used.length), (10, .int .i64 i)] ∧ H = chs kBuc b n l (.slice U used.length cu) nV pV vV used nx pv vs ∧ k + i = used.length ∧ ∀ j < i, used[j]? = some true) used.length
    ⟨0, rfl, rfl, by omega, by omega⟩ ?_
  rintro k _ _ w1 ⟨i, rfl, rfl, hk, hall⟩
  refine w_seq (w_reg (wl_f (f_lss rfl rfl) ?_))
  refine wl_end [(0, _), (8, _), (9, _), (10, _), (11, _)] ⟨rfl, rfl, rfl, rfl, rfl, trivial⟩ ?_
  refine w_seq ?_
  refine w_ifd rfl (fun hc1 => ?_) (fun hc1 => ?_)
  · skip
    have hi : i < used.length := by omega
    refine w_skip ?_
    refine w_seq (w_block ?_)
    refine w_seq (w_reg (wl_f (f_move rfl) (wl_with fun hh => ?_)))
    obtain ⟨g, cap, e⟩ := row_form hh (i := 1) rfl (by omega)
    injection e with e1 _ e3
    subst e1; subst e3
    clear hh
    refine wl_f (f_indexAddr 1 (i := i) rfl rfl Tryz.underlying128 (by kernel_rfl) rfl hi) ?_
    refine wl_f (f_loadr (v := .bool used[i]) 1 rfl Tryz.underlying4 rfl rfl (map_get Value.bool (List.getElem?_eq_getElem hi))) ?_
    refine wl_f (f_assign rfl) (wl_f (f_assign rfl) (wl_end [(0, _), (3, _), (4, _), (8, _), (9, _), (10, _)] ⟨rfl, rfl, rfl, rfl, rfl, rfl, trivial⟩ ?_))
    refine w_seq (w_reg (wl_f (f_move rfl) (wl_f (f_not rfl rfl) ?_)))
    refine wl_end [(0, _), (3, _), (8, _), (9, _), (10, _), (16, _)] ⟨rfl, rfl, rfl, rfl, rfl, rfl, trivial⟩ ?_
    refine w_ifb rfl (fun hc2 => ?_) (fun hc2 => ?_)
    · skip
      have hf : used[i] = false := by simpa using hc2
      refine w_seq (w_reg (wl_f (f_move rfl) (wl_f (f_assign rfl) (wl_end [(2, _)] ⟨rfl, trivial⟩ ?_))))
      refine w_bun (H := []) (chs kBuc b n l (.slice (some ⟨g, 0, .none⟩) used.length cu) nV pV vV used nx pv vs) ?_
      refine w_ret ?_
      refine ⟨_, _, fun a ha hh => results_tmps Tryz.results136 rfl a ha _, List.Sublist.refl _, ?_⟩
      exact ⟨i, _, rfl, rfl, _, _, _, _, used, nx, pv, vs, rfl, hc, hi, hc.fresh (by rw [List.getElem?_eq_getElem hi, hf]; simp) hall⟩
    · skip
      have hf : used[i] = true := by simpa using hc2
      refine w_skip ?_
      refine w_reg (wl_f (f_add rfl rfl (by omega)) ?_)
      refine wl_f (f_move rfl) (wl_end [(0, _), (8, _), (9, _), (10, _)] ⟨rfl, rfl, rfl, rfl, trivial⟩ ?_)
      refine ⟨k - 1, by omega, i + 1, rfl, rfl, by omega, fun j hj => ?_⟩
      rcases Nat.lt_or_eq_of_le (Nat.le_of_lt_succ hj) with h | rfl
      · exact hall j h
      · rw [List.getElem?_eq_getElem hi, hf]
  · skip
    obtain rfl : i = used.length := by omega
    have hfull := hc.full hall
    refine w_exit0 ?_
    refine w_seq ?_
    refine w_post (fun m H w' => ∃ (U1 N1 P1 : Option Addr) (a1 a2 a3 : Nat), m = [(0, .pointer (some ⟨b, 0, .none⟩))] ∧
    H = [blk b [.int .i64 (n : Int), .int .i64 (l.length : Int), .int .i64 (hdE (-1) (nodes l)), .int .i64 (hdE (-1) (nodes l).reverse), .slice U1 (used.length + 1) a1, .slice N1 (used.length + 1) a2, .slice P1 (used.length + 1) a3, vV] (kBuc).list,
      row (.slice U1 (used.length + 1) a1) 4 1 (used.length + 1) (bov (used ++ [false])), row (.slice N1 (used.length + 1) a2) 3 1 (used.length + 1) (iv (nx ++ [-1])), row (.slice P1 (used.length + 1) a3) 3 1 (used.length + 1) (iv (pv ++ [-1])),
      row vV (kBuc).elem (kBuc).sz used.length (vcells kBuc vs)]) ?_ ?_
    · skip
      refine w_drawx (.fl 0 (.fl 1 (.fl 2 (.fl 3 (.fl 4 (.fl 5 (.fl 6 (.fl 9 (.fl 10 (.fl 11 (.fl 12 (.fl 15 (.fl 16 (.fl 17 (.fl 18 (.three 7 (.three 8 (.two 13 (.two 14 (.ef 19 (.ef 20 (.fl 21 (.fl 22 (.ef 23 (.fl 24 (.fl 25 (.ef 26 (.fl 27 (.fl 28 (.ef 29 .done))))))))))) 19 (.ef 14 (.ef 20 (.fl 21 (.fl 22 (.ef 23 (.fl 24 (.fl 25 (.ef 26 (.fl 27 (.fl 28 (.ef 29 .done)))))))))))) 19 (.ef 13 (.ef 14 (.ef 20 (.fl 21 (.fl 22 (.ef 23 (.fl 24 (.fl 25 (.ef 26 (.fl 27 (.fl 28 (.ef 29 .done))))))))))))) 13 (.two 8 (.two 14 (.ef 19 (.ef 20 (.fl 21 (.fl 22 (.ef 23 (.fl 24 (.fl 25 (.ef 26 (.fl 27 (.fl 28 (.ef 29 .done))))))))))) 19 (.ef 14 (.ef 20 (.fl 21 (.fl 22 (.ef 23 (.fl 24 (.fl 25 (.ef 26 (.fl 27 (.fl 28 (.ef 29 .done)))))))))))) 19 (.ef 8 (.ef 14 (.ef 20 (.fl 21 (.fl 22 (.ef 23 (.fl 24 (.fl 25 (.ef 26 (.fl 27 (.fl 28 (.ef 29 .done))))))))))))) 19 (.two 8 (.ef 13 (.ef 14 (.ef 20 (.fl 21 (.fl 22 (.ef 23 (.fl 24 (.fl 25 (.ef 26 (.fl 27 (.fl 28 (.ef 29 .done)))))))))))) 13 (.ef 8 (.ef 14 (.ef 20 (.fl 21 (.fl 22 (.ef 23 (.fl 24 (.fl 25 (.ef 26 (.fl 27 (.fl 28 (.ef 29 .done)))))))))))))) 13 (.two 7 (.two 8 (.two 14 (.ef 19 (.ef 20 (.fl 21 (.fl 22 (.ef 23 (.fl 24 (.fl 25 (.ef 26 (.fl 27 (.fl 28 (.ef 29 .done))))))))))) 19 (.ef 14 (.ef 20 (.fl 21 (.fl 22 (.ef 23 (.fl 24 (.fl 25 (.ef 26 (.fl 27 (.fl 28 (.ef 29 .done)))))))))))) 19 (.ef 8 (.ef 14 (.ef 20 (.fl 21 (.fl 22 (.ef 23 (.fl 24 (.fl 25 (.ef 26 (.fl 27 (.fl 28 (.ef 29 .done))))))))))))) 19 (.ef 7 (.ef 8 (.ef 14 (.ef 20 (.fl 21 (.fl 22 (.ef 23 (.fl 24 (.fl 25 (.ef 26 (.fl 27 (.fl 28 (.ef 29 .done)))))))))))))) 19 (.two 7 (.two 8 (.ef 13 (.ef 14 (.ef 20 (.fl 21 (.fl 22 (.ef 23 (.fl 24 (.fl 25 (.ef 26 (.fl 27 (.fl 28 (.ef 29 .done)))))))))))) 13 (.ef 8 (.ef 14 (.ef 20 (.fl 21 (.fl 22 (.ef 23 (.fl 24 (.fl 25 (.ef 26 (.fl 27 (.fl 28 (.ef 29 .done))))))))))))) 13 (.ef 7 (.ef 8 (.ef 14 (.ef 20 (.fl 21 (.fl 22 (.ef 23 (.fl 24 (.fl 25 (.ef 26 (.fl 27 (.fl 28 (.ef 29 .done)))))))))))))))))))))))))))))) ([(_, some 23)]) ([_, _, _, _]) mixed (by kernel_rfl) (by kernel_rfl) rfl rfl (List.Perm.refl _) (fun w7_ => ?_)
      refine wx_f rfl (f_move rfl) (wx_f rfl (f_move rfl) (wx_f rfl (f_move rfl) (wx_f rfl (f_move rfl) (wx_f rfl (f_nilCheck rfl) (wx_f rfl (f_fieldAddr 4 rfl Tryz.underlying131 rfl rfl (by kernel_rfl)) ?_)))))
      refine wx_f rfl (f_loadb 0 rfl Tryz.underlying128 rfl rfl rfl) ?_
      refine wx_f rfl (f_move rfl) (wx_f rfl (f_nilCheck rfl) (wx_f rfl (f_fieldAddr 5 rfl Tryz.underlying131 rfl rfl (by kernel_rfl)) ?_))
      refine wx_f rfl (f_loadb 0 rfl Tryz.underlying22 rfl rfl rfl) ?_
      refine wx_f rfl (f_move rfl) (wx_f rfl (f_nilCheck rfl) (wx_f rfl (f_fieldAddr 6 rfl Tryz.underlying131 rfl rfl (by kernel_rfl)) ?_))
      refine wx_f rfl (f_loadb 0 rfl Tryz.underlying22 rfl rfl rfl) ?_
      refine wx_three ?_ ?_ ?_
      · skip
        refine ks_e rfl (e_lit1 (cs := [_]) t128 rfl rfl rfl (by omega)) ?_
        rintro _ _ w7_7 ⟨b7_7, rfl, rfl⟩
        refine ⟨_, List.perm_middle.symm, ?_⟩
        refine wx_three ?_ ?_ ?_
        · skip
          refine ks_e rfl (e_appN 2 t128 rfl rfl rfl (fun w hh => Rd.held0 hh (i := 1) rfl) (by simp [Value.oneCell']) (by omega) (by omega)) ?_
          rintro _ _ w7_8 ⟨⟨U1, a1, rfl⟩, rfl⟩
          refine ⟨_, List.Perm.refl _, ?_⟩
          refine wx_two ?_ ?_
          · skip
            refine ks_e rfl (e_lit1 (cs := [_]) t22 rfl rfl rfl (by omega)) ?_
            rintro _ _ w7_13 ⟨b7_13, rfl, rfl⟩
            refine ⟨_, List.perm_middle.symm, ?_⟩
            refine wx_two ?_ ?_
            · skip
              refine ks_e rfl (e_appN 4 t22 rfl rfl rfl (fun w hh => Rd.held0 hh (i := 1) rfl) (by simp [Value.oneCell']) (by omega) (by omega)) ?_
              rintro _ _ w7_14 ⟨⟨N1, a2, rfl⟩, rfl⟩
              refine ⟨_, List.Perm.refl _, ?_⟩
              refine wx_ef ?_
              refine ks_e rfl (e_lit1 (cs := [_]) t22 rfl rfl rfl (by omega)) ?_
              rintro _ _ w7_19 ⟨b7_19, rfl, rfl⟩
              refine ⟨_, List.perm_middle.symm, ?_⟩
              refine wx_ef ?_
              refine ks_e rfl (e_appN 6 t22 rfl rfl rfl (fun w hh => Rd.held0 hh (i := 1) rfl) (by simp [Value.oneCell']) (by omega) (by omega)) ?_
              rintro _ _ w7_20 ⟨⟨P1, a3, rfl⟩, rfl⟩
              refine ⟨_, List.Perm.refl _, ?_⟩
              refine wx_f rfl (f_nilCheck rfl) (wx_f rfl (f_fieldAddr 4 rfl Tryz.underlying131 rfl rfl (by kernel_rfl)) ?_)
              refine wx_ef ?_
              refine ks_e0 rfl (e_storeN 0 (us := [_]) rfl rfl rfl rfl (by kernel_rfl) (by simp [Value.oneCell']) rfl rfl) ?_
              rintro _ _ w7_23 rfl
              refine ⟨_, pick_perm [] _ rfl, ?_⟩
              refine wx_f rfl (f_nilCheck rfl) (wx_f rfl (f_fieldAddr 5 rfl Tryz.underlying131 rfl rfl (by kernel_rfl)) ?_)
              refine wx_ef ?_
              refine ks_e0 rfl (e_storeN 0 (us := [_]) rfl rfl rfl rfl (by kernel_rfl) (by simp [Value.oneCell']) rfl rfl) ?_
              rintro _ _ w7_26 rfl
              refine ⟨_, List.Perm.refl _, ?_⟩
              refine wx_f rfl (f_nilCheck rfl) (wx_f rfl (f_fieldAddr 6 rfl Tryz.underlying131 rfl rfl (by kernel_rfl)) ?_)
              refine wx_ef ?_
              refine ks_e0 rfl (e_storeN 0 (us := [_]) rfl rfl rfl rfl (by kernel_rfl) (by simp [Value.oneCell']) rfl rfl) ?_
              rintro _ _ w7_29 rfl
              refine ⟨_, List.Perm.refl _, ?_⟩
              refine wx_endp [(0, _)] [0, 3, 3, 3, 3] ⟨rfl, trivial⟩ rfl ?_
              exact ⟨U1, N1, P1, a1, a2, a3, rfl, by rw [bov_app, iv_app, iv_app]; rfl⟩
            · skip
              refine ks_e rfl (e_lit1 (cs := [_]) t22 rfl rfl rfl (by omega)) ?_
              rintro _ _ w7_19 ⟨b7_19, rfl, rfl⟩
              refine ⟨_, List.perm_middle.symm, ?_⟩
              refine wx_ef ?_
              refine ks_e rfl (e_appN 5 t22 rfl rfl rfl (fun w hh => Rd.held0 hh (i := 2) rfl) (by simp [Value.oneCell']) (by omega) (by omega)) ?_
              rintro _ _ w7_14 ⟨⟨N1, a2, rfl⟩, rfl⟩
              refine ⟨_, List.Perm.refl _, ?_⟩
              refine wx_ef ?_
              refine ks_e rfl (e_appN 6 t22 rfl rfl rfl (fun w hh => Rd.held0 hh (i := 1) rfl) (by simp [Value.oneCell']) (by omega) (by omega)) ?_
              rintro _ _ w7_20 ⟨⟨P1, a3, rfl⟩, rfl⟩
              refine ⟨_, List.Perm.refl _, ?_⟩
              refine wx_f rfl (f_nilCheck rfl) (wx_f rfl (f_fieldAddr 4 rfl Tryz.underlying131 rfl rfl (by kernel_rfl)) ?_)
              refine wx_ef ?_
              refine ks_e0 rfl (e_storeN 0 (us := [_]) rfl rfl rfl rfl (by kernel_rfl) (by simp [Value.oneCell']) rfl rfl) ?_
              rintro _ _ w7_23 rfl
              refine ⟨_, pick_perm [] _ rfl, ?_⟩
              refine wx_f rfl (f_nilCheck rfl) (wx_f rfl (f_fieldAddr 5 rfl Tryz.underlying131 rfl rfl (by kernel_rfl)) ?_)
              refine wx_ef ?_
              refine ks_e0 rfl (e_storeN 0 (us := [_]) rfl rfl rfl rfl (by kernel_rfl) (by simp [Value.oneCell']) rfl rfl) ?_
              rintro _ _ w7_26 rfl
              refine ⟨_, List.Perm.refl _, ?_⟩
              refine wx_f rfl (f_nilCheck rfl) (wx_f rfl (f_fieldAddr 6 rfl Tryz.underlying131 rfl rfl (by kernel_rfl)) ?_)
              refine wx_ef ?_
              refine ks_e0 rfl (e_storeN 0 (us := [_]) rfl rfl rfl rfl (by kernel_rfl) (by simp [Value.oneCell']) rfl rfl) ?_
              rintro _ _ w7_29 rfl
              refine ⟨_, List.Perm.refl _, ?_⟩
              refine wx_endp [(0, _)] [0, 3, 3, 3, 3] ⟨rfl, trivial⟩ rfl ?_
              exact ⟨U1, N1, P1, a1, a2, a3, rfl, by rw [bov_app, iv_app, iv_app]; rfl⟩
          · skip
            refine ks_e rfl (e_lit1 (cs := [_]) t22 rfl rfl rfl (by omega)) ?_
            rintro _ _ w7_19 ⟨b7_19, rfl, rfl⟩
            refine ⟨_, List.perm_middle.symm, ?_⟩
            refine wx_ef ?_
            refine ks_e rfl (e_lit1 (cs := [_]) t22 rfl rfl rfl (by omega)) ?_
            rintro _ _ w7_13 ⟨b7_13, rfl, rfl⟩
            refine ⟨_, List.perm_middle.symm, ?_⟩
            refine wx_ef ?_
            refine ks_e rfl (e_appN 5 t22 rfl rfl rfl (fun w hh => Rd.held0 hh (i := 1) rfl) (by simp [Value.oneCell']) (by omega) (by omega)) ?_
            rintro _ _ w7_14 ⟨⟨N1, a2, rfl⟩, rfl⟩
            refine ⟨_, List.Perm.refl _, ?_⟩
            refine wx_ef ?_
            refine ks_e rfl (e_appN 6 t22 rfl rfl rfl (fun w hh => Rd.held0 hh (i := 2) rfl) (by simp [Value.oneCell']) (by omega) (by omega)) ?_
            rintro _ _ w7_20 ⟨⟨P1, a3, rfl⟩, rfl⟩
            refine ⟨_, List.Perm.refl _, ?_⟩
            refine wx_f rfl (f_nilCheck rfl) (wx_f rfl (f_fieldAddr 4 rfl Tryz.underlying131 rfl rfl (by kernel_rfl)) ?_)
            refine wx_ef ?_
            refine ks_e0 rfl (e_storeN 0 (us := [_]) rfl rfl rfl rfl (by kernel_rfl) (by simp [Value.oneCell']) rfl rfl) ?_
            rintro _ _ w7_23 rfl
            refine ⟨_, pick_perm [] _ rfl, ?_⟩
            refine wx_f rfl (f_nilCheck rfl) (wx_f rfl (f_fieldAddr 5 rfl Tryz.underlying131 rfl rfl (by kernel_rfl)) ?_)
            refine wx_ef ?_
            refine ks_e0 rfl (e_storeN 0 (us := [_]) rfl rfl rfl rfl (by kernel_rfl) (by simp [Value.oneCell']) rfl rfl) ?_
            rintro _ _ w7_26 rfl
            refine ⟨_, List.Perm.refl _, ?_⟩
            refine wx_f rfl (f_nilCheck rfl) (wx_f rfl (f_fieldAddr 6 rfl Tryz.underlying131 rfl rfl (by kernel_rfl)) ?_)
            refine wx_ef ?_
            refine ks_e0 rfl (e_storeN 0 (us := [_]) rfl rfl rfl rfl (by kernel_rfl) (by simp [Value.oneCell']) rfl rfl) ?_
            rintro _ _ w7_29 rfl
            refine ⟨_, List.Perm.refl _, ?_⟩
            refine wx_endp [(0, _)] [0, 3, 3, 3, 3] ⟨rfl, trivial⟩ rfl ?_
            exact ⟨U1, N1, P1, a1, a2, a3, rfl, by rw [bov_app, iv_app, iv_app]; rfl⟩
        · skip
          refine ks_e rfl (e_lit1 (cs := [_]) t22 rfl rfl rfl (by omega)) ?_
          rintro _ _ w7_13 ⟨b7_13, rfl, rfl⟩
          refine ⟨_, List.perm_middle.symm, ?_⟩
          refine wx_two ?_ ?_
          · skip
            refine ks_e rfl (e_appN 3 t128 rfl rfl rfl (fun w hh => Rd.held0 hh (i := 2) rfl) (by simp [Value.oneCell']) (by omega) (by omega)) ?_
            rintro _ _ w7_8 ⟨⟨U1, a1, rfl⟩, rfl⟩
            refine ⟨_, List.Perm.refl _, ?_⟩
            refine wx_two ?_ ?_
            · skip
              refine ks_e rfl (e_appN 4 t22 rfl rfl rfl (fun w hh => Rd.held0 hh (i := 1) rfl) (by simp [Value.oneCell']) (by omega) (by omega)) ?_
              rintro _ _ w7_14 ⟨⟨N1, a2, rfl⟩, rfl⟩
              refine ⟨_, List.Perm.refl _, ?_⟩
              refine wx_ef ?_
              refine ks_e rfl (e_lit1 (cs := [_]) t22 rfl rfl rfl (by omega)) ?_
              rintro _ _ w7_19 ⟨b7_19, rfl, rfl⟩
              refine ⟨_, List.perm_middle.symm, ?_⟩
              refine wx_ef ?_
              refine ks_e rfl (e_appN 6 t22 rfl rfl rfl (fun w hh => Rd.held0 hh (i := 1) rfl) (by simp [Value.oneCell']) (by omega) (by omega)) ?_
              rintro _ _ w7_20 ⟨⟨P1, a3, rfl⟩, rfl⟩
              refine ⟨_, List.Perm.refl _, ?_⟩
              refine wx_f rfl (f_nilCheck rfl) (wx_f rfl (f_fieldAddr 4 rfl Tryz.underlying131 rfl rfl (by kernel_rfl)) ?_)
              refine wx_ef ?_
              refine ks_e0 rfl (e_storeN 0 (us := [_]) rfl rfl rfl rfl (by kernel_rfl) (by simp [Value.oneCell']) rfl rfl) ?_
              rintro _ _ w7_23 rfl
              refine ⟨_, pick_perm [] _ rfl, ?_⟩
              refine wx_f rfl (f_nilCheck rfl) (wx_f rfl (f_fieldAddr 5 rfl Tryz.underlying131 rfl rfl (by kernel_rfl)) ?_)
              refine wx_ef ?_
              refine ks_e0 rfl (e_storeN 0 (us := [_]) rfl rfl rfl rfl (by kernel_rfl) (by simp [Value.oneCell']) rfl rfl) ?_
              rintro _ _ w7_26 rfl
              refine ⟨_, List.Perm.refl _, ?_⟩
              refine wx_f rfl (f_nilCheck rfl) (wx_f rfl (f_fieldAddr 6 rfl Tryz.underlying131 rfl rfl (by kernel_rfl)) ?_)
              refine wx_ef ?_
              refine ks_e0 rfl (e_storeN 0 (us := [_]) rfl rfl rfl rfl (by kernel_rfl) (by simp [Value.oneCell']) rfl rfl) ?_
              rintro _ _ w7_29 rfl
              refine ⟨_, List.Perm.refl _, ?_⟩
              refine wx_endp [(0, _)] [0, 3, 3, 3, 3] ⟨rfl, trivial⟩ rfl ?_
              exact ⟨U1, N1, P1, a1, a2, a3, rfl, by rw [bov_app, iv_app, iv_app]; rfl⟩
            · skip
              refine ks_e rfl (e_lit1 (cs := [_]) t22 rfl rfl rfl (by omega)) ?_
              rintro _ _ w7_19 ⟨b7_19, rfl, rfl⟩
              refine ⟨_, List.perm_middle.symm, ?_⟩
              refine wx_ef ?_
              refine ks_e rfl (e_appN 5 t22 rfl rfl rfl (fun w hh => Rd.held0 hh (i := 2) rfl) (by simp [Value.oneCell']) (by omega) (by omega)) ?_
              rintro _ _ w7_14 ⟨⟨N1, a2, rfl⟩, rfl⟩
              refine ⟨_, List.Perm.refl _, ?_⟩
              refine wx_ef ?_
              refine ks_e rfl (e_appN 6 t22 rfl rfl rfl (fun w hh => Rd.held0 hh (i := 1) rfl) (by simp [Value.oneCell']) (by omega) (by omega)) ?_
              rintro _ _ w7_20 ⟨⟨P1, a3, rfl⟩, rfl⟩
              refine ⟨_, List.Perm.refl _, ?_⟩
              refine wx_f rfl (f_nilCheck rfl) (wx_f rfl (f_fieldAddr 4 rfl Tryz.underlying131 rfl rfl (by kernel_rfl)) ?_)
              refine wx_ef ?_
              refine ks_e0 rfl (e_storeN 0 (us := [_]) rfl rfl rfl rfl (by kernel_rfl) (by simp [Value.oneCell']) rfl rfl) ?_
              rintro _ _ w7_23 rfl
              refine ⟨_, pick_perm [] _ rfl, ?_⟩
              refine wx_f rfl (f_nilCheck rfl) (wx_f rfl (f_fieldAddr 5 rfl Tryz.underlying131 rfl rfl (by kernel_rfl)) ?_)
              refine wx_ef ?_
              refine ks_e0 rfl (e_storeN 0 (us := [_]) rfl rfl rfl rfl (by kernel_rfl) (by simp [Value.oneCell']) rfl rfl) ?_
              rintro _ _ w7_26 rfl
              refine ⟨_, List.Perm.refl _, ?_⟩
              refine wx_f rfl (f_nilCheck rfl) (wx_f rfl (f_fieldAddr 6 rfl Tryz.underlying131 rfl rfl (by kernel_rfl)) ?_)
              refine wx_ef ?_
              refine ks_e0 rfl (e_storeN 0 (us := [_]) rfl rfl rfl rfl (by kernel_rfl) (by simp [Value.oneCell']) rfl rfl) ?_
              rintro _ _ w7_29 rfl
              refine ⟨_, List.Perm.refl _, ?_⟩
              refine wx_endp [(0, _)] [0, 3, 3, 3, 3] ⟨rfl, trivial⟩ rfl ?_
              exact ⟨U1, N1, P1, a1, a2, a3, rfl, by rw [bov_app, iv_app, iv_app]; rfl⟩
          · skip
            refine ks_e rfl (e_lit1 (cs := [_]) t22 rfl rfl rfl (by omega)) ?_
            rintro _ _ w7_19 ⟨b7_19, rfl, rfl⟩
            refine ⟨_, List.perm_middle.symm, ?_⟩
            refine wx_ef ?_
            refine ks_e rfl (e_appN 4 t128 rfl rfl rfl (fun w hh => Rd.held0 hh (i := 3) rfl) (by simp [Value.oneCell']) (by omega) (by omega)) ?_
            rintro _ _ w7_8 ⟨⟨U1, a1, rfl⟩, rfl⟩
            refine ⟨_, List.Perm.refl _, ?_⟩
            refine wx_ef ?_
            refine ks_e rfl (e_appN 5 t22 rfl rfl rfl (fun w hh => Rd.held0 hh (i := 2) rfl) (by simp [Value.oneCell']) (by omega) (by omega)) ?_
            rintro _ _ w7_14 ⟨⟨N1, a2, rfl⟩, rfl⟩
            refine ⟨_, List.Perm.refl _, ?_⟩
            refine wx_ef ?_
            refine ks_e rfl (e_appN 6 t22 rfl rfl rfl (fun w hh => Rd.held0 hh (i := 1) rfl) (by simp [Value.oneCell']) (by omega) (by omega)) ?_
            rintro _ _ w7_20 ⟨⟨P1, a3, rfl⟩, rfl⟩
            refine ⟨_, List.Perm.refl _, ?_⟩
            refine wx_f rfl (f_nilCheck rfl) (wx_f rfl (f_fieldAddr 4 rfl Tryz.underlying131 rfl rfl (by kernel_rfl)) ?_)
            refine wx_ef ?_
            refine ks_e0 rfl (e_storeN 0 (us := [_]) rfl rfl rfl rfl (by kernel_rfl) (by simp [Value.oneCell']) rfl rfl) ?_
            rintro _ _ w7_23 rfl
            refine ⟨_, pick_perm [] _ rfl, ?_⟩
            refine wx_f rfl (f_nilCheck rfl) (wx_f rfl (f_fieldAddr 5 rfl Tryz.underlying131 rfl rfl (by kernel_rfl)) ?_)
            refine wx_ef ?_
            refine ks_e0 rfl (e_storeN 0 (us := [_]) rfl rfl rfl rfl (by kernel_rfl) (by simp [Value.oneCell']) rfl rfl) ?_
            rintro _ _ w7_26 rfl
            refine ⟨_, List.Perm.refl _, ?_⟩
            refine wx_f rfl (f_nilCheck rfl) (wx_f rfl (f_fieldAddr 6 rfl Tryz.underlying131 rfl rfl (by kernel_rfl)) ?_)
            refine wx_ef ?_
            refine ks_e0 rfl (e_storeN 0 (us := [_]) rfl rfl rfl rfl (by kernel_rfl) (by simp [Value.oneCell']) rfl rfl) ?_
            rintro _ _ w7_29 rfl
            refine ⟨_, List.Perm.refl _, ?_⟩
            refine wx_endp [(0, _)] [0, 3, 3, 3, 3] ⟨rfl, trivial⟩ rfl ?_
            exact ⟨U1, N1, P1, a1, a2, a3, rfl, by rw [bov_app, iv_app, iv_app]; rfl⟩
        · skip
          refine ks_e rfl (e_lit1 (cs := [_]) t22 rfl rfl rfl (by omega)) ?_
          rintro _ _ w7_19 ⟨b7_19, rfl, rfl⟩
          refine ⟨_, List.perm_middle.symm, ?_⟩
          refine wx_two ?_ ?_
          · skip
            refine ks_e rfl (e_appN 3 t128 rfl rfl rfl (fun w hh => Rd.held0 hh (i := 2) rfl) (by simp [Value.oneCell']) (by omega) (by omega)) ?_
            rintro _ _ w7_8 ⟨⟨U1, a1, rfl⟩, rfl⟩
            refine ⟨_, List.Perm.refl _, ?_⟩
            refine wx_ef ?_
            refine ks_e rfl (e_lit1 (cs := [_]) t22 rfl rfl rfl (by omega)) ?_
            rintro _ _ w7_13 ⟨b7_13, rfl, rfl⟩
            refine ⟨_, List.perm_middle.symm, ?_⟩
            refine wx_ef ?_
            refine ks_e rfl (e_appN 5 t22 rfl rfl rfl (fun w hh => Rd.held0 hh (i := 1) rfl) (by simp [Value.oneCell']) (by omega) (by omega)) ?_
            rintro _ _ w7_14 ⟨⟨N1, a2, rfl⟩, rfl⟩
            refine ⟨_, List.Perm.refl _, ?_⟩
            refine wx_ef ?_
            refine ks_e rfl (e_appN 6 t22 rfl rfl rfl (fun w hh => Rd.held0 hh (i := 2) rfl) (by simp [Value.oneCell']) (by omega) (by omega)) ?_
            rintro _ _ w7_20 ⟨⟨P1, a3, rfl⟩, rfl⟩
            refine ⟨_, List.Perm.refl _, ?_⟩
            refine wx_f rfl (f_nilCheck rfl) (wx_f rfl (f_fieldAddr 4 rfl Tryz.underlying131 rfl rfl (by kernel_rfl)) ?_)
            refine wx_ef ?_
            refine ks_e0 rfl (e_storeN 0 (us := [_]) rfl rfl rfl rfl (by kernel_rfl) (by simp [Value.oneCell']) rfl rfl) ?_
            rintro _ _ w7_23 rfl
            refine ⟨_, pick_perm [] _ rfl, ?_⟩
            refine wx_f rfl (f_nilCheck rfl) (wx_f rfl (f_fieldAddr 5 rfl Tryz.underlying131 rfl rfl (by kernel_rfl)) ?_)
            refine wx_ef ?_
            refine ks_e0 rfl (e_storeN 0 (us := [_]) rfl rfl rfl rfl (by kernel_rfl) (by simp [Value.oneCell']) rfl rfl) ?_
            rintro _ _ w7_26 rfl
            refine ⟨_, List.Perm.refl _, ?_⟩
            refine wx_f rfl (f_nilCheck rfl) (wx_f rfl (f_fieldAddr 6 rfl Tryz.underlying131 rfl rfl (by kernel_rfl)) ?_)
            refine wx_ef ?_
            refine ks_e0 rfl (e_storeN 0 (us := [_]) rfl rfl rfl rfl (by kernel_rfl) (by simp [Value.oneCell']) rfl rfl) ?_
            rintro _ _ w7_29 rfl
            refine ⟨_, List.Perm.refl _, ?_⟩
            refine wx_endp [(0, _)] [0, 3, 3, 3, 3] ⟨rfl, trivial⟩ rfl ?_
            exact ⟨U1, N1, P1, a1, a2, a3, rfl, by rw [bov_app, iv_app, iv_app]; rfl⟩
          · skip
            refine ks_e rfl (e_lit1 (cs := [_]) t22 rfl rfl rfl (by omega)) ?_
            rintro _ _ w7_13 ⟨b7_13, rfl, rfl⟩
            refine ⟨_, List.perm_middle.symm, ?_⟩
            refine wx_ef ?_
            refine ks_e rfl (e_appN 4 t128 rfl rfl rfl (fun w hh => Rd.held0 hh (i := 3) rfl) (by simp [Value.oneCell']) (by omega) (by omega)) ?_
            rintro _ _ w7_8 ⟨⟨U1, a1, rfl⟩, rfl⟩
            refine ⟨_, List.Perm.refl _, ?_⟩
            refine wx_ef ?_
            refine ks_e rfl (e_appN 5 t22 rfl rfl rfl (fun w hh => Rd.held0 hh (i := 1) rfl) (by simp [Value.oneCell']) (by omega) (by omega)) ?_
            rintro _ _ w7_14 ⟨⟨N1, a2, rfl⟩, rfl⟩
            refine ⟨_, List.Perm.refl _, ?_⟩
            refine wx_ef ?_
            refine ks_e rfl (e_appN 6 t22 rfl rfl rfl (fun w hh => Rd.held0 hh (i := 2) rfl) (by simp [Value.oneCell']) (by omega) (by omega)) ?_
            rintro _ _ w7_20 ⟨⟨P1, a3, rfl⟩, rfl⟩
            refine ⟨_, List.Perm.refl _, ?_⟩
            refine wx_f rfl (f_nilCheck rfl) (wx_f rfl (f_fieldAddr 4 rfl Tryz.underlying131 rfl rfl (by kernel_rfl)) ?_)
            refine wx_ef ?_
            refine ks_e0 rfl (e_storeN 0 (us := [_]) rfl rfl rfl rfl (by kernel_rfl) (by simp [Value.oneCell']) rfl rfl) ?_
            rintro _ _ w7_23 rfl
            refine ⟨_, pick_perm [] _ rfl, ?_⟩
            refine wx_f rfl (f_nilCheck rfl) (wx_f rfl (f_fieldAddr 5 rfl Tryz.underlying131 rfl rfl (by kernel_rfl)) ?_)
            refine wx_ef ?_
            refine ks_e0 rfl (e_storeN 0 (us := [_]) rfl rfl rfl rfl (by kernel_rfl) (by simp [Value.oneCell']) rfl rfl) ?_
            rintro _ _ w7_26 rfl
            refine ⟨_, List.Perm.refl _, ?_⟩
            refine wx_f rfl (f_nilCheck rfl) (wx_f rfl (f_fieldAddr 6 rfl Tryz.underlying131 rfl rfl (by kernel_rfl)) ?_)
            refine wx_ef ?_
            refine ks_e0 rfl (e_storeN 0 (us := [_]) rfl rfl rfl rfl (by kernel_rfl) (by simp [Value.oneCell']) rfl rfl) ?_
            rintro _ _ w7_29 rfl
            refine ⟨_, List.Perm.refl _, ?_⟩
            refine wx_endp [(0, _)] [0, 3, 3, 3, 3] ⟨rfl, trivial⟩ rfl ?_
            exact ⟨U1, N1, P1, a1, a2, a3, rfl, by rw [bov_app, iv_app, iv_app]; rfl⟩
      · skip
        refine ks_e rfl (e_lit1 (cs := [_]) t22 rfl rfl rfl (by omega)) ?_
        rintro _ _ w7_13 ⟨b7_13, rfl, rfl⟩
        refine ⟨_, List.perm_middle.symm, ?_⟩
        refine wx_two ?_ ?_
        · skip
          refine ks_e rfl (e_lit1 (cs := [_]) t128 rfl rfl rfl (by omega)) ?_
          rintro _ _ w7_7 ⟨b7_7, rfl, rfl⟩
          refine ⟨_, List.perm_middle.symm, ?_⟩
          refine wx_two ?_ ?_
          · skip
            refine ks_e rfl (e_appN 3 t128 rfl rfl rfl (fun w hh => Rd.held0 hh (i := 1) rfl) (by simp [Value.oneCell']) (by omega) (by omega)) ?_
            rintro _ _ w7_8 ⟨⟨U1, a1, rfl⟩, rfl⟩
            refine ⟨_, List.Perm.refl _, ?_⟩
            refine wx_two ?_ ?_
            · skip
              refine ks_e rfl (e_appN 4 t22 rfl rfl rfl (fun w hh => Rd.held0 hh (i := 2) rfl) (by simp [Value.oneCell']) (by omega) (by omega)) ?_
              rintro _ _ w7_14 ⟨⟨N1, a2, rfl⟩, rfl⟩
              refine ⟨_, List.Perm.refl _, ?_⟩
              refine wx_ef ?_
              refine ks_e rfl (e_lit1 (cs := [_]) t22 rfl rfl rfl (by omega)) ?_
              rintro _ _ w7_19 ⟨b7_19, rfl, rfl⟩
              refine ⟨_, List.perm_middle.symm, ?_⟩
              refine wx_ef ?_
              refine ks_e rfl (e_appN 6 t22 rfl rfl rfl (fun w hh => Rd.held0 hh (i := 1) rfl) (by simp [Value.oneCell']) (by omega) (by omega)) ?_
              rintro _ _ w7_20 ⟨⟨P1, a3, rfl⟩, rfl⟩
              refine ⟨_, List.Perm.refl _, ?_⟩
              refine wx_f rfl (f_nilCheck rfl) (wx_f rfl (f_fieldAddr 4 rfl Tryz.underlying131 rfl rfl (by kernel_rfl)) ?_)
              refine wx_ef ?_
              refine ks_e0 rfl (e_storeN 0 (us := [_]) rfl rfl rfl rfl (by kernel_rfl) (by simp [Value.oneCell']) rfl rfl) ?_
              rintro _ _ w7_23 rfl
              refine ⟨_, pick_perm [] _ rfl, ?_⟩
              refine wx_f rfl (f_nilCheck rfl) (wx_f rfl (f_fieldAddr 5 rfl Tryz.underlying131 rfl rfl (by kernel_rfl)) ?_)
              refine wx_ef ?_
              refine ks_e0 rfl (e_storeN 0 (us := [_]) rfl rfl rfl rfl (by kernel_rfl) (by simp [Value.oneCell']) rfl rfl) ?_
              rintro _ _ w7_26 rfl
              refine ⟨_, List.Perm.refl _, ?_⟩
              refine wx_f rfl (f_nilCheck rfl) (wx_f rfl (f_fieldAddr 6 rfl Tryz.underlying131 rfl rfl (by kernel_rfl)) ?_)
              refine wx_ef ?_
              refine ks_e0 rfl (e_storeN 0 (us := [_]) rfl rfl rfl rfl (by kernel_rfl) (by simp [Value.oneCell']) rfl rfl) ?_
              rintro _ _ w7_29 rfl
              refine ⟨_, List.Perm.refl _, ?_⟩
              refine wx_endp [(0, _)] [0, 3, 3, 3, 3] ⟨rfl, trivial⟩ rfl ?_
              exact ⟨U1, N1, P1, a1, a2, a3, rfl, by rw [bov_app, iv_app, iv_app]; rfl⟩
            · skip
              refine ks_e rfl (e_lit1 (cs := [_]) t22 rfl rfl rfl (by omega)) ?_
              rintro _ _ w7_19 ⟨b7_19, rfl, rfl⟩
              refine ⟨_, List.perm_middle.symm, ?_⟩
              refine wx_ef ?_
              refine ks_e rfl (e_appN 5 t22 rfl rfl rfl (fun w hh => Rd.held0 hh (i := 3) rfl) (by simp [Value.oneCell']) (by omega) (by omega)) ?_
              rintro _ _ w7_14 ⟨⟨N1, a2, rfl⟩, rfl⟩
              refine ⟨_, List.Perm.refl _, ?_⟩
              refine wx_ef ?_
              refine ks_e rfl (e_appN 6 t22 rfl rfl rfl (fun w hh => Rd.held0 hh (i := 1) rfl) (by simp [Value.oneCell']) (by omega) (by omega)) ?_
              rintro _ _ w7_20 ⟨⟨P1, a3, rfl⟩, rfl⟩
              refine ⟨_, List.Perm.refl _, ?_⟩
              refine wx_f rfl (f_nilCheck rfl) (wx_f rfl (f_fieldAddr 4 rfl Tryz.underlying131 rfl rfl (by kernel_rfl)) ?_)
              refine wx_ef ?_
              refine ks_e0 rfl (e_storeN 0 (us := [_]) rfl rfl rfl rfl (by kernel_rfl) (by simp [Value.oneCell']) rfl rfl) ?_
              rintro _ _ w7_23 rfl
              refine ⟨_, pick_perm [] _ rfl, ?_⟩
              refine wx_f rfl (f_nilCheck rfl) (wx_f rfl (f_fieldAddr 5 rfl Tryz.underlying131 rfl rfl (by kernel_rfl)) ?_)
              refine wx_ef ?_
              refine ks_e0 rfl (e_storeN 0 (us := [_]) rfl rfl rfl rfl (by kernel_rfl) (by simp [Value.oneCell']) rfl rfl) ?_
              rintro _ _ w7_26 rfl
              refine ⟨_, List.Perm.refl _, ?_⟩
              refine wx_f rfl (f_nilCheck rfl) (wx_f rfl (f_fieldAddr 6 rfl Tryz.underlying131 rfl rfl (by kernel_rfl)) ?_)
              refine wx_ef ?_
              refine ks_e0 rfl (e_storeN 0 (us := [_]) rfl rfl rfl rfl (by kernel_rfl) (by simp [Value.oneCell']) rfl rfl) ?_
              rintro _ _ w7_29 rfl
              refine ⟨_, List.Perm.refl _, ?_⟩
              refine wx_endp [(0, _)] [0, 3, 3, 3, 3] ⟨rfl, trivial⟩ rfl ?_
              exact ⟨U1, N1, P1, a1, a2, a3, rfl, by rw [bov_app, iv_app, iv_app]; rfl⟩
          · skip
            refine ks_e rfl (e_lit1 (cs := [_]) t22 rfl rfl rfl (by omega)) ?_
            rintro _ _ w7_19 ⟨b7_19, rfl, rfl⟩
            refine ⟨_, List.perm_middle.symm, ?_⟩
            refine wx_ef ?_
            refine ks_e rfl (e_appN 4 t128 rfl rfl rfl (fun w hh => Rd.held0 hh (i := 2) rfl) (by simp [Value.oneCell']) (by omega) (by omega)) ?_
            rintro _ _ w7_8 ⟨⟨U1, a1, rfl⟩, rfl⟩
            refine ⟨_, List.Perm.refl _, ?_⟩
            refine wx_ef ?_
            refine ks_e rfl (e_appN 5 t22 rfl rfl rfl (fun w hh => Rd.held0 hh (i := 3) rfl) (by simp [Value.oneCell']) (by omega) (by omega)) ?_
            rintro _ _ w7_14 ⟨⟨N1, a2, rfl⟩, rfl⟩
            refine ⟨_, List.Perm.refl _, ?_⟩
            refine wx_ef ?_
            refine ks_e rfl (e_appN 6 t22 rfl rfl rfl (fun w hh => Rd.held0 hh (i := 1) rfl) (by simp [Value.oneCell']) (by omega) (by omega)) ?_
            rintro _ _ w7_20 ⟨⟨P1, a3, rfl⟩, rfl⟩
            refine ⟨_, List.Perm.refl _, ?_⟩
            refine wx_f rfl (f_nilCheck rfl) (wx_f rfl (f_fieldAddr 4 rfl Tryz.underlying131 rfl rfl (by kernel_rfl)) ?_)
            refine wx_ef ?_
            refine ks_e0 rfl (e_storeN 0 (us := [_]) rfl rfl rfl rfl (by kernel_rfl) (by simp [Value.oneCell']) rfl rfl) ?_
            rintro _ _ w7_23 rfl
            refine ⟨_, pick_perm [] _ rfl, ?_⟩
            refine wx_f rfl (f_nilCheck rfl) (wx_f rfl (f_fieldAddr 5 rfl Tryz.underlying131 rfl rfl (by kernel_rfl)) ?_)
            refine wx_ef ?_
            refine ks_e0 rfl (e_storeN 0 (us := [_]) rfl rfl rfl rfl (by kernel_rfl) (by simp [Value.oneCell']) rfl rfl) ?_
            rintro _ _ w7_26 rfl
            refine ⟨_, List.Perm.refl _, ?_⟩
            refine wx_f rfl (f_nilCheck rfl) (wx_f rfl (f_fieldAddr 6 rfl Tryz.underlying131 rfl rfl (by kernel_rfl)) ?_)
            refine wx_ef ?_
            refine ks_e0 rfl (e_storeN 0 (us := [_]) rfl rfl rfl rfl (by kernel_rfl) (by simp [Value.oneCell']) rfl rfl) ?_
            rintro _ _ w7_29 rfl
            refine ⟨_, List.Perm.refl _, ?_⟩
            refine wx_endp [(0, _)] [0, 3, 3, 3, 3] ⟨rfl, trivial⟩ rfl ?_
            exact ⟨U1, N1, P1, a1, a2, a3, rfl, by rw [bov_app, iv_app, iv_app]; rfl⟩
        · skip
          refine ks_e rfl (e_lit1 (cs := [_]) t22 rfl rfl rfl (by omega)) ?_
          rintro _ _ w7_19 ⟨b7_19, rfl, rfl⟩
          refine ⟨_, List.perm_middle.symm, ?_⟩
          refine wx_ef ?_
          refine ks_e rfl (e_lit1 (cs := [_]) t128 rfl rfl rfl (by omega)) ?_
          rintro _ _ w7_7 ⟨b7_7, rfl, rfl⟩
          refine ⟨_, List.perm_middle.symm, ?_⟩
          refine wx_ef ?_
          refine ks_e rfl (e_appN 4 t128 rfl rfl rfl (fun w hh => Rd.held0 hh (i := 1) rfl) (by simp [Value.oneCell']) (by omega) (by omega)) ?_
          rintro _ _ w7_8 ⟨⟨U1, a1, rfl⟩, rfl⟩
          refine ⟨_, List.Perm.refl _, ?_⟩
          refine wx_ef ?_
          refine ks_e rfl (e_appN 5 t22 rfl rfl rfl (fun w hh => Rd.held0 hh (i := 3) rfl) (by simp [Value.oneCell']) (by omega) (by omega)) ?_
          rintro _ _ w7_14 ⟨⟨N1, a2, rfl⟩, rfl⟩
          refine ⟨_, List.Perm.refl _, ?_⟩
          refine wx_ef ?_
          refine ks_e rfl (e_appN 6 t22 rfl rfl rfl (fun w hh => Rd.held0 hh (i := 2) rfl) (by simp [Value.oneCell']) (by omega) (by omega)) ?_
          rintro _ _ w7_20 ⟨⟨P1, a3, rfl⟩, rfl⟩
          refine ⟨_, List.Perm.refl _, ?_⟩
          refine wx_f rfl (f_nilCheck rfl) (wx_f rfl (f_fieldAddr 4 rfl Tryz.underlying131 rfl rfl (by kernel_rfl)) ?_)
          refine wx_ef ?_
          refine ks_e0 rfl (e_storeN 0 (us := [_]) rfl rfl rfl rfl (by kernel_rfl) (by simp [Value.oneCell']) rfl rfl) ?_
          rintro _ _ w7_23 rfl
          refine ⟨_, pick_perm [] _ rfl, ?_⟩
          refine wx_f rfl (f_nilCheck rfl) (wx_f rfl (f_fieldAddr 5 rfl Tryz.underlying131 rfl rfl (by kernel_rfl)) ?_)
          refine wx_ef ?_
          refine ks_e0 rfl (e_storeN 0 (us := [_]) rfl rfl rfl rfl (by kernel_rfl) (by simp [Value.oneCell']) rfl rfl) ?_
          rintro _ _ w7_26 rfl
          refine ⟨_, List.Perm.refl _, ?_⟩
          refine wx_f rfl (f_nilCheck rfl) (wx_f rfl (f_fieldAddr 6 rfl Tryz.underlying131 rfl rfl (by kernel_rfl)) ?_)
          refine wx_ef ?_
          refine ks_e0 rfl (e_storeN 0 (us := [_]) rfl rfl rfl rfl (by kernel_rfl) (by simp [Value.oneCell']) rfl rfl) ?_
          rintro _ _ w7_29 rfl
          refine ⟨_, List.Perm.refl _, ?_⟩
          refine wx_endp [(0, _)] [0, 3, 3, 3, 3] ⟨rfl, trivial⟩ rfl ?_
          exact ⟨U1, N1, P1, a1, a2, a3, rfl, by rw [bov_app, iv_app, iv_app]; rfl⟩
      · skip
        refine ks_e rfl (e_lit1 (cs := [_]) t22 rfl rfl rfl (by omega)) ?_
        rintro _ _ w7_19 ⟨b7_19, rfl, rfl⟩
        refine ⟨_, List.perm_middle.symm, ?_⟩
        refine wx_two ?_ ?_
        · skip
          refine ks_e rfl (e_lit1 (cs := [_]) t128 rfl rfl rfl (by omega)) ?_
          rintro _ _ w7_7 ⟨b7_7, rfl, rfl⟩
          refine ⟨_, List.perm_middle.symm, ?_⟩
          refine wx_two ?_ ?_
          · skip
            refine ks_e rfl (e_appN 3 t128 rfl rfl rfl (fun w hh => Rd.held0 hh (i := 1) rfl) (by simp [Value.oneCell']) (by omega) (by omega)) ?_
            rintro _ _ w7_8 ⟨⟨U1, a1, rfl⟩, rfl⟩
            refine ⟨_, List.Perm.refl _, ?_⟩
            refine wx_ef ?_
            refine ks_e rfl (e_lit1 (cs := [_]) t22 rfl rfl rfl (by omega)) ?_
            rintro _ _ w7_13 ⟨b7_13, rfl, rfl⟩
            refine ⟨_, List.perm_middle.symm, ?_⟩
            refine wx_ef ?_
            refine ks_e rfl (e_appN 5 t22 rfl rfl rfl (fun w hh => Rd.held0 hh (i := 1) rfl) (by simp [Value.oneCell']) (by omega) (by omega)) ?_
            rintro _ _ w7_14 ⟨⟨N1, a2, rfl⟩, rfl⟩
            refine ⟨_, List.Perm.refl _, ?_⟩
            refine wx_ef ?_
            refine ks_e rfl (e_appN 6 t22 rfl rfl rfl (fun w hh => Rd.held0 hh (i := 3) rfl) (by simp [Value.oneCell']) (by omega) (by omega)) ?_
            rintro _ _ w7_20 ⟨⟨P1, a3, rfl⟩, rfl⟩
            refine ⟨_, List.Perm.refl _, ?_⟩
            refine wx_f rfl (f_nilCheck rfl) (wx_f rfl (f_fieldAddr 4 rfl Tryz.underlying131 rfl rfl (by kernel_rfl)) ?_)
            refine wx_ef ?_
            refine ks_e0 rfl (e_storeN 0 (us := [_]) rfl rfl rfl rfl (by kernel_rfl) (by simp [Value.oneCell']) rfl rfl) ?_
            rintro _ _ w7_23 rfl
            refine ⟨_, pick_perm [] _ rfl, ?_⟩
            refine wx_f rfl (f_nilCheck rfl) (wx_f rfl (f_fieldAddr 5 rfl Tryz.underlying131 rfl rfl (by kernel_rfl)) ?_)
            refine wx_ef ?_
            refine ks_e0 rfl (e_storeN 0 (us := [_]) rfl rfl rfl rfl (by kernel_rfl) (by simp [Value.oneCell']) rfl rfl) ?_
            rintro _ _ w7_26 rfl
            refine ⟨_, List.Perm.refl _, ?_⟩
            refine wx_f rfl (f_nilCheck rfl) (wx_f rfl (f_fieldAddr 6 rfl Tryz.underlying131 rfl rfl (by kernel_rfl)) ?_)
            refine wx_ef ?_
            refine ks_e0 rfl (e_storeN 0 (us := [_]) rfl rfl rfl rfl (by kernel_rfl) (by simp [Value.oneCell']) rfl rfl) ?_
            rintro _ _ w7_29 rfl
            refine ⟨_, List.Perm.refl _, ?_⟩
            refine wx_endp [(0, _)] [0, 3, 3, 3, 3] ⟨rfl, trivial⟩ rfl ?_
            exact ⟨U1, N1, P1, a1, a2, a3, rfl, by rw [bov_app, iv_app, iv_app]; rfl⟩
          · skip
            refine ks_e rfl (e_lit1 (cs := [_]) t22 rfl rfl rfl (by omega)) ?_
            rintro _ _ w7_13 ⟨b7_13, rfl, rfl⟩
            refine ⟨_, List.perm_middle.symm, ?_⟩
            refine wx_ef ?_
            refine ks_e rfl (e_appN 4 t128 rfl rfl rfl (fun w hh => Rd.held0 hh (i := 2) rfl) (by simp [Value.oneCell']) (by omega) (by omega)) ?_
            rintro _ _ w7_8 ⟨⟨U1, a1, rfl⟩, rfl⟩
            refine ⟨_, List.Perm.refl _, ?_⟩
            refine wx_ef ?_
            refine ks_e rfl (e_appN 5 t22 rfl rfl rfl (fun w hh => Rd.held0 hh (i := 1) rfl) (by simp [Value.oneCell']) (by omega) (by omega)) ?_
            rintro _ _ w7_14 ⟨⟨N1, a2, rfl⟩, rfl⟩
            refine ⟨_, List.Perm.refl _, ?_⟩
            refine wx_ef ?_
            refine ks_e rfl (e_appN 6 t22 rfl rfl rfl (fun w hh => Rd.held0 hh (i := 3) rfl) (by simp [Value.oneCell']) (by omega) (by omega)) ?_
            rintro _ _ w7_20 ⟨⟨P1, a3, rfl⟩, rfl⟩
            refine ⟨_, List.Perm.refl _, ?_⟩
            refine wx_f rfl (f_nilCheck rfl) (wx_f rfl (f_fieldAddr 4 rfl Tryz.underlying131 rfl rfl (by kernel_rfl)) ?_)
            refine wx_ef ?_
            refine ks_e0 rfl (e_storeN 0 (us := [_]) rfl rfl rfl rfl (by kernel_rfl) (by simp [Value.oneCell']) rfl rfl) ?_
            rintro _ _ w7_23 rfl
            refine ⟨_, pick_perm [] _ rfl, ?_⟩
            refine wx_f rfl (f_nilCheck rfl) (wx_f rfl (f_fieldAddr 5 rfl Tryz.underlying131 rfl rfl (by kernel_rfl)) ?_)
            refine wx_ef ?_
            refine ks_e0 rfl (e_storeN 0 (us := [_]) rfl rfl rfl rfl (by kernel_rfl) (by simp [Value.oneCell']) rfl rfl) ?_
            rintro _ _ w7_26 rfl
            refine ⟨_, List.Perm.refl _, ?_⟩
            refine wx_f rfl (f_nilCheck rfl) (wx_f rfl (f_fieldAddr 6 rfl Tryz.underlying131 rfl rfl (by kernel_rfl)) ?_)
            refine wx_ef ?_
            refine ks_e0 rfl (e_storeN 0 (us := [_]) rfl rfl rfl rfl (by kernel_rfl) (by simp [Value.oneCell']) rfl rfl) ?_
            rintro _ _ w7_29 rfl
            refine ⟨_, List.Perm.refl _, ?_⟩
            refine wx_endp [(0, _)] [0, 3, 3, 3, 3] ⟨rfl, trivial⟩ rfl ?_
            exact ⟨U1, N1, P1, a1, a2, a3, rfl, by rw [bov_app, iv_app, iv_app]; rfl⟩
        · skip
          refine ks_e rfl (e_lit1 (cs := [_]) t22 rfl rfl rfl (by omega)) ?_
          rintro _ _ w7_13 ⟨b7_13, rfl, rfl⟩
          refine ⟨_, List.perm_middle.symm, ?_⟩
          refine wx_ef ?_
          refine ks_e rfl (e_lit1 (cs := [_]) t128 rfl rfl rfl (by omega)) ?_
          rintro _ _ w7_7 ⟨b7_7, rfl, rfl⟩
          refine ⟨_, List.perm_middle.symm, ?_⟩
          refine wx_ef ?_
          refine ks_e rfl (e_appN 4 t128 rfl rfl rfl (fun w hh => Rd.held0 hh (i := 1) rfl) (by simp [Value.oneCell']) (by omega) (by omega)) ?_
          rintro _ _ w7_8 ⟨⟨U1, a1, rfl⟩, rfl⟩
          refine ⟨_, List.Perm.refl _, ?_⟩
          refine wx_ef ?_
          refine ks_e rfl (e_appN 5 t22 rfl rfl rfl (fun w hh => Rd.held0 hh (i := 2) rfl) (by simp [Value.oneCell']) (by omega) (by omega)) ?_
          rintro _ _ w7_14 ⟨⟨N1, a2, rfl⟩, rfl⟩
          refine ⟨_, List.Perm.refl _, ?_⟩
          refine wx_ef ?_
          refine ks_e rfl (e_appN 6 t22 rfl rfl rfl (fun w hh => Rd.held0 hh (i := 3) rfl) (by simp [Value.oneCell']) (by omega) (by omega)) ?_
          rintro _ _ w7_20 ⟨⟨P1, a3, rfl⟩, rfl⟩
          refine ⟨_, List.Perm.refl _, ?_⟩
          refine wx_f rfl (f_nilCheck rfl) (wx_f rfl (f_fieldAddr 4 rfl Tryz.underlying131 rfl rfl (by kernel_rfl)) ?_)
          refine wx_ef ?_
          refine ks_e0 rfl (e_storeN 0 (us := [_]) rfl rfl rfl rfl (by kernel_rfl) (by simp [Value.oneCell']) rfl rfl) ?_
          rintro _ _ w7_23 rfl
          refine ⟨_, pick_perm [] _ rfl, ?_⟩
          refine wx_f rfl (f_nilCheck rfl) (wx_f rfl (f_fieldAddr 5 rfl Tryz.underlying131 rfl rfl (by kernel_rfl)) ?_)
          refine wx_ef ?_
          refine ks_e0 rfl (e_storeN 0 (us := [_]) rfl rfl rfl rfl (by kernel_rfl) (by simp [Value.oneCell']) rfl rfl) ?_
          rintro _ _ w7_26 rfl
          refine ⟨_, List.Perm.refl _, ?_⟩
          refine wx_f rfl (f_nilCheck rfl) (wx_f rfl (f_fieldAddr 6 rfl Tryz.underlying131 rfl rfl (by kernel_rfl)) ?_)
          refine wx_ef ?_
          refine ks_e0 rfl (e_storeN 0 (us := [_]) rfl rfl rfl rfl (by kernel_rfl) (by simp [Value.oneCell']) rfl rfl) ?_
          rintro _ _ w7_29 rfl
          refine ⟨_, List.Perm.refl _, ?_⟩
          refine wx_endp [(0, _)] [0, 3, 3, 3, 3] ⟨rfl, trivial⟩ rfl ?_
          exact ⟨U1, N1, P1, a1, a2, a3, rfl, by rw [bov_app, iv_app, iv_app]; rfl⟩
    rintro _ _ w7_ ⟨U1, N1, P1, a1, a2, a3, rfl, rfl⟩
    refine w_seq ?_
    refine w_drawk [(0, true), (1, true), (2, true), (3, true), (4, true), (5, false), (6, true), (7, false), (8, false), (9, false), (10, true), (11, true), (12, false)] ([(_, some 12)]) ([_, _, _, _]) mixed (by kernel_rfl) (by kernel_rfl) rfl rfl (List.Perm.refl _) (fun w8_ => ?_)
    refine wk_f rfl (f_move rfl) (wk_f rfl (f_move rfl) (wk_f rfl (f_nilCheck rfl) (wk_f rfl (f_fieldAddr 7 rfl Tryz.underlying131 rfl rfl (by kernel_rfl)) ?_)))
    refine wk_f rfl (f_loadb 0 rfl Tryz.underlying129 rfl rfl rfl) ?_
    refine wk_e rfl (e_allocs [.int .u64 0, .pointer .none] (by kernel_rfl)) ?_
    rintro _ _ w8_5 ⟨b8_5, rfl, rfl⟩
    refine ⟨_, List.perm_middle.symm, ?_⟩
    refine wk_f rfl (f_nilCheck rfl) (wk_e rfl (f_loadsb (cs := [_, _]) 1 rfl Tryz.underlying116 rfl (by kernel_rfl) rfl rfl).eff ?_)
    rintro _ _ _ ⟨rfl, rfl⟩
    refine ⟨_, List.Perm.refl _, ?_⟩
    refine wk_e rfl (e_lit1 (cs := [_, _]) t129 rfl rfl rfl (by omega)) ?_
    rintro _ _ w8_8 ⟨b8_8, rfl, rfl⟩
    refine ⟨_, List.perm_middle.symm, ?_⟩
    refine wk_e rfl (e_appN 6 t129 rfl rfl rfl (fun w hh => Rd.held0 hh (i := 1) rfl) (by simp [Value.oneCell']) (by omega) (by omega)) ?_
    rintro _ _ w8_9 ⟨⟨V1, a4, rfl⟩, rfl⟩
    refine ⟨_, List.Perm.refl _, ?_⟩
    refine wk_f rfl (f_nilCheck rfl) (wk_f rfl (f_fieldAddr 7 rfl Tryz.underlying131 rfl rfl (by kernel_rfl)) ?_)
    refine wk_e0 rfl (e_store0 (us := [_]) rfl rfl rfl (by kernel_rfl) (by simp [Value.oneCell']) rfl rfl) ?_
    rintro _ _ w8_12 rfl
    refine ⟨_, List.Perm.refl _, ?_⟩
    refine wk_endp [(0, _)] [0, 2, 2, 2, 2] ⟨rfl, trivial⟩ rfl ?_
    refine w_seq (w_reg (wl_f (f_move rfl) (wl_f (f_nilCheck rfl) (wl_f (f_fieldAddr 4 rfl Tryz.underlying131 rfl rfl (by kernel_rfl)) ?_))))
    refine wl_f (f_loadb 0 rfl Tryz.underlying128 rfl rfl rfl) ?_
    refine wl_f (f_len rfl Tryz.underlying128) ?_
    refine wl_f (f_sub rfl rfl (by omega)) ?_
    refine wl_f (f_assign rfl) (wl_end [(2, _)] ⟨rfl, trivial⟩ ?_)
    refine w_bun (H := []) [_, _, _, _, _] ?_
    refine w_ret ?_
    refine ⟨_, _, fun a ha hh => results_tmps Tryz.results136 rfl a ha _, List.Sublist.refl _, ?_⟩
    refine ⟨used.length, _, ?_, rfl, .slice U1 (used.length + 1) a1, .slice N1 (used.length + 1) a2, .slice P1 (used.length + 1) a3, .slice V1 (used.length + 1) a4, used ++ [false], nx ++ [-1], pv ++ [-1], vs ++ [(kBuc).zero], ?_, hc.more (by omega) _ _ _, by simp, hc.fresh (by simp) hall⟩
    · show Value.int .i64 _ = _
      congr 1
      omega
    · rw [chs, List.length_append, vc_app]; rfl
end Go.Proofs.YtmagdjlcckgkpaaGreat

/- Linked lists: a node is put between two others. -/
namespace Go.Proofs.YtmagdjlcckgkpaaGreat
open Go.RowKit

theorem hdE_nil {N : List Nat} (h : hdE (-1) N = -1) : N = [] := by
  cases N with
  | nil => rfl
  | cons a t => simp only [hdE] at h; omega
theorem hdE_cons {N : List Nat} (h : ¬ hdE (-1) N = -1) : ∃ a t, N = a :: t := by
  cases N with
  | nil => exact absurd rfl h
  | cons a t => exact ⟨a, t, rfl⟩
theorem setLast_cons {f : List Int} {N t : List Nat} {a : Nat} {v : Int} (h : N.reverse = a :: t) : setLast f N v = f.set a v := by unfold setLast; rw [h]
theorem setLast_nil {f : List Int} {v : Int} : setLast f [] v = f := rfl

set_option maxHeartbeats 4000000 in
theorem iinsert_spec (b n : Nat) (A B : List (Nat × (Int))) (v : Int) (r : Res) (w : World) (hn : n ≤ 8192) (hr : ChR kInt b n (A ++ B) r) (hs : Holds w r.foot [r] w) :
    Spec Tryz.prog 123 [.pointer (some ⟨b, 0, .none⟩), .int .i64 (hdE (-1) (nodes A).reverse), .int .i64 (hdE (-1) (nodes B)), (kInt).val v] w r.foot fun u H =>
      ((A ++ B).length = n ∧ u = .tuple #[.int .i64 0, .int .i64 7] ∧ H = [r]) ∨ ((A ++ B).length ≠ n ∧ ∃ (x : Nat) (r' : Res), Fresh (nodes (A ++ B)) x ∧ u = .tuple #[.int .i64 x, .int .i64 0] ∧ H = [r'] ∧ ChR kInt b n (A ++ (x, v) :: B) r') := by
  obtain ⟨uV, nV, pV, vV, used, nx, pv, vs, rfl, hc⟩ := id hr
  have hle := hc.le
  have hln := hc.len
  refine enter (n := 83) Tryz.func123 rfl rfl [(0, _), (1, _), (2, _), (3, _)] rfl ⟨rfl, rfl, rfl, rfl, trivial⟩ hs ?_
  refine w_unb (chs kInt b n (A ++ B) uV nV pV vV used nx pv vs) ?_
  refine w_seq (w_reg (wl_f (f_assign rfl) (wl_f (f_assign rfl) ?_)))
  skip
  refine wl_end [(0, _), (1, _), (2, _), (3, _)] ⟨rfl, rfl, rfl, rfl, trivial⟩ ?_
  refine w_seq (w_seq ?_)
  refine w_draw [(0, true), (1, true), (2, true), (3, true), (4, true), (5, true), (6, true), (7, true), (8, true)] (_) ([]) mixed (by kernel_rfl) (by kernel_rfl) rfl (perm_all _) (fun w1_ => ?_)
  refine wd_f rfl (f_move rfl) (wd_f rfl (f_nilCheck rfl) (wd_f rfl (f_fieldAddr 1 rfl Tryz.underlying182 rfl rfl (by kernel_rfl)) ?_))
  refine wd_f rfl (f_loadb 0 rfl Tryz.underlying3 rfl rfl rfl) ?_
  refine wd_f rfl (f_move rfl) (wd_f rfl (f_nilCheck rfl) (wd_f rfl (f_fieldAddr 0 rfl Tryz.underlying182 rfl rfl (by kernel_rfl)) ?_))
  refine wd_f rfl (f_loadb 0 rfl Tryz.underlying3 rfl rfl rfl) ?_
  refine wd_f rfl (f_eql rfl rfl) ?_
  refine wd_end [(0, _), (1, _), (2, _), (3, _), (19, _)] ⟨rfl, rfl, rfl, rfl, rfl, trivial⟩ ?_
  refine w_ifd rfl (fun hc1 => ?_) (fun hc1 => ?_)
  · skip
    refine w_seq (w_reg (wl_f (f_assign rfl) (wl_f (f_assign rfl) (wl_end [(8, _), (9, _)] ⟨rfl, rfl, trivial⟩ ?_))))
    refine w_pick [0, 0, 0, 0, 0] rfl ?_
    refine w_bun (H := []) (chs kInt b n (A ++ B) uV nV pV vV used nx pv vs) ?_
    refine w_ret ?_
    refine ⟨_, _, fun a ha hh => results_tmps Tryz.results123 rfl a ha _, List.Sublist.refl _, ?_⟩
    exact .inl ⟨by omega, rfl, rfl⟩
  · skip
    refine w_bun (H := []) (chs kInt b n (A ++ B) uV nV pV vV used nx pv vs) ?_
    have hlt : (A ++ B).length < n := by omega
    refine w_skip ?_
    refine w_seq (w_reg (wl_f (f_move rfl) (wl_e (e_call1 (bun (chs kInt b n (A ++ B) uV nV pV vV used nx pv vs)) [] rfl Tryz.func137 (by kernel_rfl) (List.Perm.refl _) (fun w hh hs => ifree_spec b n (A ++ B) _ w hn hlt hr hs)) ?_)))
    rintro _ _ w3 ⟨_, rfl, x, r', rfl, rfl, uV', nV', pV', vV', used', nx', pv', vs', rfl, hc', hx, hfr⟩
    clear hc hle hln hs hr
    have hle' := hc'.le
    refine wl_unb (H := []) (chs kInt b n (A ++ B) uV' nV' pV' vV' used' nx' pv' vs') ?_
    refine wl_with fun hh => ?_
    obtain ⟨g1, c1, rfl⟩ := row_form hh (i := 1) rfl (by omega)
    obtain ⟨g2, c2, rfl⟩ := row_form hh (i := 2) rfl (by omega)
    obtain ⟨g3, c3, rfl⟩ := row_form hh (i := 3) rfl (by omega)
    obtain ⟨g4, c4, rfl⟩ := row_form hh (i := 4) rfl (by omega)
    clear hh
    have hlx := hc'.lx
    have hlp := hc'.lp
    have hlv := hc'.lv
    have hvl := vcells_len kInt kInt_len vs'
    have hvs : (kInt).sz = 1 := rfl
    rw [hvs] at hvl
    refine wl_f (f_assign rfl) (wl_end [(0, _), (1, _), (2, _), (3, _), (10, _)] ⟨rfl, rfl, rfl, rfl, rfl, trivial⟩ ?_)
    refine w_seq ?_
    refine w_draw [(0, true), (1, true), (2, true), (3, true), (4, true), (5, true), (6, true), (7, true), (8, true), (9, true), (10, true), (11, true), (12, true), (13, true), (14, true), (15, true), (16, true), (17, true), (18, true), (19, true), (20, true), (21, true), (22, true), (23, true), (24, false), (25, true), (26, false), (27, true), (28, false), (29, true), (30, false)] ([_]) ([_, _, _, _]) mixed (by kernel_rfl) (by kernel_rfl) rfl (List.Perm.refl _) (fun w4_ => ?_)
    refine wd_f rfl (f_move rfl) (wd_f rfl (f_nilCheck rfl) (wd_f rfl (f_fieldAddr 4 rfl Tryz.underlying182 rfl rfl (by kernel_rfl)) ?_))
    refine wd_f rfl (f_loadb 0 rfl Tryz.underlying128 rfl rfl rfl) ?_
    refine wd_f rfl (f_move rfl) (wd_f rfl (f_move rfl) (wd_f rfl (f_nilCheck rfl) (wd_f rfl (f_fieldAddr 6 rfl Tryz.underlying182 rfl rfl (by kernel_rfl)) ?_)))
    refine wd_f rfl (f_loadb 0 rfl Tryz.underlying22 rfl rfl rfl) ?_
    refine wd_f rfl (f_move rfl) (wd_f rfl (f_move rfl) (wd_f rfl (f_nilCheck rfl) (wd_f rfl (f_fieldAddr 5 rfl Tryz.underlying182 rfl rfl (by kernel_rfl)) ?_)))
    refine wd_f rfl (f_loadb 0 rfl Tryz.underlying22 rfl rfl rfl) ?_
    refine wd_f rfl (f_move rfl) (wd_f rfl (f_move rfl) (wd_f rfl (f_nilCheck rfl) (wd_f rfl (f_fieldAddr 7 rfl Tryz.underlying182 rfl rfl (by kernel_rfl)) ?_)))
    refine wd_f rfl (f_loadb 0 rfl Tryz.underlying22 rfl rfl rfl) ?_
    refine wd_f rfl (f_move rfl) (wd_f rfl (f_move rfl) (wd_f rfl (f_move rfl) (wd_f rfl (f_move rfl) (wd_f rfl (f_indexAddr 1 (i := x) rfl rfl Tryz.underlying128 (by kernel_rfl) rfl hx) ?_))))
    refine wd_e0 rfl (e_storerN 1 (us := [_]) (xs' := bov (used'.set x true)) rfl rfl rfl rfl (by kernel_rfl) (by simp [Value.oneCell']) (by simp [bov]; omega) (map_set Value.bool true hx)) ?_
    rintro _ _ w4_24 rfl
    refine ⟨_, List.Perm.refl _, ?_⟩
    refine wd_f rfl (f_indexAddr 1 (i := x) rfl rfl Tryz.underlying22 (by kernel_rfl) rfl hx) ?_
    refine wd_e0 rfl (e_storerN 3 (us := [_]) (xs' := iv (pv'.set x (hdE (-1) (nodes A).reverse))) rfl rfl rfl rfl (by kernel_rfl) (by simp [Value.oneCell']) (by simp [iv]; omega) (map_set (Value.int .i64) _ (by omega))) ?_
    rintro _ _ w4_26 rfl
    refine ⟨_, List.Perm.refl _, ?_⟩
    refine wd_f rfl (f_indexAddr 1 (i := x) rfl rfl Tryz.underlying22 (by kernel_rfl) rfl hx) ?_
    refine wd_e0 rfl (e_storerN 2 (us := [_]) (xs' := iv (nx'.set x (hdE (-1) (nodes B)))) rfl rfl rfl rfl (by kernel_rfl) (by simp [Value.oneCell']) (by simp [iv]; omega) (map_set (Value.int .i64) _ (by omega))) ?_
    rintro _ _ w4_28 rfl
    refine ⟨_, List.Perm.refl _, ?_⟩
    refine wd_f rfl (f_indexAddr 1 (i := x) rfl rfl Tryz.underlying22 (by kernel_rfl) rfl hx) ?_
    refine wd_e0 rfl (e_storerN 4 (us := [_]) (xs' := vcells kInt (vs'.set x v)) rfl rfl rfl rfl (by kernel_rfl) (by simp [Value.oneCell', kInt]) (by show 0 + x * 1 + 1 ≤ (vcells kInt vs').length; omega) (vcells_set kInt kInt_len v (by omega))) ?_
    rintro _ _ w4_30 rfl
    refine ⟨_, List.Perm.refl _, ?_⟩
    refine wd_endp [(0, _), (1, _), (2, _), (10, _)] [0, 0, 0, 0, 0] ⟨rfl, rfl, rfl, rfl, trivial⟩ rfl ?_
    refine w_seq (w_seq (w_reg (wl_f (f_move rfl) (wl_f (f_eql rfl rfl) ?_))))
    refine wl_end [(0, _), (1, _), (2, _), (10, _), (50, _)] ⟨rfl, rfl, rfl, rfl, rfl, trivial⟩ ?_
    refine w_post (fun m H w' => m = [(0, .pointer (some ⟨b, 0, .none⟩)), (2, .int .i64 (hdE (-1) (nodes B))), (10, .int .i64 x)] ∧
      H = [blk b [.int .i64 (n : Int), .int .i64 ((A ++ B).length : Int), .int .i64 (hdE (-1) (nodes (A ++ (x, v) :: B))), .int .i64 (hdE (-1) (nodes (A ++ B)).reverse), .slice (some ⟨g1, 0, .none⟩) used'.length c1, .slice (some ⟨g2, 0, .none⟩) used'.length c2, .slice (some ⟨g3, 0, .none⟩) used'.length c3, .slice (some ⟨g4, 0, .none⟩) used'.length c4] (kInt).list,
        row (.slice (some ⟨g1, 0, .none⟩) used'.length c1) 4 1 used'.length (bov (used'.set x true)), row (.slice (some ⟨g2, 0, .none⟩) used'.length c2) 3 1 used'.length (iv (setLast (nx'.set x (hdE (-1) (nodes B))) (nodes A) x)),
        row (.slice (some ⟨g3, 0, .none⟩) used'.length c3) 3 1 used'.length (iv (pv'.set x (hdE (-1) (nodes A).reverse))), row (.slice (some ⟨g4, 0, .none⟩) used'.length c4) (kInt).elem (kInt).sz used'.length (vcells kInt (vs'.set x v))]) ?_ ?_
    · skip
      refine w_ifd rfl (fun hc2 => ?_) (fun hc2 => ?_)
      · skip
        have hA : A = [] := by simpa using hdE_nil hc2
        subst hA
        refine w_reg (wl_f (f_move rfl) (wl_f (f_move rfl) (wl_f (f_nilCheck rfl) (wl_f (f_fieldAddr 2 rfl Tryz.underlying182 rfl rfl (by kernel_rfl)) ?_))))
        refine wl_e0 (e_store0 (us := [_]) rfl rfl rfl (by kernel_rfl) (by simp [Value.oneCell']) rfl rfl) ?_
        rintro _ _ w6_4 rfl
        refine wl_end [(0, _), (2, _), (10, _)] ⟨rfl, rfl, rfl, trivial⟩ ?_
        exact ⟨rfl, rfl⟩
      · skip
        obtain ⟨a, t, hA⟩ := hdE_cons hc2
        have hal : a < used'.length := hc'.lt a (by
          have : a ∈ (nodes A).reverse := by rw [hA]; simp
          rw [nodes, List.map_append]
          exact List.mem_append_left _ (List.mem_reverse.1 this))
        have hA2 : hdE (-1) (nodes (A ++ (x, v) :: B)) = hdE (-1) (nodes (A ++ B)) := by
          cases A with
          | nil => simp at hA
          | cons p A => rfl
        refine w_reg (wl_f (f_move rfl) (wl_f (f_nilCheck rfl) (wl_f (f_fieldAddr 5 rfl Tryz.underlying182 rfl rfl (by kernel_rfl)) ?_)))
        refine wl_f (f_loadb 0 rfl Tryz.underlying22 rfl rfl rfl) ?_
        refine wl_f (f_move rfl) (wl_f (f_move rfl) (wl_f (f_indexAddr 1 (i := a) rfl rfl Tryz.underlying22 (by kernel_rfl) (by rw [hA]; rfl) hal) ?_))
        refine wl_e0 (e_storerN 2 (us := [_]) (xs' := iv ((nx'.set x (hdE (-1) (nodes B))).set a x)) rfl rfl rfl rfl (by kernel_rfl) (by simp [Value.oneCell']) (by simp [iv]; omega) (map_set (Value.int .i64) _ (by simp; omega))) ?_
        rintro _ _ w7_7 rfl
        refine wl_end [(0, _), (2, _), (10, _)] ⟨rfl, rfl, rfl, trivial⟩ ?_
        exact ⟨rfl, by rw [setLast_cons hA, hA2]; rfl⟩
    · rintro _ _ w ⟨rfl, rfl⟩
      refine w_seq (w_seq (w_reg (wl_f (f_move rfl) (wl_f (f_eql rfl rfl) ?_))))
      refine wl_end [(0, _), (2, _), (10, _), (63, _)] ⟨rfl, rfl, rfl, rfl, trivial⟩ ?_
      refine w_post (fun m H w' => m = [(0, .pointer (some ⟨b, 0, .none⟩)), (10, .int .i64 x)] ∧
        H = [blk b [.int .i64 (n : Int), .int .i64 ((A ++ B).length : Int), .int .i64 (hdE (-1) (nodes (A ++ (x, v) :: B))), .int .i64 (hdE (-1) (nodes (A ++ (x, v) :: B)).reverse), .slice (some ⟨g1, 0, .none⟩) used'.length c1, .slice (some ⟨g2, 0, .none⟩) used'.length c2, .slice (some ⟨g3, 0, .none⟩) used'.length c3, .slice (some ⟨g4, 0, .none⟩) used'.length c4] (kInt).list,
          row (.slice (some ⟨g1, 0, .none⟩) used'.length c1) 4 1 used'.length (bov (used'.set x true)), row (.slice (some ⟨g2, 0, .none⟩) used'.length c2) 3 1 used'.length (iv (setLast (nx'.set x (hdE (-1) (nodes B))) (nodes A) x)),
          row (.slice (some ⟨g3, 0, .none⟩) used'.length c3) 3 1 used'.length (iv (setLast (pv'.set x (hdE (-1) (nodes A).reverse)) (nodes B).reverse x)), row (.slice (some ⟨g4, 0, .none⟩) used'.length c4) (kInt).elem (kInt).sz used'.length (vcells kInt (vs'.set x v))]) ?_ ?_
      · skip
        refine w_ifd rfl (fun hc3 => ?_) (fun hc3 => ?_)
        · skip
          have hB : B = [] := by simpa using hdE_nil hc3
          subst hB
          refine w_reg (wl_f (f_move rfl) (wl_f (f_move rfl) (wl_f (f_nilCheck rfl) (wl_f (f_fieldAddr 3 rfl Tryz.underlying182 rfl rfl (by kernel_rfl)) ?_))))
          refine wl_e0 (e_store0 (us := [_]) rfl rfl rfl (by kernel_rfl) (by simp [Value.oneCell']) rfl rfl) ?_
          rintro _ _ w9_4 rfl
          refine wl_end [(0, _), (10, _)] ⟨rfl, rfl, trivial⟩ ?_
          have e : hdE (-1) (nodes (A ++ (x, v) :: [])).reverse = x := by simp [nodes, hdE]
          rw [e]
          exact ⟨rfl, rfl⟩
        · skip
          obtain ⟨a, t, hB⟩ := hdE_cons hc3
          have hal : a < used'.length := hc'.lt a (by
            have : a ∈ nodes B := by rw [hB]; simp
            rw [nodes, List.map_append]
            exact List.mem_append_right _ this)
          have hB2 : hdE (-1) (nodes (A ++ (x, v) :: B)).reverse = hdE (-1) (nodes (A ++ B)).reverse := by
            rcases List.eq_nil_or_concat B with rfl | ⟨B', p, rfl⟩
            · simp at hB
            · simp [hdE]
          refine w_reg (wl_f (f_move rfl) (wl_f (f_nilCheck rfl) (wl_f (f_fieldAddr 6 rfl Tryz.underlying182 rfl rfl (by kernel_rfl)) ?_)))
          refine wl_f (f_loadb 0 rfl Tryz.underlying22 rfl rfl rfl) ?_
          refine wl_f (f_move rfl) (wl_f (f_move rfl) (wl_f (f_indexAddr 1 (i := a) rfl rfl Tryz.underlying22 (by kernel_rfl) (by rw [hB]; rfl) hal) ?_))
          refine wl_e0 (e_storerN 3 (us := [_]) (xs' := iv ((pv'.set x (hdE (-1) (nodes A).reverse)).set a x)) rfl rfl rfl rfl (by kernel_rfl) (by simp [Value.oneCell']) (by simp [iv]; omega) (map_set (Value.int .i64) _ (by simp; omega))) ?_
          rintro _ _ w10_7 rfl
          refine wl_end [(0, _), (10, _)] ⟨rfl, rfl, trivial⟩ ?_
          exact ⟨rfl, by rw [setLast_cons (N := (nodes B).reverse) (by rw [List.reverse_reverse]; exact hB), hB2]; rfl⟩
      · rintro _ _ w ⟨rfl, rfl⟩
        refine w_seq (w_reg (wl_f (f_move rfl) (wl_f (f_nilCheck rfl) (wl_f (f_fieldAddr 1 rfl Tryz.underlying182 rfl rfl (by kernel_rfl)) ?_))))
        refine wl_f (f_loadb 0 rfl Tryz.underlying3 rfl rfl rfl) ?_
        refine wl_f (f_add rfl rfl (by omega)) ?_
        refine wl_f (f_nilCheck rfl) (wl_f (f_fieldAddr 1 rfl Tryz.underlying182 rfl rfl (by kernel_rfl)) ?_)
        refine wl_e0 (e_store0 (us := [_]) rfl rfl rfl (by kernel_rfl) (by simp [Value.oneCell']) rfl rfl) ?_
        rintro _ _ w11_7 rfl
        refine wl_end [(10, _)] ⟨rfl, trivial⟩ ?_
        refine w_seq (w_reg (wl_f (f_move rfl) (wl_f (f_assign rfl) (wl_f (f_assign rfl) (wl_end [(8, _), (9, _)] ⟨rfl, rfl, trivial⟩ ?_)))))
        refine w_bun (H := []) [_, _, _, _, _] ?_
        refine w_ret ?_
        refine ⟨_, _, fun a ha hh => results_tmps Tryz.results123 rfl a ha _, List.Sublist.refl _, ?_⟩
        refine .inr ⟨by omega, x, _, hfr, rfl, rfl, .slice (some ⟨g1, 0, .none⟩) used'.length c1, .slice (some ⟨g2, 0, .none⟩) used'.length c2, .slice (some ⟨g3, 0, .none⟩) used'.length c3, .slice (some ⟨g4, 0, .none⟩) used'.length c4, _, _, _, _, ?_, hc'.insert hfr.1 hx v⟩
        have e1 : (((A ++ (x, v) :: B).length : Nat) : Int) = ((A ++ B).length : Int) + 1 := by simp; omega
        rw [chs, List.length_set, e1]
        rfl
set_option maxHeartbeats 4000000 in
theorem binsert_spec (b n : Nat) (A B : List (Nat × (Nat × Option Nat))) (v : Nat × Option Nat) (r : Res) (w : World) (hn : n ≤ 8192) (hr : ChR kBuc b n (A ++ B) r) (hs : Holds w r.foot [r] w) :
    Spec Tryz.prog 122 [.pointer (some ⟨b, 0, .none⟩), .int .i64 (hdE (-1) (nodes A).reverse), .int .i64 (hdE (-1) (nodes B)), (kBuc).val v] w r.foot fun u H =>
      ((A ++ B).length = n ∧ u = .tuple #[.int .i64 0, .int .i64 7] ∧ H = [r]) ∨ ((A ++ B).length ≠ n ∧ ∃ (x : Nat) (r' : Res), Fresh (nodes (A ++ B)) x ∧ u = .tuple #[.int .i64 x, .int .i64 0] ∧ H = [r'] ∧ ChR kBuc b n (A ++ (x, v) :: B) r') := by
  obtain ⟨uV, nV, pV, vV, used, nx, pv, vs, rfl, hc⟩ := id hr
  have hle := hc.le
  have hln := hc.len
  refine enter (n := 83) Tryz.func122 rfl rfl [(0, _), (1, _), (2, _), (3, _)] rfl ⟨rfl, rfl, rfl, rfl, trivial⟩ hs ?_
  refine w_unb (chs kBuc b n (A ++ B) uV nV pV vV used nx pv vs) ?_
  refine w_seq (w_reg (wl_e (e_box (cs := [_, _]) rfl rfl) ?_))
  rintro _ _ w0_0 ⟨b0_0, rfl, rfl⟩
  refine wl_f (f_assign rfl) (wl_f (f_assign rfl) (wl_pick [1, 1, 1, 1, 1, 0] rfl ?_))
  refine wl_end [(0, _), (1, _), (2, _), (7, _)] ⟨rfl, rfl, rfl, rfl, trivial⟩ ?_
  refine w_seq (w_seq ?_)
  refine w_draw [(0, true), (1, true), (2, true), (3, true), (4, true), (5, true), (6, true), (7, true), (8, true)] (_) ([]) mixed (by kernel_rfl) (by kernel_rfl) rfl (perm_all _) (fun w1_ => ?_)
  refine wd_f rfl (f_move rfl) (wd_f rfl (f_nilCheck rfl) (wd_f rfl (f_fieldAddr 1 rfl Tryz.underlying131 rfl rfl (by kernel_rfl)) ?_))
  refine wd_f rfl (f_loadb 0 rfl Tryz.underlying3 rfl rfl rfl) ?_
  refine wd_f rfl (f_move rfl) (wd_f rfl (f_nilCheck rfl) (wd_f rfl (f_fieldAddr 0 rfl Tryz.underlying131 rfl rfl (by kernel_rfl)) ?_))
  refine wd_f rfl (f_loadb 0 rfl Tryz.underlying3 rfl rfl rfl) ?_
  refine wd_f rfl (f_eql rfl rfl) ?_
  refine wd_end [(0, _), (1, _), (2, _), (7, _), (19, _)] ⟨rfl, rfl, rfl, rfl, rfl, trivial⟩ ?_
  refine w_ifd rfl (fun hc1 => ?_) (fun hc1 => ?_)
  · skip
    refine w_seq (w_reg (wl_f (f_assign rfl) (wl_f (f_assign rfl) (wl_end [(8, _), (9, _)] ⟨rfl, rfl, trivial⟩ ?_))))
    refine w_pick [0, 0, 0, 0, 0] rfl ?_
    refine w_bun (H := []) (chs kBuc b n (A ++ B) uV nV pV vV used nx pv vs) ?_
    refine w_ret ?_
    refine ⟨_, _, fun a ha hh => results_tmps Tryz.results122 rfl a ha _, List.Sublist.refl _, ?_⟩
    exact .inl ⟨by omega, rfl, rfl⟩
  · skip
    refine w_bun (H := [_]) (chs kBuc b n (A ++ B) uV nV pV vV used nx pv vs) ?_
    have hlt : (A ++ B).length < n := by omega
    refine w_skip ?_
    refine w_seq (w_reg (wl_f (f_move rfl) (wl_e (e_call1 (bun (chs kBuc b n (A ++ B) uV nV pV vV used nx pv vs)) [_] rfl Tryz.func136 (by kernel_rfl) (List.Perm.refl _) (fun w hh hs => bfree_spec b n (A ++ B) _ w hn hlt hr hs)) ?_)))
    rintro _ _ w3 ⟨_, rfl, x, r', rfl, rfl, uV', nV', pV', vV', used', nx', pv', vs', rfl, hc', hx, hfr⟩
    clear hc hle hln hs hr
    have hle' := hc'.le
    refine wl_unb (H := [_]) (chs kBuc b n (A ++ B) uV' nV' pV' vV' used' nx' pv' vs') ?_
    refine wl_with fun hh => ?_
    obtain ⟨g1, c1, rfl⟩ := row_form hh (i := 1) rfl (by omega)
    obtain ⟨g2, c2, rfl⟩ := row_form hh (i := 2) rfl (by omega)
    obtain ⟨g3, c3, rfl⟩ := row_form hh (i := 3) rfl (by omega)
    obtain ⟨g4, c4, rfl⟩ := row_form hh (i := 4) rfl (by omega)
    clear hh
    have hlx := hc'.lx
    have hlp := hc'.lp
    have hlv := hc'.lv
    have hvl := vcells_len kBuc kBuc_len vs'
    have hvs : (kBuc).sz = 2 := rfl
    rw [hvs] at hvl
    refine wl_f (f_assign rfl) (wl_end [(0, _), (1, _), (2, _), (7, _), (10, _)] ⟨rfl, rfl, rfl, rfl, rfl, trivial⟩ ?_)
    refine w_seq ?_
    refine w_draw [(0, true), (1, true), (2, true), (3, true), (4, true), (5, true), (6, true), (7, true), (8, true), (9, true), (10, true), (11, true), (12, true), (13, true), (14, true), (15, true), (16, true), (17, true), (18, true), (19, true), (20, true), (21, true), (22, true), (23, true), (24, false), (25, true), (26, false), (27, true), (28, false), (29, true), (30, false)] ([_, _]) ([_, _, _, _]) mixed (by kernel_rfl) (by kernel_rfl) rfl (pick_perm [0, 4] _ rfl) (fun w4_ => ?_)
    refine wd_f rfl (f_move rfl) (wd_f rfl (f_nilCheck rfl) (wd_f rfl (f_fieldAddr 4 rfl Tryz.underlying131 rfl rfl (by kernel_rfl)) ?_))
    refine wd_f rfl (f_loadb 0 rfl Tryz.underlying128 rfl rfl rfl) ?_
    refine wd_f rfl (f_move rfl) (wd_f rfl (f_move rfl) (wd_f rfl (f_nilCheck rfl) (wd_f rfl (f_fieldAddr 6 rfl Tryz.underlying131 rfl rfl (by kernel_rfl)) ?_)))
    refine wd_f rfl (f_loadb 0 rfl Tryz.underlying22 rfl rfl rfl) ?_
    refine wd_f rfl (f_move rfl) (wd_f rfl (f_move rfl) (wd_f rfl (f_nilCheck rfl) (wd_f rfl (f_fieldAddr 5 rfl Tryz.underlying131 rfl rfl (by kernel_rfl)) ?_)))
    refine wd_f rfl (f_loadb 0 rfl Tryz.underlying22 rfl rfl rfl) ?_
    refine wd_f rfl (f_move rfl) (wd_f rfl (f_move rfl) (wd_f rfl (f_nilCheck rfl) (wd_f rfl (f_fieldAddr 7 rfl Tryz.underlying131 rfl rfl (by kernel_rfl)) ?_)))
    refine wd_f rfl (f_loadb 0 rfl Tryz.underlying129 rfl rfl rfl) ?_
    refine wd_f rfl (f_move rfl) (wd_f rfl (f_move rfl) (wd_f rfl (f_move rfl) (wd_f rfl (f_loadsb (cs := [_, _]) 1 rfl Tryz.underlying116 rfl (by kernel_rfl) rfl rfl) ?_)))
    refine wd_f rfl (f_indexAddr 1 (i := x) rfl rfl Tryz.underlying128 (by kernel_rfl) rfl hx) ?_
    refine wd_e0 rfl (e_storerN 2 (us := [_]) (xs' := bov (used'.set x true)) rfl rfl rfl rfl (by kernel_rfl) (by simp [Value.oneCell']) (by simp [bov]; omega) (map_set Value.bool true hx)) ?_
    rintro _ _ w4_24 rfl
    refine ⟨_, List.Perm.refl _, ?_⟩
    refine wd_f rfl (f_indexAddr 1 (i := x) rfl rfl Tryz.underlying22 (by kernel_rfl) rfl hx) ?_
    refine wd_e0 rfl (e_storerN 4 (us := [_]) (xs' := iv (pv'.set x (hdE (-1) (nodes A).reverse))) rfl rfl rfl rfl (by kernel_rfl) (by simp [Value.oneCell']) (by simp [iv]; omega) (map_set (Value.int .i64) _ (by omega))) ?_
    rintro _ _ w4_26 rfl
    refine ⟨_, List.Perm.refl _, ?_⟩
    refine wd_f rfl (f_indexAddr 1 (i := x) rfl rfl Tryz.underlying22 (by kernel_rfl) rfl hx) ?_
    refine wd_e0 rfl (e_storerN 3 (us := [_]) (xs' := iv (nx'.set x (hdE (-1) (nodes B)))) rfl rfl rfl rfl (by kernel_rfl) (by simp [Value.oneCell']) (by simp [iv]; omega) (map_set (Value.int .i64) _ (by omega))) ?_
    rintro _ _ w4_28 rfl
    refine ⟨_, List.Perm.refl _, ?_⟩
    refine wd_f rfl (f_indexAddr 2 (i := x) rfl rfl Tryz.underlying129 (by kernel_rfl) rfl hx) ?_
    refine wd_e0 rfl (e_storerN 5 (us := [_, _]) (xs' := vcells kBuc (vs'.set x v)) rfl rfl rfl rfl (by kernel_rfl) (by simp [Value.oneCell', kBuc]) (by show 0 + x * 2 + 2 ≤ (vcells kBuc vs').length; omega) (vcells_set kBuc kBuc_len v (by omega))) ?_
    rintro _ _ w4_30 rfl
    refine ⟨_, List.Perm.refl _, ?_⟩
    refine wd_endp [(0, _), (1, _), (2, _), (10, _)] [0, 1, 1, 1, 1] ⟨rfl, rfl, rfl, rfl, trivial⟩ rfl ?_
    refine w_seq (w_seq (w_reg (wl_f (f_move rfl) (wl_f (f_eql rfl rfl) ?_))))
    refine wl_end [(0, _), (1, _), (2, _), (10, _), (50, _)] ⟨rfl, rfl, rfl, rfl, rfl, trivial⟩ ?_
    refine w_post (fun m H w' => m = [(0, .pointer (some ⟨b, 0, .none⟩)), (2, .int .i64 (hdE (-1) (nodes B))), (10, .int .i64 x)] ∧
      H = [blk b [.int .i64 (n : Int), .int .i64 ((A ++ B).length : Int), .int .i64 (hdE (-1) (nodes (A ++ (x, v) :: B))), .int .i64 (hdE (-1) (nodes (A ++ B)).reverse), .slice (some ⟨g1, 0, .none⟩) used'.length c1, .slice (some ⟨g2, 0, .none⟩) used'.length c2, .slice (some ⟨g3, 0, .none⟩) used'.length c3, .slice (some ⟨g4, 0, .none⟩) used'.length c4] (kBuc).list,
        row (.slice (some ⟨g1, 0, .none⟩) used'.length c1) 4 1 used'.length (bov (used'.set x true)), row (.slice (some ⟨g2, 0, .none⟩) used'.length c2) 3 1 used'.length (iv (setLast (nx'.set x (hdE (-1) (nodes B))) (nodes A) x)),
        row (.slice (some ⟨g3, 0, .none⟩) used'.length c3) 3 1 used'.length (iv (pv'.set x (hdE (-1) (nodes A).reverse))), row (.slice (some ⟨g4, 0, .none⟩) used'.length c4) (kBuc).elem (kBuc).sz used'.length (vcells kBuc (vs'.set x v))]) ?_ ?_
    · skip
      refine w_ifd rfl (fun hc2 => ?_) (fun hc2 => ?_)
      · skip
        have hA : A = [] := by simpa using hdE_nil hc2
        subst hA
        refine w_reg (wl_f (f_move rfl) (wl_f (f_move rfl) (wl_f (f_nilCheck rfl) (wl_f (f_fieldAddr 2 rfl Tryz.underlying131 rfl rfl (by kernel_rfl)) ?_))))
        refine wl_e0 (e_store0 (us := [_]) rfl rfl rfl (by kernel_rfl) (by simp [Value.oneCell']) rfl rfl) ?_
        rintro _ _ w6_4 rfl
        refine wl_end [(0, _), (2, _), (10, _)] ⟨rfl, rfl, rfl, trivial⟩ ?_
        exact ⟨rfl, rfl⟩
      · skip
        obtain ⟨a, t, hA⟩ := hdE_cons hc2
        have hal : a < used'.length := hc'.lt a (by
          have : a ∈ (nodes A).reverse := by rw [hA]; simp
          rw [nodes, List.map_append]
          exact List.mem_append_left _ (List.mem_reverse.1 this))
        have hA2 : hdE (-1) (nodes (A ++ (x, v) :: B)) = hdE (-1) (nodes (A ++ B)) := by
          cases A with
          | nil => simp at hA
          | cons p A => rfl
        refine w_reg (wl_f (f_move rfl) (wl_f (f_nilCheck rfl) (wl_f (f_fieldAddr 5 rfl Tryz.underlying131 rfl rfl (by kernel_rfl)) ?_)))
        refine wl_f (f_loadb 0 rfl Tryz.underlying22 rfl rfl rfl) ?_
        refine wl_f (f_move rfl) (wl_f (f_move rfl) (wl_f (f_indexAddr 1 (i := a) rfl rfl Tryz.underlying22 (by kernel_rfl) (by rw [hA]; rfl) hal) ?_))
        refine wl_e0 (e_storerN 2 (us := [_]) (xs' := iv ((nx'.set x (hdE (-1) (nodes B))).set a x)) rfl rfl rfl rfl (by kernel_rfl) (by simp [Value.oneCell']) (by simp [iv]; omega) (map_set (Value.int .i64) _ (by simp; omega))) ?_
        rintro _ _ w7_7 rfl
        refine wl_end [(0, _), (2, _), (10, _)] ⟨rfl, rfl, rfl, trivial⟩ ?_
        exact ⟨rfl, by rw [setLast_cons hA, hA2]; rfl⟩
    · rintro _ _ w ⟨rfl, rfl⟩
      refine w_seq (w_seq (w_reg (wl_f (f_move rfl) (wl_f (f_eql rfl rfl) ?_))))
      refine wl_end [(0, _), (2, _), (10, _), (63, _)] ⟨rfl, rfl, rfl, rfl, trivial⟩ ?_
      refine w_post (fun m H w' => m = [(0, .pointer (some ⟨b, 0, .none⟩)), (10, .int .i64 x)] ∧
        H = [blk b [.int .i64 (n : Int), .int .i64 ((A ++ B).length : Int), .int .i64 (hdE (-1) (nodes (A ++ (x, v) :: B))), .int .i64 (hdE (-1) (nodes (A ++ (x, v) :: B)).reverse), .slice (some ⟨g1, 0, .none⟩) used'.length c1, .slice (some ⟨g2, 0, .none⟩) used'.length c2, .slice (some ⟨g3, 0, .none⟩) used'.length c3, .slice (some ⟨g4, 0, .none⟩) used'.length c4] (kBuc).list,
          row (.slice (some ⟨g1, 0, .none⟩) used'.length c1) 4 1 used'.length (bov (used'.set x true)), row (.slice (some ⟨g2, 0, .none⟩) used'.length c2) 3 1 used'.length (iv (setLast (nx'.set x (hdE (-1) (nodes B))) (nodes A) x)),
          row (.slice (some ⟨g3, 0, .none⟩) used'.length c3) 3 1 used'.length (iv (setLast (pv'.set x (hdE (-1) (nodes A).reverse)) (nodes B).reverse x)), row (.slice (some ⟨g4, 0, .none⟩) used'.length c4) (kBuc).elem (kBuc).sz used'.length (vcells kBuc (vs'.set x v))]) ?_ ?_
      · skip
        refine w_ifd rfl (fun hc3 => ?_) (fun hc3 => ?_)
        · skip
          have hB : B = [] := by simpa using hdE_nil hc3
          subst hB
          refine w_reg (wl_f (f_move rfl) (wl_f (f_move rfl) (wl_f (f_nilCheck rfl) (wl_f (f_fieldAddr 3 rfl Tryz.underlying131 rfl rfl (by kernel_rfl)) ?_))))
          refine wl_e0 (e_store0 (us := [_]) rfl rfl rfl (by kernel_rfl) (by simp [Value.oneCell']) rfl rfl) ?_
          rintro _ _ w9_4 rfl
          refine wl_end [(0, _), (10, _)] ⟨rfl, rfl, trivial⟩ ?_
          have e : hdE (-1) (nodes (A ++ (x, v) :: [])).reverse = x := by simp [nodes, hdE]
          rw [e]
          exact ⟨rfl, rfl⟩
        · skip
          obtain ⟨a, t, hB⟩ := hdE_cons hc3
          have hal : a < used'.length := hc'.lt a (by
            have : a ∈ nodes B := by rw [hB]; simp
            rw [nodes, List.map_append]
            exact List.mem_append_right _ this)
          have hB2 : hdE (-1) (nodes (A ++ (x, v) :: B)).reverse = hdE (-1) (nodes (A ++ B)).reverse := by
            rcases List.eq_nil_or_concat B with rfl | ⟨B', p, rfl⟩
            · simp at hB
            · simp [hdE]
          refine w_reg (wl_f (f_move rfl) (wl_f (f_nilCheck rfl) (wl_f (f_fieldAddr 6 rfl Tryz.underlying131 rfl rfl (by kernel_rfl)) ?_)))
          refine wl_f (f_loadb 0 rfl Tryz.underlying22 rfl rfl rfl) ?_
          refine wl_f (f_move rfl) (wl_f (f_move rfl) (wl_f (f_indexAddr 1 (i := a) rfl rfl Tryz.underlying22 (by kernel_rfl) (by rw [hB]; rfl) hal) ?_))
          refine wl_e0 (e_storerN 3 (us := [_]) (xs' := iv ((pv'.set x (hdE (-1) (nodes A).reverse)).set a x)) rfl rfl rfl rfl (by kernel_rfl) (by simp [Value.oneCell']) (by simp [iv]; omega) (map_set (Value.int .i64) _ (by simp; omega))) ?_
          rintro _ _ w10_7 rfl
          refine wl_end [(0, _), (10, _)] ⟨rfl, rfl, trivial⟩ ?_
          exact ⟨rfl, by rw [setLast_cons (N := (nodes B).reverse) (by rw [List.reverse_reverse]; exact hB), hB2]; rfl⟩
      · rintro _ _ w ⟨rfl, rfl⟩
        refine w_seq (w_reg (wl_f (f_move rfl) (wl_f (f_nilCheck rfl) (wl_f (f_fieldAddr 1 rfl Tryz.underlying131 rfl rfl (by kernel_rfl)) ?_))))
        refine wl_f (f_loadb 0 rfl Tryz.underlying3 rfl rfl rfl) ?_
        refine wl_f (f_add rfl rfl (by omega)) ?_
        refine wl_f (f_nilCheck rfl) (wl_f (f_fieldAddr 1 rfl Tryz.underlying131 rfl rfl (by kernel_rfl)) ?_)
        refine wl_e0 (e_store0 (us := [_]) rfl rfl rfl (by kernel_rfl) (by simp [Value.oneCell']) rfl rfl) ?_
        rintro _ _ w11_7 rfl
        refine wl_end [(10, _)] ⟨rfl, trivial⟩ ?_
        refine w_seq (w_reg (wl_f (f_move rfl) (wl_f (f_assign rfl) (wl_f (f_assign rfl) (wl_end [(8, _), (9, _)] ⟨rfl, rfl, trivial⟩ ?_)))))
        refine w_bun (H := []) [_, _, _, _, _] ?_
        refine w_ret ?_
        refine ⟨_, _, fun a ha hh => results_tmps Tryz.results122 rfl a ha _, List.Sublist.refl _, ?_⟩
        refine .inr ⟨by omega, x, _, hfr, rfl, rfl, .slice (some ⟨g1, 0, .none⟩) used'.length c1, .slice (some ⟨g2, 0, .none⟩) used'.length c2, .slice (some ⟨g3, 0, .none⟩) used'.length c3, .slice (some ⟨g4, 0, .none⟩) used'.length c4, _, _, _, _, ?_, hc'.insert hfr.1 hx v⟩
        have e1 : (((A ++ (x, v) :: B).length : Nat) : Int) = ((A ++ B).length : Int) + 1 := by simp; omega
        rw [chs, List.length_set, e1]
        rfl
end Go.Proofs.YtmagdjlcckgkpaaGreat

/- Linked lists: first, last, number, neighbours, values. -/
namespace Go.Proofs.YtmagdjlcckgkpaaGreat
open Go.RowKit

theorem not_isAt {node : Int} {N : List Nat} (h : (!isAt node N) = true) : isAt node N = false := by simpa using h
theorem is_isAt {node : Int} {N : List Nat} (h : ¬ (!isAt node N) = true) : isAt node N = true := by simpa using h
theorem nodes_split {α : Type} (A B : List (Nat × α)) (x : Nat) (v : α) : nodes (A ++ (x, v) :: B) = nodes A ++ x :: nodes B := by simp [nodes]
theorem CInv.next {α : Type} {n : Nat} {A B : List (Nat × α)} {x : Nat} {v : α} {used : List Bool} {nx pv : List Int} {vs : List α} (h : CInv n (A ++ (x, v) :: B) used nx pv vs) : nx[x]? = some (hdE (-1) (nodes B)) := by
  have := h.nxt
  rw [nodes_split] at this
  exact Lk_get this
theorem CInv.prev {α : Type} {n : Nat} {A B : List (Nat × α)} {x : Nat} {v : α} {used : List Bool} {nx pv : List Int} {vs : List α} (h : CInv n (A ++ (x, v) :: B) used nx pv vs) : pv[x]? = some (hdE (-1) (nodes A).reverse) := by
  have := h.prv
  rw [nodes_split, List.reverse_append, List.reverse_cons, List.append_assoc, List.singleton_append] at this
  exact Lk_get this
theorem CInv.at {α : Type} {n : Nat} {A B : List (Nat × α)} {x : Nat} {v : α} {used : List Bool} {nx pv : List Int} {vs : List α} (h : CInv n (A ++ (x, v) :: B) used nx pv vs) : vs[x]? = some v := h.val (x, v) (by simp)
theorem CInv.atlt {α : Type} {n : Nat} {A B : List (Nat × α)} {x : Nat} {v : α} {used : List Bool} {nx pv : List Int} {vs : List α} (h : CInv n (A ++ (x, v) :: B) used nx pv vs) : x < used.length := h.lt x (by simp [nodes])

theorem ifirst_spec (b n : Nat) (l : List (Nat × _)) (r : Res) (w : World) (hr : ChR kInt b n l r) (hs : Holds w r.foot [r] w) :
    Spec Tryz.prog 115 [.pointer (some ⟨b, 0, .none⟩)] w r.foot fun v H => v = .int .i64 (hdE (-1) (nodes l)) ∧ H = [r] := by
  obtain ⟨uV, nV, pV, vV, used, nx, pv, vs, rfl, hc⟩ := hr
  refine enter (n := 9) Tryz.func115 rfl rfl [(0, _)] rfl ⟨rfl, trivial⟩ hs ?_
  refine w_unb (chs kInt b n l uV nV pV vV used nx pv vs) ?_
  refine w_seq (w_reg (wl_f (f_assign rfl) (wl_end [(0, _)] ⟨rfl, trivial⟩ ?_)))
  refine w_seq (w_seq (w_reg (wl_f (f_move rfl) (wl_f (f_eqlnil rfl rfl Tryz.underlying114) ?_))))
  refine wl_end [(0, _), (4, _)] ⟨rfl, rfl, trivial⟩ ?_
  refine w_iff rfl ?_
  refine w_skip ?_
  refine w_seq (w_reg (wl_f (f_move rfl) (wl_f (f_nilCheck rfl) (wl_f (f_fieldAddr 2 rfl Tryz.underlying182 rfl rfl (by kernel_rfl)) ?_))))
  refine wl_f (f_loadb 0 rfl Tryz.underlying3 rfl rfl rfl) ?_
  refine wl_f (f_assign rfl) (wl_end [(2, _)] ⟨rfl, trivial⟩ ?_)
  refine w_bun (H := []) (chs kInt b n l uV nV pV vV used nx pv vs) ?_
  refine w_ret ?_
  refine ⟨_, _, fun a ha hh => results_tmps Tryz.results115 rfl a ha _, List.Sublist.refl _, ?_⟩
  exact ⟨rfl, rfl⟩
theorem bfirst_spec (b n : Nat) (l : List (Nat × _)) (r : Res) (w : World) (hr : ChR kBuc b n l r) (hs : Holds w r.foot [r] w) :
    Spec Tryz.prog 108 [.pointer (some ⟨b, 0, .none⟩)] w r.foot fun v H => v = .int .i64 (hdE (-1) (nodes l)) ∧ H = [r] := by
  obtain ⟨uV, nV, pV, vV, used, nx, pv, vs, rfl, hc⟩ := hr
  refine enter (n := 9) Tryz.func108 rfl rfl [(0, _)] rfl ⟨rfl, trivial⟩ hs ?_
  refine w_unb (chs kBuc b n l uV nV pV vV used nx pv vs) ?_
  refine w_seq (w_reg (wl_f (f_assign rfl) (wl_end [(0, _)] ⟨rfl, trivial⟩ ?_)))
  refine w_seq (w_seq (w_reg (wl_f (f_move rfl) (wl_f (f_eqlnil rfl rfl Tryz.underlying111) ?_))))
  refine wl_end [(0, _), (4, _)] ⟨rfl, rfl, trivial⟩ ?_
  refine w_iff rfl ?_
  refine w_skip ?_
  refine w_seq (w_reg (wl_f (f_move rfl) (wl_f (f_nilCheck rfl) (wl_f (f_fieldAddr 2 rfl Tryz.underlying131 rfl rfl (by kernel_rfl)) ?_))))
  refine wl_f (f_loadb 0 rfl Tryz.underlying3 rfl rfl rfl) ?_
  refine wl_f (f_assign rfl) (wl_end [(2, _)] ⟨rfl, trivial⟩ ?_)
  refine w_bun (H := []) (chs kBuc b n l uV nV pV vV used nx pv vs) ?_
  refine w_ret ?_
  refine ⟨_, _, fun a ha hh => results_tmps Tryz.results108 rfl a ha _, List.Sublist.refl _, ?_⟩
  exact ⟨rfl, rfl⟩
theorem ilen_spec (b n : Nat) (l : List (Nat × _)) (r : Res) (w : World) (hr : ChR kInt b n l r) (hs : Holds w r.foot [r] w) :
    Spec Tryz.prog 106 [.pointer (some ⟨b, 0, .none⟩)] w r.foot fun v H => v = .int .i64 ((l.length : Int)) ∧ H = [r] := by
  obtain ⟨uV, nV, pV, vV, used, nx, pv, vs, rfl, hc⟩ := hr
  refine enter (n := 9) Tryz.func106 rfl rfl [(0, _)] rfl ⟨rfl, trivial⟩ hs ?_
  refine w_unb (chs kInt b n l uV nV pV vV used nx pv vs) ?_
  refine w_seq (w_reg (wl_f (f_assign rfl) (wl_end [(0, _)] ⟨rfl, trivial⟩ ?_)))
  refine w_seq (w_seq (w_reg (wl_f (f_move rfl) (wl_f (f_eqlnil rfl rfl Tryz.underlying114) ?_))))
  refine wl_end [(0, _), (4, _)] ⟨rfl, rfl, trivial⟩ ?_
  refine w_iff rfl ?_
  refine w_skip ?_
  refine w_seq (w_reg (wl_f (f_move rfl) (wl_f (f_nilCheck rfl) (wl_f (f_fieldAddr 1 rfl Tryz.underlying182 rfl rfl (by kernel_rfl)) ?_))))
  refine wl_f (f_loadb 0 rfl Tryz.underlying3 rfl rfl rfl) ?_
  refine wl_f (f_assign rfl) (wl_end [(2, _)] ⟨rfl, trivial⟩ ?_)
  refine w_bun (H := []) (chs kInt b n l uV nV pV vV used nx pv vs) ?_
  refine w_ret ?_
  refine ⟨_, _, fun a ha hh => results_tmps Tryz.results106 rfl a ha _, List.Sublist.refl _, ?_⟩
  exact ⟨rfl, rfl⟩
theorem bnext_spec (b n : Nat) (l : List (Nat × _)) (r : Res) (node : Int) (w : World) (hr : ChR kBuc b n l r) (hs : Holds w r.foot [r] w) :
    Spec Tryz.prog 109 [.pointer (some ⟨b, 0, .none⟩), .int .i64 node] w r.foot fun v H => H = [r] ∧ ∃ y : Int, v = .int .i64 y ∧ (isAt node (nodes l) = false → y = -1) ∧ ∀ A x v B, l = A ++ (x, v) :: B → node = (x : Nat) → y = hdE (-1) (nodes B) := by
  refine enter (n := 16) Tryz.func109 rfl rfl [(0, _), (1, _)] rfl ⟨rfl, rfl, trivial⟩ hs ?_
  refine w_seq (w_reg (wl_f (f_assign rfl) (wl_end [(0, _), (1, _)] ⟨rfl, rfl, trivial⟩ ?_)))
  refine w_seq (w_seq (w_reg (wl_f (f_move rfl) (wl_f (f_move rfl) (wl_e (e_call1 r [] rfl Tryz.func120 (by kernel_rfl) (List.Perm.refl _) (fun w hh hs => bhas_spec b n l r node w hr hs)) ?_)))))
  rintro _ _ w1 ⟨_, rfl, rfl, rfl⟩
  refine wl_f (f_not rfl rfl) ?_
  refine wl_end [(0, _), (1, _), (8, _)] ⟨rfl, rfl, rfl, trivial⟩ ?_
  refine w_ifb rfl (fun hc1 => ?_) (fun hc1 => ?_)
  · skip
    refine w_seq (w_reg (wl_f (f_assign rfl) (wl_end [(4, _)] ⟨rfl, trivial⟩ ?_)))
    refine w_ret ?_
    refine ⟨_, _, fun a ha hh => results_tmps Tryz.results109 rfl a ha _, List.Sublist.refl _, ?_⟩
    refine ⟨rfl, -1, rfl, fun _ => rfl, fun A x v B e e2 => ?_⟩
    have := not_isAt hc1
    rw [e2, e, isAt_nat, nodes_split] at this
    simp at this
  · skip
    obtain ⟨x, rfl, hx⟩ := isAt_some (is_isAt hc1)
    obtain ⟨A, v, B, rfl⟩ := split_node hx
    obtain ⟨uV, nV, pV, vV, used, nx, pv, vs, rfl, hc⟩ := hr
    have hlt := hc.atlt
    have hnd := hc.nd
    refine w_unb (chs kBuc b n _ uV nV pV vV used nx pv vs) ?_
    refine w_with fun hh => ?_
    obtain ⟨g, cap, e⟩ := row_form hh (i := 2) rfl (by omega)
    subst e
    clear hh
    refine w_skip ?_
    refine w_seq (w_reg (wl_f (f_move rfl) (wl_f (f_nilCheck rfl) (wl_f (f_fieldAddr 5 rfl Tryz.underlying131 rfl rfl (by kernel_rfl)) ?_))))
    refine wl_f (f_loadb 0 rfl Tryz.underlying22 rfl rfl rfl) ?_
    refine wl_f (f_move rfl) (wl_f (f_indexAddr 1 (i := x) rfl rfl Tryz.underlying22 (by kernel_rfl) rfl hlt) ?_)
    refine wl_f (f_loadr (v := .int .i64 (hdE (-1) (nodes B))) 2 rfl Tryz.underlying3 rfl rfl (map_get (Value.int .i64) hc.next)) ?_
    refine wl_f (f_assign rfl) (wl_end [(4, _)] ⟨rfl, trivial⟩ ?_)
    refine w_bun (H := []) [_, _, _, _, _] ?_
    refine w_ret ?_
    refine ⟨_, _, fun a ha hh => results_tmps Tryz.results109 rfl a ha _, List.Sublist.refl _, ?_⟩
    refine ⟨rfl, _, rfl, fun h => ?_, fun A' x' v' B' e e2 => ?_⟩
    · rw [isAt_nat, nodes_split] at h
      simp at h
    · obtain rfl : x' = x := by omega
      obtain ⟨rfl, _, rfl⟩ := node_uniq hnd e
      rfl
theorem bprev_spec (b n : Nat) (l : List (Nat × _)) (r : Res) (node : Int) (w : World) (hr : ChR kBuc b n l r) (hs : Holds w r.foot [r] w) :
    Spec Tryz.prog 104 [.pointer (some ⟨b, 0, .none⟩), .int .i64 node] w r.foot fun v H => H = [r] ∧ ∃ y : Int, v = .int .i64 y ∧ (isAt node (nodes l) = false → y = -1) ∧ ∀ A x v B, l = A ++ (x, v) :: B → node = (x : Nat) → y = hdE (-1) (nodes A).reverse := by
  refine enter (n := 16) Tryz.func104 rfl rfl [(0, _), (1, _)] rfl ⟨rfl, rfl, trivial⟩ hs ?_
  refine w_seq (w_reg (wl_f (f_assign rfl) (wl_end [(0, _), (1, _)] ⟨rfl, rfl, trivial⟩ ?_)))
  refine w_seq (w_seq (w_reg (wl_f (f_move rfl) (wl_f (f_move rfl) (wl_e (e_call1 r [] rfl Tryz.func120 (by kernel_rfl) (List.Perm.refl _) (fun w hh hs => bhas_spec b n l r node w hr hs)) ?_)))))
  rintro _ _ w1 ⟨_, rfl, rfl, rfl⟩
  refine wl_f (f_not rfl rfl) ?_
  refine wl_end [(0, _), (1, _), (8, _)] ⟨rfl, rfl, rfl, trivial⟩ ?_
  refine w_ifb rfl (fun hc1 => ?_) (fun hc1 => ?_)
  · skip
    refine w_seq (w_reg (wl_f (f_assign rfl) (wl_end [(4, _)] ⟨rfl, trivial⟩ ?_)))
    refine w_ret ?_
    refine ⟨_, _, fun a ha hh => results_tmps Tryz.results104 rfl a ha _, List.Sublist.refl _, ?_⟩
    refine ⟨rfl, -1, rfl, fun _ => rfl, fun A x v B e e2 => ?_⟩
    have := not_isAt hc1
    rw [e2, e, isAt_nat, nodes_split] at this
    simp at this
  · skip
    obtain ⟨x, rfl, hx⟩ := isAt_some (is_isAt hc1)
    obtain ⟨A, v, B, rfl⟩ := split_node hx
    obtain ⟨uV, nV, pV, vV, used, nx, pv, vs, rfl, hc⟩ := hr
    have hlt := hc.atlt
    have hnd := hc.nd
    refine w_unb (chs kBuc b n _ uV nV pV vV used nx pv vs) ?_
    refine w_with fun hh => ?_
    obtain ⟨g, cap, e⟩ := row_form hh (i := 3) rfl (by omega)
    subst e
    clear hh
    refine w_skip ?_
    refine w_seq (w_reg (wl_f (f_move rfl) (wl_f (f_nilCheck rfl) (wl_f (f_fieldAddr 6 rfl Tryz.underlying131 rfl rfl (by kernel_rfl)) ?_))))
    refine wl_f (f_loadb 0 rfl Tryz.underlying22 rfl rfl rfl) ?_
    refine wl_f (f_move rfl) (wl_f (f_indexAddr 1 (i := x) rfl rfl Tryz.underlying22 (by kernel_rfl) rfl hlt) ?_)
    refine wl_f (f_loadr (v := .int .i64 (hdE (-1) (nodes A).reverse)) 3 rfl Tryz.underlying3 rfl rfl (map_get (Value.int .i64) hc.prev)) ?_
    refine wl_f (f_assign rfl) (wl_end [(4, _)] ⟨rfl, trivial⟩ ?_)
    refine w_bun (H := []) [_, _, _, _, _] ?_
    refine w_ret ?_
    refine ⟨_, _, fun a ha hh => results_tmps Tryz.results104 rfl a ha _, List.Sublist.refl _, ?_⟩
    refine ⟨rfl, _, rfl, fun h => ?_, fun A' x' v' B' e e2 => ?_⟩
    · rw [isAt_nat, nodes_split] at h
      simp at h
    · obtain rfl : x' = x := by omega
      obtain ⟨rfl, _, rfl⟩ := node_uniq hnd e
      rfl
end Go.Proofs.YtmagdjlcckgkpaaGreat

/- Linked lists: new nodes at the ends and behind a node. -/
namespace Go.Proofs.YtmagdjlcckgkpaaGreat
open Go.RowKit

/-- What a new node leaves. -/
def NewG {α : Type} (R : List (Nat × α) → Res → Prop) (n : Nat) (A B : List (Nat × α)) (v : α) (r : Res) (u : Value) (H : List Res) : Prop :=
  ((A ++ B).length = n ∧ u = .tuple #[.int .i64 0, .int .i64 7] ∧ H = [r]) ∨ ((A ++ B).length ≠ n ∧ ∃ (x : Nat) (r' : Res), Fresh (nodes (A ++ B)) x ∧ u = .tuple #[.int .i64 x, .int .i64 0] ∧ H = [r'] ∧ R (A ++ (x, v) :: B) r')
abbrev NewAt {α : Type} (K : VK α) (b n : Nat) (A B : List (Nat × α)) (v : α) (r : Res) (u : Value) (H : List Res) : Prop := NewG (ChR K b n) n A B v r u H

set_option maxHeartbeats 1000000 in
theorem ipushBack_spec (b n : Nat) (l : List (Nat × (Int))) (v : Int) (r : Res) (w : World) (hn : n ≤ 8192) (hr : ChR kInt b n l r) (hs : Holds w r.foot [r] w) :
    Spec Tryz.prog 113 [.pointer (some ⟨b, 0, .none⟩), (kInt).val v] w r.foot fun u H => NewAt kInt b n l [] v r u H := by
  obtain ⟨uV, nV, pV, vV, used, nx, pv, vs, rfl, hc⟩ := id hr
  have hr' : ChR kInt b n (l ++ []) (bun (chs kInt b n l uV nV pV vV used nx pv vs)) := by simpa using hr
  refine enter (n := 17) Tryz.func113 rfl rfl [(0, _), (1, _)] rfl ⟨rfl, rfl, trivial⟩ hs ?_
  refine w_seq (w_reg (wl_f (f_assign rfl) (wl_f (f_assign rfl) (wl_end [(0, _), (1, _)] ⟨rfl, rfl, trivial⟩ ?_))))
  refine w_seq (w_seq (w_reg (wl_f (f_move rfl) (wl_f (f_eqlnil rfl rfl Tryz.underlying114) ?_))))
  refine wl_end [(0, _), (1, _), (7, _)] ⟨rfl, rfl, rfl, trivial⟩ ?_
  refine w_iff rfl ?_
  refine w_skip ?_
  refine w_seq (w_reg (wl_f (f_move rfl) (wl_f (f_move rfl) (wl_f (f_nilCheck rfl) (wl_f (f_fieldAddr 3 rfl Tryz.underlying182 rfl rfl (by kernel_rfl)) ?_)))))
  refine wl_f (f_loadB 0 0 rfl rfl rfl Tryz.underlying3 rfl rfl) ?_
  refine wl_f (f_move rfl) (wl_e (e_call1 _ [] rfl Tryz.func123 (by kernel_rfl) (List.Perm.refl _) (fun w hh hs => iinsert_spec b n l [] v _ w hn hr' hs)) ?_)
  rintro u _ w1 ⟨H1, rfl, hH⟩
  rw [List.append_nil]
  obtain ⟨u1, u2, rfl, H2, rfl⟩ : ∃ u1 u2, u = .tuple [u1, u2].toArray ∧ ∃ H2, H1 = H2 := by
    rcases hH with ⟨_, rfl, _⟩ | ⟨_, x, r', _, rfl, _⟩
    · exact ⟨_, _, rfl, _, rfl⟩
    · exact ⟨_, _, rfl, _, rfl⟩
  refine wl_f (f_extract rfl rfl) ?_
  refine wl_f (f_extract rfl rfl) ?_
  refine wl_f (f_assign rfl) (wl_f (f_assign rfl) (wl_end [(4, _), (5, _)] ⟨rfl, rfl, trivial⟩ ?_))
  refine w_ret ?_
  refine ⟨_, _, fun a ha hh => results_tmps Tryz.results113 rfl a ha _, List.Sublist.refl _, ?_⟩
  exact hH
end Go.Proofs.YtmagdjlcckgkpaaGreat
