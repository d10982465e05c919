/- Linked lists: a node is put between two others. -/
import Derived.Test.YtbcfdgnpdaaleaaC4
namespace Go.Proofs.Ytbcfdgnpdaaleaa
open Go.RowKit

theorem hdE_nil {N : List Nat} (h : hdE (-1) N = -1) : N = [] := by
  cases N with
  | nil => rfl
  | cons a t => simp only [hdE] at h; omega
theorem hdE_cons {N : List Nat} (h : ¬ hdE (-1) N = -1) : ∃ a t, N = a :: t := by
  cases N with
  | nil => exact absurd rfl h
  | cons a t => exact ⟨a, t, rfl⟩
theorem setLast_cons {f : List Int} {N t : List Nat} {a : Nat} {v : Int} (h : N.reverse = a :: t) : setLast f N v = f.set a v := by unfold setLast; rw [h]
theorem setLast_nil {f : List Int} {v : Int} : setLast f [] v = f := rfl

set_option maxHeartbeats 4000000 in
theorem iinsert_spec (b n : Nat) (A B : List (Nat × (Int))) (v : Int) (r : Res) (w : World) (hn : n ≤ 8192) (hr : ChR kInt b n (A ++ B) r) (hs : Holds w r.foot [r] w) :
    Spec Try.prog 72 [.pointer (some ⟨b, 0, .none⟩), .int .i64 (hdE (-1) (nodes A).reverse), .int .i64 (hdE (-1) (nodes B)), (kInt).val v] w r.foot fun u H =>
      ((A ++ B).length = n ∧ u = .tuple #[.int .i64 0, .int .i64 7] ∧ H = [r]) ∨ ((A ++ B).length ≠ n ∧ ∃ (x : Nat) (r' : Res), Fresh (nodes (A ++ B)) x ∧ u = .tuple #[.int .i64 x, .int .i64 0] ∧ H = [r'] ∧ ChR kInt b n (A ++ (x, v) :: B) r') := by
  obtain ⟨uV, nV, pV, vV, used, nx, pv, vs, rfl, hc⟩ := id hr
  have hle := hc.le
  have hln := hc.len
  refine enter (n := 83) Try.func72 rfl rfl [(0, _), (1, _), (2, _), (3, _)] rfl ⟨rfl, rfl, rfl, rfl, trivial⟩ hs ?_
  refine w_unb (chs kInt b n (A ++ B) uV nV pV vV used nx pv vs) ?_
  refine w_seq ?_
  refine w_reg ?_
  refine wl_f (f_assign rfl) ?_
  refine wl_f (f_assign rfl) ?_
  skip
  refine wl_end [(0, _), (1, _), (2, _), (3, _)] ⟨rfl, rfl, rfl, rfl, trivial⟩ ?_
  refine w_seq ?_
  refine w_seq ?_
  refine w_draw [(0, true), (1, true), (2, true), (3, true), (4, true), (5, true), (6, true), (7, true), (8, true)] (_) ([]) mixed (by kernel_rfl) (by kernel_rfl) rfl (perm_all _) (fun w1_ => ?_)
  refine wd_f rfl (f_move rfl) ?_
  refine wd_f rfl (f_nilCheck rfl) ?_
  refine wd_f rfl (f_fieldAddr 1 rfl Try.underlying133 rfl rfl (by kernel_rfl)) ?_
  (first | refine wd_f rfl (f_loadb 0 rfl Try.underlying3 rfl rfl rfl) ?_ | refine wd_f rfl (f_loadb 1 rfl Try.underlying3 rfl rfl rfl) ?_ | refine wd_f rfl (f_loadb 2 rfl Try.underlying3 rfl rfl rfl) ?_ | refine wd_f rfl (f_loadb 3 rfl Try.underlying3 rfl rfl rfl) ?_ | refine wd_f rfl (f_loadb 4 rfl Try.underlying3 rfl rfl rfl) ?_ | refine wd_f rfl (f_loadb 5 rfl Try.underlying3 rfl rfl rfl) ?_ | refine wd_f rfl (f_loadb 6 rfl Try.underlying3 rfl rfl rfl) ?_)
  refine wd_f rfl (f_move rfl) ?_
  refine wd_f rfl (f_nilCheck rfl) ?_
  refine wd_f rfl (f_fieldAddr 0 rfl Try.underlying133 rfl rfl (by kernel_rfl)) ?_
  (first | refine wd_f rfl (f_loadb 0 rfl Try.underlying3 rfl rfl rfl) ?_ | refine wd_f rfl (f_loadb 1 rfl Try.underlying3 rfl rfl rfl) ?_ | refine wd_f rfl (f_loadb 2 rfl Try.underlying3 rfl rfl rfl) ?_ | refine wd_f rfl (f_loadb 3 rfl Try.underlying3 rfl rfl rfl) ?_ | refine wd_f rfl (f_loadb 4 rfl Try.underlying3 rfl rfl rfl) ?_ | refine wd_f rfl (f_loadb 5 rfl Try.underlying3 rfl rfl rfl) ?_ | refine wd_f rfl (f_loadb 6 rfl Try.underlying3 rfl rfl rfl) ?_)
  refine wd_f rfl (f_eql rfl rfl) ?_
  refine wd_end [(0, _), (1, _), (2, _), (3, _), (19, _)] ⟨rfl, rfl, rfl, rfl, rfl, trivial⟩ ?_
  refine w_ifd rfl (fun hc1 => ?_) (fun hc1 => ?_)
  · skip
    refine w_seq ?_
    refine w_reg ?_
    refine wl_f (f_assign rfl) ?_
    refine wl_f (f_assign rfl) ?_
    refine wl_end [(8, _), (9, _)] ⟨rfl, rfl, trivial⟩ ?_
    refine w_pick [0, 0, 0, 0, 0] rfl ?_
    refine w_bun (H := []) (chs kInt b n (A ++ B) uV nV pV vV used nx pv vs) ?_
    refine w_ret ?_
    refine ⟨_, _, fun a ha hh => results_tmps Try.results72 rfl a ha _, List.Sublist.refl _, ?_⟩
    exact .inl ⟨by omega, rfl, rfl⟩
  · skip
    refine w_bun (H := []) (chs kInt b n (A ++ B) uV nV pV vV used nx pv vs) ?_
    have hlt : (A ++ B).length < n := by omega
    refine w_skip ?_
    refine w_seq ?_
    refine w_reg ?_
    refine wl_f (f_move rfl) ?_
    refine wl_e (e_call1 (bun (chs kInt b n (A ++ B) uV nV pV vV used nx pv vs)) [] rfl Try.func86 (by kernel_rfl) (List.Perm.refl _) (fun w hh hs => ifree_spec b n (A ++ B) _ w hn hlt hr hs)) ?_
    rintro _ _ w3 ⟨_, rfl, x, r', rfl, rfl, uV', nV', pV', vV', used', nx', pv', vs', rfl, hc', hx, hfr⟩
    clear hc hle hln hs hr
    have hle' := hc'.le
    refine wl_unb (H := []) (chs kInt b n (A ++ B) uV' nV' pV' vV' used' nx' pv' vs') ?_
    refine wl_with fun hh => ?_
    obtain ⟨g1, c1, rfl⟩ := row_form hh (i := 1) rfl (by omega)
    obtain ⟨g2, c2, rfl⟩ := row_form hh (i := 2) rfl (by omega)
    obtain ⟨g3, c3, rfl⟩ := row_form hh (i := 3) rfl (by omega)
    obtain ⟨g4, c4, rfl⟩ := row_form hh (i := 4) rfl (by omega)
    clear hh
    have hlx := hc'.lx
    have hlp := hc'.lp
    have hlv := hc'.lv
    have hvl := vcells_len kInt kInt_len vs'
    have hvs : (kInt).sz = 1 := rfl
    rw [hvs] at hvl
    refine wl_f (f_assign rfl) ?_
    refine wl_end [(0, _), (1, _), (2, _), (3, _), (10, _)] ⟨rfl, rfl, rfl, rfl, rfl, trivial⟩ ?_
    refine w_seq ?_
    refine w_draw [(0, true), (1, true), (2, true), (3, true), (4, true), (5, true), (6, true), (7, true), (8, true), (9, true), (10, true), (11, true), (12, true), (13, true), (14, true), (15, true), (16, true), (17, true), (18, true), (19, true), (20, true), (21, true), (22, true), (23, true), (24, false), (25, true), (26, false), (27, true), (28, false), (29, true), (30, false)] ([_]) ([_, _, _, _]) mixed (by kernel_rfl) (by kernel_rfl) rfl (List.Perm.refl _) (fun w4_ => ?_)
    refine wd_f rfl (f_move rfl) ?_
    refine wd_f rfl (f_nilCheck rfl) ?_
    refine wd_f rfl (f_fieldAddr 4 rfl Try.underlying133 rfl rfl (by kernel_rfl)) ?_
    (first | refine wd_f rfl (f_loadb 0 rfl Try.underlying115 rfl rfl rfl) ?_ | refine wd_f rfl (f_loadb 1 rfl Try.underlying115 rfl rfl rfl) ?_ | refine wd_f rfl (f_loadb 2 rfl Try.underlying115 rfl rfl rfl) ?_ | refine wd_f rfl (f_loadb 3 rfl Try.underlying115 rfl rfl rfl) ?_ | refine wd_f rfl (f_loadb 4 rfl Try.underlying115 rfl rfl rfl) ?_ | refine wd_f rfl (f_loadb 5 rfl Try.underlying115 rfl rfl rfl) ?_ | refine wd_f rfl (f_loadb 6 rfl Try.underlying115 rfl rfl rfl) ?_)
    refine wd_f rfl (f_move rfl) ?_
    refine wd_f rfl (f_move rfl) ?_
    refine wd_f rfl (f_nilCheck rfl) ?_
    refine wd_f rfl (f_fieldAddr 6 rfl Try.underlying133 rfl rfl (by kernel_rfl)) ?_
    (first | refine wd_f rfl (f_loadb 0 rfl Try.underlying22 rfl rfl rfl) ?_ | refine wd_f rfl (f_loadb 1 rfl Try.underlying22 rfl rfl rfl) ?_ | refine wd_f rfl (f_loadb 2 rfl Try.underlying22 rfl rfl rfl) ?_ | refine wd_f rfl (f_loadb 3 rfl Try.underlying22 rfl rfl rfl) ?_ | refine wd_f rfl (f_loadb 4 rfl Try.underlying22 rfl rfl rfl) ?_ | refine wd_f rfl (f_loadb 5 rfl Try.underlying22 rfl rfl rfl) ?_ | refine wd_f rfl (f_loadb 6 rfl Try.underlying22 rfl rfl rfl) ?_)
    refine wd_f rfl (f_move rfl) ?_
    refine wd_f rfl (f_move rfl) ?_
    refine wd_f rfl (f_nilCheck rfl) ?_
    refine wd_f rfl (f_fieldAddr 5 rfl Try.underlying133 rfl rfl (by kernel_rfl)) ?_
    (first | refine wd_f rfl (f_loadb 0 rfl Try.underlying22 rfl rfl rfl) ?_ | refine wd_f rfl (f_loadb 1 rfl Try.underlying22 rfl rfl rfl) ?_ | refine wd_f rfl (f_loadb 2 rfl Try.underlying22 rfl rfl rfl) ?_ | refine wd_f rfl (f_loadb 3 rfl Try.underlying22 rfl rfl rfl) ?_ | refine wd_f rfl (f_loadb 4 rfl Try.underlying22 rfl rfl rfl) ?_ | refine wd_f rfl (f_loadb 5 rfl Try.underlying22 rfl rfl rfl) ?_ | refine wd_f rfl (f_loadb 6 rfl Try.underlying22 rfl rfl rfl) ?_)
    refine wd_f rfl (f_move rfl) ?_
    refine wd_f rfl (f_move rfl) ?_
    refine wd_f rfl (f_nilCheck rfl) ?_
    refine wd_f rfl (f_fieldAddr 7 rfl Try.underlying133 rfl rfl (by kernel_rfl)) ?_
    (first | refine wd_f rfl (f_loadb 0 rfl Try.underlying22 rfl rfl rfl) ?_ | refine wd_f rfl (f_loadb 1 rfl Try.underlying22 rfl rfl rfl) ?_ | refine wd_f rfl (f_loadb 2 rfl Try.underlying22 rfl rfl rfl) ?_ | refine wd_f rfl (f_loadb 3 rfl Try.underlying22 rfl rfl rfl) ?_ | refine wd_f rfl (f_loadb 4 rfl Try.underlying22 rfl rfl rfl) ?_ | refine wd_f rfl (f_loadb 5 rfl Try.underlying22 rfl rfl rfl) ?_ | refine wd_f rfl (f_loadb 6 rfl Try.underlying22 rfl rfl rfl) ?_)
    refine wd_f rfl (f_move rfl) ?_
    refine wd_f rfl (f_move rfl) ?_
    refine wd_f rfl (f_move rfl) ?_
    refine wd_f rfl (f_move rfl) ?_
    refine wd_f rfl (f_indexAddr 1 (i := x) rfl rfl Try.underlying115 (by kernel_rfl) rfl hx) ?_
    refine wd_e0 rfl (e_storerN 1 (us := [_]) (xs' := bov (used'.set x true)) rfl rfl rfl rfl (by kernel_rfl) (by simp [Value.oneCell']) (by simp [bov]; omega) (map_set Value.bool true hx)) ?_
    rintro _ _ w4_24 rfl
    refine ⟨_, List.Perm.refl _, ?_⟩
    refine wd_f rfl (f_indexAddr 1 (i := x) rfl rfl Try.underlying22 (by kernel_rfl) rfl hx) ?_
    refine wd_e0 rfl (e_storerN 3 (us := [_]) (xs' := iv (pv'.set x (hdE (-1) (nodes A).reverse))) rfl rfl rfl rfl (by kernel_rfl) (by simp [Value.oneCell']) (by simp [iv]; omega) (map_set (Value.int .i64) _ (by omega))) ?_
    rintro _ _ w4_26 rfl
    refine ⟨_, List.Perm.refl _, ?_⟩
    refine wd_f rfl (f_indexAddr 1 (i := x) rfl rfl Try.underlying22 (by kernel_rfl) rfl hx) ?_
    refine wd_e0 rfl (e_storerN 2 (us := [_]) (xs' := iv (nx'.set x (hdE (-1) (nodes B)))) rfl rfl rfl rfl (by kernel_rfl) (by simp [Value.oneCell']) (by simp [iv]; omega) (map_set (Value.int .i64) _ (by omega))) ?_
    rintro _ _ w4_28 rfl
    refine ⟨_, List.Perm.refl _, ?_⟩
    refine wd_f rfl (f_indexAddr 1 (i := x) rfl rfl Try.underlying22 (by kernel_rfl) rfl hx) ?_
    refine wd_e0 rfl (e_storerN 4 (us := [_]) (xs' := vcells kInt (vs'.set x v)) rfl rfl rfl rfl (by kernel_rfl) (by simp [Value.oneCell', kInt]) (by show 0 + x * 1 + 1 ≤ (vcells kInt vs').length; omega) (vcells_set kInt kInt_len v (by omega))) ?_
    rintro _ _ w4_30 rfl
    refine ⟨_, List.Perm.refl _, ?_⟩
    refine wd_endp [(0, _), (1, _), (2, _), (10, _)] [0, 0, 0, 0, 0] ⟨rfl, rfl, rfl, rfl, trivial⟩ rfl ?_
    refine w_seq ?_
    refine w_seq ?_
    refine w_reg ?_
    refine wl_f (f_move rfl) ?_
    refine wl_f (f_eql rfl rfl) ?_
    refine wl_end [(0, _), (1, _), (2, _), (10, _), (50, _)] ⟨rfl, rfl, rfl, rfl, rfl, trivial⟩ ?_
    refine w_post (fun m H w' => m = [(0, .pointer (some ⟨b, 0, .none⟩)), (2, .int .i64 (hdE (-1) (nodes B))), (10, .int .i64 x)] ∧
      H = [blk b [.int .i64 (n : Int), .int .i64 ((A ++ B).length : Int), .int .i64 (hdE (-1) (nodes (A ++ (x, v) :: B))), .int .i64 (hdE (-1) (nodes (A ++ B)).reverse), .slice (some ⟨g1, 0, .none⟩) used'.length c1, .slice (some ⟨g2, 0, .none⟩) used'.length c2, .slice (some ⟨g3, 0, .none⟩) used'.length c3, .slice (some ⟨g4, 0, .none⟩) used'.length c4] (kInt).list,
        row (.slice (some ⟨g1, 0, .none⟩) used'.length c1) 4 1 used'.length (bov (used'.set x true)), row (.slice (some ⟨g2, 0, .none⟩) used'.length c2) 3 1 used'.length (iv (setLast (nx'.set x (hdE (-1) (nodes B))) (nodes A) x)),
        row (.slice (some ⟨g3, 0, .none⟩) used'.length c3) 3 1 used'.length (iv (pv'.set x (hdE (-1) (nodes A).reverse))), row (.slice (some ⟨g4, 0, .none⟩) used'.length c4) (kInt).elem (kInt).sz used'.length (vcells kInt (vs'.set x v))]) ?_ ?_
    · skip
      refine w_ifd rfl (fun hc2 => ?_) (fun hc2 => ?_)
      · skip
        have hA : A = [] := by simpa using hdE_nil hc2
        subst hA
        refine w_reg ?_
        refine wl_f (f_move rfl) ?_
        refine wl_f (f_move rfl) ?_
        refine wl_f (f_nilCheck rfl) ?_
        refine wl_f (f_fieldAddr 2 rfl Try.underlying133 rfl rfl (by kernel_rfl)) ?_
        (first | refine wl_e0 (e_store0 (us := [_]) rfl rfl rfl (by kernel_rfl) (by simp [Value.oneCell']) rfl rfl) ?_ | refine wl_e0 (e_store1 (us := [_]) rfl rfl rfl (by kernel_rfl) (by simp [Value.oneCell']) rfl rfl) ?_ | refine wl_e0 (e_store2 (us := [_]) rfl rfl rfl (by kernel_rfl) (by simp [Value.oneCell']) rfl rfl) ?_ | refine wl_e0 (e_store3 (us := [_]) rfl rfl rfl (by kernel_rfl) (by simp [Value.oneCell']) rfl rfl) ?_)
        rintro _ _ w6_4 rfl
        refine wl_end [(0, _), (2, _), (10, _)] ⟨rfl, rfl, rfl, trivial⟩ ?_
        exact ⟨rfl, rfl⟩
      · skip
        obtain ⟨a, t, hA⟩ := hdE_cons hc2
        have hal : a < used'.length := hc'.lt a (by
          have : a ∈ (nodes A).reverse := by rw [hA]; simp
          rw [nodes, List.map_append]
          exact List.mem_append_left _ (List.mem_reverse.1 this))
        have hA2 : hdE (-1) (nodes (A ++ (x, v) :: B)) = hdE (-1) (nodes (A ++ B)) := by
          cases A with
          | nil => simp at hA
          | cons p A => rfl
        refine w_reg ?_
        refine wl_f (f_move rfl) ?_
        refine wl_f (f_nilCheck rfl) ?_
        refine wl_f (f_fieldAddr 5 rfl Try.underlying133 rfl rfl (by kernel_rfl)) ?_
        (first | refine wl_f (f_loadb 0 rfl Try.underlying22 rfl rfl rfl) ?_ | refine wl_f (f_loadb 1 rfl Try.underlying22 rfl rfl rfl) ?_ | refine wl_f (f_loadb 2 rfl Try.underlying22 rfl rfl rfl) ?_ | refine wl_f (f_loadb 3 rfl Try.underlying22 rfl rfl rfl) ?_ | refine wl_f (f_loadb 4 rfl Try.underlying22 rfl rfl rfl) ?_ | refine wl_f (f_loadb 5 rfl Try.underlying22 rfl rfl rfl) ?_ | refine wl_f (f_loadb 6 rfl Try.underlying22 rfl rfl rfl) ?_)
        refine wl_f (f_move rfl) ?_
        refine wl_f (f_move rfl) ?_
        refine wl_f (f_indexAddr 1 (i := a) rfl rfl Try.underlying22 (by kernel_rfl) (by rw [hA]; rfl) hal) ?_
        refine wl_e0 (e_storerN 2 (us := [_]) (xs' := iv ((nx'.set x (hdE (-1) (nodes B))).set a x)) rfl rfl rfl rfl (by kernel_rfl) (by simp [Value.oneCell']) (by simp [iv]; omega) (map_set (Value.int .i64) _ (by simp; omega))) ?_
        rintro _ _ w7_7 rfl
        refine wl_end [(0, _), (2, _), (10, _)] ⟨rfl, rfl, rfl, trivial⟩ ?_
        exact ⟨rfl, by rw [setLast_cons hA, hA2]; rfl⟩
    · rintro _ _ w ⟨rfl, rfl⟩
      refine w_seq ?_
      refine w_seq ?_
      refine w_reg ?_
      refine wl_f (f_move rfl) ?_
      refine wl_f (f_eql rfl rfl) ?_
      refine wl_end [(0, _), (2, _), (10, _), (63, _)] ⟨rfl, rfl, rfl, rfl, trivial⟩ ?_
      refine w_post (fun m H w' => m = [(0, .pointer (some ⟨b, 0, .none⟩)), (10, .int .i64 x)] ∧
        H = [blk b [.int .i64 (n : Int), .int .i64 ((A ++ B).length : Int), .int .i64 (hdE (-1) (nodes (A ++ (x, v) :: B))), .int .i64 (hdE (-1) (nodes (A ++ (x, v) :: B)).reverse), .slice (some ⟨g1, 0, .none⟩) used'.length c1, .slice (some ⟨g2, 0, .none⟩) used'.length c2, .slice (some ⟨g3, 0, .none⟩) used'.length c3, .slice (some ⟨g4, 0, .none⟩) used'.length c4] (kInt).list,
          row (.slice (some ⟨g1, 0, .none⟩) used'.length c1) 4 1 used'.length (bov (used'.set x true)), row (.slice (some ⟨g2, 0, .none⟩) used'.length c2) 3 1 used'.length (iv (setLast (nx'.set x (hdE (-1) (nodes B))) (nodes A) x)),
          row (.slice (some ⟨g3, 0, .none⟩) used'.length c3) 3 1 used'.length (iv (setLast (pv'.set x (hdE (-1) (nodes A).reverse)) (nodes B).reverse x)), row (.slice (some ⟨g4, 0, .none⟩) used'.length c4) (kInt).elem (kInt).sz used'.length (vcells kInt (vs'.set x v))]) ?_ ?_
      · skip
        refine w_ifd rfl (fun hc3 => ?_) (fun hc3 => ?_)
        · skip
          have hB : B = [] := by simpa using hdE_nil hc3
          subst hB
          refine w_reg ?_
          refine wl_f (f_move rfl) ?_
          refine wl_f (f_move rfl) ?_
          refine wl_f (f_nilCheck rfl) ?_
          refine wl_f (f_fieldAddr 3 rfl Try.underlying133 rfl rfl (by kernel_rfl)) ?_
          (first | refine wl_e0 (e_store0 (us := [_]) rfl rfl rfl (by kernel_rfl) (by simp [Value.oneCell']) rfl rfl) ?_ | refine wl_e0 (e_store1 (us := [_]) rfl rfl rfl (by kernel_rfl) (by simp [Value.oneCell']) rfl rfl) ?_ | refine wl_e0 (e_store2 (us := [_]) rfl rfl rfl (by kernel_rfl) (by simp [Value.oneCell']) rfl rfl) ?_ | refine wl_e0 (e_store3 (us := [_]) rfl rfl rfl (by kernel_rfl) (by simp [Value.oneCell']) rfl rfl) ?_)
          rintro _ _ w9_4 rfl
          refine wl_end [(0, _), (10, _)] ⟨rfl, rfl, trivial⟩ ?_
          have e : hdE (-1) (nodes (A ++ (x, v) :: [])).reverse = x := by simp [nodes, hdE]
          rw [e]
          exact ⟨rfl, rfl⟩
        · skip
          obtain ⟨a, t, hB⟩ := hdE_cons hc3
          have hal : a < used'.length := hc'.lt a (by
            have : a ∈ nodes B := by rw [hB]; simp
            rw [nodes, List.map_append]
            exact List.mem_append_right _ this)
          have hB2 : hdE (-1) (nodes (A ++ (x, v) :: B)).reverse = hdE (-1) (nodes (A ++ B)).reverse := by
            rcases List.eq_nil_or_concat B with rfl | ⟨B', p, rfl⟩
            · simp at hB
            · simp [hdE]
          refine w_reg ?_
          refine wl_f (f_move rfl) ?_
          refine wl_f (f_nilCheck rfl) ?_
          refine wl_f (f_fieldAddr 6 rfl Try.underlying133 rfl rfl (by kernel_rfl)) ?_
          (first | refine wl_f (f_loadb 0 rfl Try.underlying22 rfl rfl rfl) ?_ | refine wl_f (f_loadb 1 rfl Try.underlying22 rfl rfl rfl) ?_ | refine wl_f (f_loadb 2 rfl Try.underlying22 rfl rfl rfl) ?_ | refine wl_f (f_loadb 3 rfl Try.underlying22 rfl rfl rfl) ?_ | refine wl_f (f_loadb 4 rfl Try.underlying22 rfl rfl rfl) ?_ | refine wl_f (f_loadb 5 rfl Try.underlying22 rfl rfl rfl) ?_ | refine wl_f (f_loadb 6 rfl Try.underlying22 rfl rfl rfl) ?_)
          refine wl_f (f_move rfl) ?_
          refine wl_f (f_move rfl) ?_
          refine wl_f (f_indexAddr 1 (i := a) rfl rfl Try.underlying22 (by kernel_rfl) (by rw [hB]; rfl) hal) ?_
          refine wl_e0 (e_storerN 3 (us := [_]) (xs' := iv ((pv'.set x (hdE (-1) (nodes A).reverse)).set a x)) rfl rfl rfl rfl (by kernel_rfl) (by simp [Value.oneCell']) (by simp [iv]; omega) (map_set (Value.int .i64) _ (by simp; omega))) ?_
          rintro _ _ w10_7 rfl
          refine wl_end [(0, _), (10, _)] ⟨rfl, rfl, trivial⟩ ?_
          exact ⟨rfl, by rw [setLast_cons (N := (nodes B).reverse) (by rw [List.reverse_reverse]; exact hB), hB2]; rfl⟩
      · rintro _ _ w ⟨rfl, rfl⟩
        refine w_seq ?_
        refine w_reg ?_
        refine wl_f (f_move rfl) ?_
        refine wl_f (f_nilCheck rfl) ?_
        refine wl_f (f_fieldAddr 1 rfl Try.underlying133 rfl rfl (by kernel_rfl)) ?_
        (first | refine wl_f (f_loadb 0 rfl Try.underlying3 rfl rfl rfl) ?_ | refine wl_f (f_loadb 1 rfl Try.underlying3 rfl rfl rfl) ?_ | refine wl_f (f_loadb 2 rfl Try.underlying3 rfl rfl rfl) ?_ | refine wl_f (f_loadb 3 rfl Try.underlying3 rfl rfl rfl) ?_ | refine wl_f (f_loadb 4 rfl Try.underlying3 rfl rfl rfl) ?_ | refine wl_f (f_loadb 5 rfl Try.underlying3 rfl rfl rfl) ?_ | refine wl_f (f_loadb 6 rfl Try.underlying3 rfl rfl rfl) ?_)
        refine wl_f (f_add rfl rfl (by omega)) ?_
        refine wl_f (f_nilCheck rfl) ?_
        refine wl_f (f_fieldAddr 1 rfl Try.underlying133 rfl rfl (by kernel_rfl)) ?_
        (first | refine wl_e0 (e_store0 (us := [_]) rfl rfl rfl (by kernel_rfl) (by simp [Value.oneCell']) rfl rfl) ?_ | refine wl_e0 (e_store1 (us := [_]) rfl rfl rfl (by kernel_rfl) (by simp [Value.oneCell']) rfl rfl) ?_ | refine wl_e0 (e_store2 (us := [_]) rfl rfl rfl (by kernel_rfl) (by simp [Value.oneCell']) rfl rfl) ?_ | refine wl_e0 (e_store3 (us := [_]) rfl rfl rfl (by kernel_rfl) (by simp [Value.oneCell']) rfl rfl) ?_)
        rintro _ _ w11_7 rfl
        refine wl_end [(10, _)] ⟨rfl, trivial⟩ ?_
        refine w_seq ?_
        refine w_reg ?_
        refine wl_f (f_move rfl) ?_
        refine wl_f (f_assign rfl) ?_
        refine wl_f (f_assign rfl) ?_
        refine wl_end [(8, _), (9, _)] ⟨rfl, rfl, trivial⟩ ?_
        refine w_bun (H := []) [_, _, _, _, _] ?_
        refine w_ret ?_
        refine ⟨_, _, fun a ha hh => results_tmps Try.results72 rfl a ha _, List.Sublist.refl _, ?_⟩
        refine .inr ⟨by omega, x, _, hfr, rfl, rfl, .slice (some ⟨g1, 0, .none⟩) used'.length c1, .slice (some ⟨g2, 0, .none⟩) used'.length c2, .slice (some ⟨g3, 0, .none⟩) used'.length c3, .slice (some ⟨g4, 0, .none⟩) used'.length c4, _, _, _, _, ?_, hc'.insert hfr.1 hx v⟩
        have e1 : (((A ++ (x, v) :: B).length : Nat) : Int) = ((A ++ B).length : Int) + 1 := by simp; omega
        rw [chs, List.length_set, e1]
        rfl
set_option maxHeartbeats 4000000 in
theorem binsert_spec (b n : Nat) (A B : List (Nat × (Nat × Option Nat))) (v : Nat × Option Nat) (r : Res) (w : World) (hn : n ≤ 8192) (hr : ChR kBuc b n (A ++ B) r) (hs : Holds w r.foot [r] w) :
    Spec Try.prog 71 [.pointer (some ⟨b, 0, .none⟩), .int .i64 (hdE (-1) (nodes A).reverse), .int .i64 (hdE (-1) (nodes B)), (kBuc).val v] w r.foot fun u H =>
      ((A ++ B).length = n ∧ u = .tuple #[.int .i64 0, .int .i64 7] ∧ H = [r]) ∨ ((A ++ B).length ≠ n ∧ ∃ (x : Nat) (r' : Res), Fresh (nodes (A ++ B)) x ∧ u = .tuple #[.int .i64 x, .int .i64 0] ∧ H = [r'] ∧ ChR kBuc b n (A ++ (x, v) :: B) r') := by
  obtain ⟨uV, nV, pV, vV, used, nx, pv, vs, rfl, hc⟩ := id hr
  have hle := hc.le
  have hln := hc.len
  refine enter (n := 83) Try.func71 rfl rfl [(0, _), (1, _), (2, _), (3, _)] rfl ⟨rfl, rfl, rfl, rfl, trivial⟩ hs ?_
  refine w_unb (chs kBuc b n (A ++ B) uV nV pV vV used nx pv vs) ?_
  refine w_seq ?_
  refine w_reg ?_
  refine wl_e (e_box (cs := [_, _]) rfl rfl) ?_
  rintro _ _ w0_0 ⟨b0_0, rfl, rfl⟩
  refine wl_f (f_assign rfl) ?_
  refine wl_f (f_assign rfl) ?_
  refine wl_pick [1, 1, 1, 1, 1, 0] rfl ?_
  refine wl_end [(0, _), (1, _), (2, _), (7, _)] ⟨rfl, rfl, rfl, rfl, trivial⟩ ?_
  refine w_seq ?_
  refine w_seq ?_
  refine w_draw [(0, true), (1, true), (2, true), (3, true), (4, true), (5, true), (6, true), (7, true), (8, true)] (_) ([]) mixed (by kernel_rfl) (by kernel_rfl) rfl (perm_all _) (fun w1_ => ?_)
  refine wd_f rfl (f_move rfl) ?_
  refine wd_f rfl (f_nilCheck rfl) ?_
  refine wd_f rfl (f_fieldAddr 1 rfl Try.underlying118 rfl rfl (by kernel_rfl)) ?_
  (first | refine wd_f rfl (f_loadb 0 rfl Try.underlying3 rfl rfl rfl) ?_ | refine wd_f rfl (f_loadb 1 rfl Try.underlying3 rfl rfl rfl) ?_ | refine wd_f rfl (f_loadb 2 rfl Try.underlying3 rfl rfl rfl) ?_ | refine wd_f rfl (f_loadb 3 rfl Try.underlying3 rfl rfl rfl) ?_ | refine wd_f rfl (f_loadb 4 rfl Try.underlying3 rfl rfl rfl) ?_ | refine wd_f rfl (f_loadb 5 rfl Try.underlying3 rfl rfl rfl) ?_ | refine wd_f rfl (f_loadb 6 rfl Try.underlying3 rfl rfl rfl) ?_)
  refine wd_f rfl (f_move rfl) ?_
  refine wd_f rfl (f_nilCheck rfl) ?_
  refine wd_f rfl (f_fieldAddr 0 rfl Try.underlying118 rfl rfl (by kernel_rfl)) ?_
  (first | refine wd_f rfl (f_loadb 0 rfl Try.underlying3 rfl rfl rfl) ?_ | refine wd_f rfl (f_loadb 1 rfl Try.underlying3 rfl rfl rfl) ?_ | refine wd_f rfl (f_loadb 2 rfl Try.underlying3 rfl rfl rfl) ?_ | refine wd_f rfl (f_loadb 3 rfl Try.underlying3 rfl rfl rfl) ?_ | refine wd_f rfl (f_loadb 4 rfl Try.underlying3 rfl rfl rfl) ?_ | refine wd_f rfl (f_loadb 5 rfl Try.underlying3 rfl rfl rfl) ?_ | refine wd_f rfl (f_loadb 6 rfl Try.underlying3 rfl rfl rfl) ?_)
  refine wd_f rfl (f_eql rfl rfl) ?_
  refine wd_end [(0, _), (1, _), (2, _), (7, _), (19, _)] ⟨rfl, rfl, rfl, rfl, rfl, trivial⟩ ?_
  refine w_ifd rfl (fun hc1 => ?_) (fun hc1 => ?_)
  · skip
    refine w_seq ?_
    refine w_reg ?_
    refine wl_f (f_assign rfl) ?_
    refine wl_f (f_assign rfl) ?_
    refine wl_end [(8, _), (9, _)] ⟨rfl, rfl, trivial⟩ ?_
    refine w_pick [0, 0, 0, 0, 0] rfl ?_
    refine w_bun (H := []) (chs kBuc b n (A ++ B) uV nV pV vV used nx pv vs) ?_
    refine w_ret ?_
    refine ⟨_, _, fun a ha hh => results_tmps Try.results71 rfl a ha _, List.Sublist.refl _, ?_⟩
    exact .inl ⟨by omega, rfl, rfl⟩
  · skip
    refine w_bun (H := [_]) (chs kBuc b n (A ++ B) uV nV pV vV used nx pv vs) ?_
    have hlt : (A ++ B).length < n := by omega
    refine w_skip ?_
    refine w_seq ?_
    refine w_reg ?_
    refine wl_f (f_move rfl) ?_
    refine wl_e (e_call1 (bun (chs kBuc b n (A ++ B) uV nV pV vV used nx pv vs)) [_] rfl Try.func85 (by kernel_rfl) (List.Perm.refl _) (fun w hh hs => bfree_spec b n (A ++ B) _ w hn hlt hr hs)) ?_
    rintro _ _ w3 ⟨_, rfl, x, r', rfl, rfl, uV', nV', pV', vV', used', nx', pv', vs', rfl, hc', hx, hfr⟩
    clear hc hle hln hs hr
    have hle' := hc'.le
    refine wl_unb (H := [_]) (chs kBuc b n (A ++ B) uV' nV' pV' vV' used' nx' pv' vs') ?_
    refine wl_with fun hh => ?_
    obtain ⟨g1, c1, rfl⟩ := row_form hh (i := 1) rfl (by omega)
    obtain ⟨g2, c2, rfl⟩ := row_form hh (i := 2) rfl (by omega)
    obtain ⟨g3, c3, rfl⟩ := row_form hh (i := 3) rfl (by omega)
    obtain ⟨g4, c4, rfl⟩ := row_form hh (i := 4) rfl (by omega)
    clear hh
    have hlx := hc'.lx
    have hlp := hc'.lp
    have hlv := hc'.lv
    have hvl := vcells_len kBuc kBuc_len vs'
    have hvs : (kBuc).sz = 2 := rfl
    rw [hvs] at hvl
    refine wl_f (f_assign rfl) ?_
    refine wl_end [(0, _), (1, _), (2, _), (7, _), (10, _)] ⟨rfl, rfl, rfl, rfl, rfl, trivial⟩ ?_
    refine w_seq ?_
    refine w_draw [(0, true), (1, true), (2, true), (3, true), (4, true), (5, true), (6, true), (7, true), (8, true), (9, true), (10, true), (11, true), (12, true), (13, true), (14, true), (15, true), (16, true), (17, true), (18, true), (19, true), (20, true), (21, true), (22, true), (23, true), (24, false), (25, true), (26, false), (27, true), (28, false), (29, true), (30, false)] ([_, _]) ([_, _, _, _]) mixed (by kernel_rfl) (by kernel_rfl) rfl (pick_perm [0, 4] _ rfl) (fun w4_ => ?_)
    refine wd_f rfl (f_move rfl) ?_
    refine wd_f rfl (f_nilCheck rfl) ?_
    refine wd_f rfl (f_fieldAddr 4 rfl Try.underlying118 rfl rfl (by kernel_rfl)) ?_
    (first | refine wd_f rfl (f_loadb 0 rfl Try.underlying115 rfl rfl rfl) ?_ | refine wd_f rfl (f_loadb 1 rfl Try.underlying115 rfl rfl rfl) ?_ | refine wd_f rfl (f_loadb 2 rfl Try.underlying115 rfl rfl rfl) ?_ | refine wd_f rfl (f_loadb 3 rfl Try.underlying115 rfl rfl rfl) ?_ | refine wd_f rfl (f_loadb 4 rfl Try.underlying115 rfl rfl rfl) ?_ | refine wd_f rfl (f_loadb 5 rfl Try.underlying115 rfl rfl rfl) ?_ | refine wd_f rfl (f_loadb 6 rfl Try.underlying115 rfl rfl rfl) ?_)
    refine wd_f rfl (f_move rfl) ?_
    refine wd_f rfl (f_move rfl) ?_
    refine wd_f rfl (f_nilCheck rfl) ?_
    refine wd_f rfl (f_fieldAddr 6 rfl Try.underlying118 rfl rfl (by kernel_rfl)) ?_
    (first | refine wd_f rfl (f_loadb 0 rfl Try.underlying22 rfl rfl rfl) ?_ | refine wd_f rfl (f_loadb 1 rfl Try.underlying22 rfl rfl rfl) ?_ | refine wd_f rfl (f_loadb 2 rfl Try.underlying22 rfl rfl rfl) ?_ | refine wd_f rfl (f_loadb 3 rfl Try.underlying22 rfl rfl rfl) ?_ | refine wd_f rfl (f_loadb 4 rfl Try.underlying22 rfl rfl rfl) ?_ | refine wd_f rfl (f_loadb 5 rfl Try.underlying22 rfl rfl rfl) ?_ | refine wd_f rfl (f_loadb 6 rfl Try.underlying22 rfl rfl rfl) ?_)
    refine wd_f rfl (f_move rfl) ?_
    refine wd_f rfl (f_move rfl) ?_
    refine wd_f rfl (f_nilCheck rfl) ?_
    refine wd_f rfl (f_fieldAddr 5 rfl Try.underlying118 rfl rfl (by kernel_rfl)) ?_
    (first | refine wd_f rfl (f_loadb 0 rfl Try.underlying22 rfl rfl rfl) ?_ | refine wd_f rfl (f_loadb 1 rfl Try.underlying22 rfl rfl rfl) ?_ | refine wd_f rfl (f_loadb 2 rfl Try.underlying22 rfl rfl rfl) ?_ | refine wd_f rfl (f_loadb 3 rfl Try.underlying22 rfl rfl rfl) ?_ | refine wd_f rfl (f_loadb 4 rfl Try.underlying22 rfl rfl rfl) ?_ | refine wd_f rfl (f_loadb 5 rfl Try.underlying22 rfl rfl rfl) ?_ | refine wd_f rfl (f_loadb 6 rfl Try.underlying22 rfl rfl rfl) ?_)
    refine wd_f rfl (f_move rfl) ?_
    refine wd_f rfl (f_move rfl) ?_
    refine wd_f rfl (f_nilCheck rfl) ?_
    refine wd_f rfl (f_fieldAddr 7 rfl Try.underlying118 rfl rfl (by kernel_rfl)) ?_
    (first | refine wd_f rfl (f_loadb 0 rfl Try.underlying116 rfl rfl rfl) ?_ | refine wd_f rfl (f_loadb 1 rfl Try.underlying116 rfl rfl rfl) ?_ | refine wd_f rfl (f_loadb 2 rfl Try.underlying116 rfl rfl rfl) ?_ | refine wd_f rfl (f_loadb 3 rfl Try.underlying116 rfl rfl rfl) ?_ | refine wd_f rfl (f_loadb 4 rfl Try.underlying116 rfl rfl rfl) ?_ | refine wd_f rfl (f_loadb 5 rfl Try.underlying116 rfl rfl rfl) ?_ | refine wd_f rfl (f_loadb 6 rfl Try.underlying116 rfl rfl rfl) ?_)
    refine wd_f rfl (f_move rfl) ?_
    refine wd_f rfl (f_move rfl) ?_
    refine wd_f rfl (f_move rfl) ?_
    (first | refine wd_f rfl (f_loadsb (cs := [_, _]) 0 rfl Try.underlying89 rfl (by kernel_rfl) rfl rfl) ?_ | refine wd_f rfl (f_loadsb (cs := [_, _]) 1 rfl Try.underlying89 rfl (by kernel_rfl) rfl rfl) ?_ | refine wd_f rfl (f_loadsb (cs := [_, _]) 2 rfl Try.underlying89 rfl (by kernel_rfl) rfl rfl) ?_ | refine wd_f rfl (f_loadsb (cs := [_, _]) 3 rfl Try.underlying89 rfl (by kernel_rfl) rfl rfl) ?_ | refine wd_f rfl (f_loadsb (cs := [_, _]) 4 rfl Try.underlying89 rfl (by kernel_rfl) rfl rfl) ?_ | refine wd_f rfl (f_loadsb (cs := [_, _]) 5 rfl Try.underlying89 rfl (by kernel_rfl) rfl rfl) ?_ | refine wd_f rfl (f_loadsb (cs := [_, _]) 6 rfl Try.underlying89 rfl (by kernel_rfl) rfl rfl) ?_)
    refine wd_f rfl (f_indexAddr 1 (i := x) rfl rfl Try.underlying115 (by kernel_rfl) rfl hx) ?_
    refine wd_e0 rfl (e_storerN 2 (us := [_]) (xs' := bov (used'.set x true)) rfl rfl rfl rfl (by kernel_rfl) (by simp [Value.oneCell']) (by simp [bov]; omega) (map_set Value.bool true hx)) ?_
    rintro _ _ w4_24 rfl
    refine ⟨_, List.Perm.refl _, ?_⟩
    refine wd_f rfl (f_indexAddr 1 (i := x) rfl rfl Try.underlying22 (by kernel_rfl) rfl hx) ?_
    refine wd_e0 rfl (e_storerN 4 (us := [_]) (xs' := iv (pv'.set x (hdE (-1) (nodes A).reverse))) rfl rfl rfl rfl (by kernel_rfl) (by simp [Value.oneCell']) (by simp [iv]; omega) (map_set (Value.int .i64) _ (by omega))) ?_
    rintro _ _ w4_26 rfl
    refine ⟨_, List.Perm.refl _, ?_⟩
    refine wd_f rfl (f_indexAddr 1 (i := x) rfl rfl Try.underlying22 (by kernel_rfl) rfl hx) ?_
    refine wd_e0 rfl (e_storerN 3 (us := [_]) (xs' := iv (nx'.set x (hdE (-1) (nodes B)))) rfl rfl rfl rfl (by kernel_rfl) (by simp [Value.oneCell']) (by simp [iv]; omega) (map_set (Value.int .i64) _ (by omega))) ?_
    rintro _ _ w4_28 rfl
    refine ⟨_, List.Perm.refl _, ?_⟩
    refine wd_f rfl (f_indexAddr 2 (i := x) rfl rfl Try.underlying116 (by kernel_rfl) rfl hx) ?_
    refine wd_e0 rfl (e_storerN 5 (us := [_, _]) (xs' := vcells kBuc (vs'.set x v)) rfl rfl rfl rfl (by kernel_rfl) (by simp [Value.oneCell', kBuc]) (by show 0 + x * 2 + 2 ≤ (vcells kBuc vs').length; omega) (vcells_set kBuc kBuc_len v (by omega))) ?_
    rintro _ _ w4_30 rfl
    refine ⟨_, List.Perm.refl _, ?_⟩
    refine wd_endp [(0, _), (1, _), (2, _), (10, _)] [0, 1, 1, 1, 1] ⟨rfl, rfl, rfl, rfl, trivial⟩ rfl ?_
    refine w_seq ?_
    refine w_seq ?_
    refine w_reg ?_
    refine wl_f (f_move rfl) ?_
    refine wl_f (f_eql rfl rfl) ?_
    refine wl_end [(0, _), (1, _), (2, _), (10, _), (50, _)] ⟨rfl, rfl, rfl, rfl, rfl, trivial⟩ ?_
    refine w_post (fun m H w' => m = [(0, .pointer (some ⟨b, 0, .none⟩)), (2, .int .i64 (hdE (-1) (nodes B))), (10, .int .i64 x)] ∧
      H = [blk b [.int .i64 (n : Int), .int .i64 ((A ++ B).length : Int), .int .i64 (hdE (-1) (nodes (A ++ (x, v) :: B))), .int .i64 (hdE (-1) (nodes (A ++ B)).reverse), .slice (some ⟨g1, 0, .none⟩) used'.length c1, .slice (some ⟨g2, 0, .none⟩) used'.length c2, .slice (some ⟨g3, 0, .none⟩) used'.length c3, .slice (some ⟨g4, 0, .none⟩) used'.length c4] (kBuc).list,
        row (.slice (some ⟨g1, 0, .none⟩) used'.length c1) 4 1 used'.length (bov (used'.set x true)), row (.slice (some ⟨g2, 0, .none⟩) used'.length c2) 3 1 used'.length (iv (setLast (nx'.set x (hdE (-1) (nodes B))) (nodes A) x)),
        row (.slice (some ⟨g3, 0, .none⟩) used'.length c3) 3 1 used'.length (iv (pv'.set x (hdE (-1) (nodes A).reverse))), row (.slice (some ⟨g4, 0, .none⟩) used'.length c4) (kBuc).elem (kBuc).sz used'.length (vcells kBuc (vs'.set x v))]) ?_ ?_
    · skip
      refine w_ifd rfl (fun hc2 => ?_) (fun hc2 => ?_)
      · skip
        have hA : A = [] := by simpa using hdE_nil hc2
        subst hA
        refine w_reg ?_
        refine wl_f (f_move rfl) ?_
        refine wl_f (f_move rfl) ?_
        refine wl_f (f_nilCheck rfl) ?_
        refine wl_f (f_fieldAddr 2 rfl Try.underlying118 rfl rfl (by kernel_rfl)) ?_
        (first | refine wl_e0 (e_store0 (us := [_]) rfl rfl rfl (by kernel_rfl) (by simp [Value.oneCell']) rfl rfl) ?_ | refine wl_e0 (e_store1 (us := [_]) rfl rfl rfl (by kernel_rfl) (by simp [Value.oneCell']) rfl rfl) ?_ | refine wl_e0 (e_store2 (us := [_]) rfl rfl rfl (by kernel_rfl) (by simp [Value.oneCell']) rfl rfl) ?_ | refine wl_e0 (e_store3 (us := [_]) rfl rfl rfl (by kernel_rfl) (by simp [Value.oneCell']) rfl rfl) ?_)
        rintro _ _ w6_4 rfl
        refine wl_end [(0, _), (2, _), (10, _)] ⟨rfl, rfl, rfl, trivial⟩ ?_
        exact ⟨rfl, rfl⟩
      · skip
        obtain ⟨a, t, hA⟩ := hdE_cons hc2
        have hal : a < used'.length := hc'.lt a (by
          have : a ∈ (nodes A).reverse := by rw [hA]; simp
          rw [nodes, List.map_append]
          exact List.mem_append_left _ (List.mem_reverse.1 this))
        have hA2 : hdE (-1) (nodes (A ++ (x, v) :: B)) = hdE (-1) (nodes (A ++ B)) := by
          cases A with
          | nil => simp at hA
          | cons p A => rfl
        refine w_reg ?_
        refine wl_f (f_move rfl) ?_
        refine wl_f (f_nilCheck rfl) ?_
        refine wl_f (f_fieldAddr 5 rfl Try.underlying118 rfl rfl (by kernel_rfl)) ?_
        (first | refine wl_f (f_loadb 0 rfl Try.underlying22 rfl rfl rfl) ?_ | refine wl_f (f_loadb 1 rfl Try.underlying22 rfl rfl rfl) ?_ | refine wl_f (f_loadb 2 rfl Try.underlying22 rfl rfl rfl) ?_ | refine wl_f (f_loadb 3 rfl Try.underlying22 rfl rfl rfl) ?_ | refine wl_f (f_loadb 4 rfl Try.underlying22 rfl rfl rfl) ?_ | refine wl_f (f_loadb 5 rfl Try.underlying22 rfl rfl rfl) ?_ | refine wl_f (f_loadb 6 rfl Try.underlying22 rfl rfl rfl) ?_)
        refine wl_f (f_move rfl) ?_
        refine wl_f (f_move rfl) ?_
        refine wl_f (f_indexAddr 1 (i := a) rfl rfl Try.underlying22 (by kernel_rfl) (by rw [hA]; rfl) hal) ?_
        refine wl_e0 (e_storerN 2 (us := [_]) (xs' := iv ((nx'.set x (hdE (-1) (nodes B))).set a x)) rfl rfl rfl rfl (by kernel_rfl) (by simp [Value.oneCell']) (by simp [iv]; omega) (map_set (Value.int .i64) _ (by simp; omega))) ?_
        rintro _ _ w7_7 rfl
        refine wl_end [(0, _), (2, _), (10, _)] ⟨rfl, rfl, rfl, trivial⟩ ?_
        exact ⟨rfl, by rw [setLast_cons hA, hA2]; rfl⟩
    · rintro _ _ w ⟨rfl, rfl⟩
      refine w_seq ?_
      refine w_seq ?_
      refine w_reg ?_
      refine wl_f (f_move rfl) ?_
      refine wl_f (f_eql rfl rfl) ?_
      refine wl_end [(0, _), (2, _), (10, _), (63, _)] ⟨rfl, rfl, rfl, rfl, trivial⟩ ?_
      refine w_post (fun m H w' => m = [(0, .pointer (some ⟨b, 0, .none⟩)), (10, .int .i64 x)] ∧
        H = [blk b [.int .i64 (n : Int), .int .i64 ((A ++ B).length : Int), .int .i64 (hdE (-1) (nodes (A ++ (x, v) :: B))), .int .i64 (hdE (-1) (nodes (A ++ (x, v) :: B)).reverse), .slice (some ⟨g1, 0, .none⟩) used'.length c1, .slice (some ⟨g2, 0, .none⟩) used'.length c2, .slice (some ⟨g3, 0, .none⟩) used'.length c3, .slice (some ⟨g4, 0, .none⟩) used'.length c4] (kBuc).list,
          row (.slice (some ⟨g1, 0, .none⟩) used'.length c1) 4 1 used'.length (bov (used'.set x true)), row (.slice (some ⟨g2, 0, .none⟩) used'.length c2) 3 1 used'.length (iv (setLast (nx'.set x (hdE (-1) (nodes B))) (nodes A) x)),
          row (.slice (some ⟨g3, 0, .none⟩) used'.length c3) 3 1 used'.length (iv (setLast (pv'.set x (hdE (-1) (nodes A).reverse)) (nodes B).reverse x)), row (.slice (some ⟨g4, 0, .none⟩) used'.length c4) (kBuc).elem (kBuc).sz used'.length (vcells kBuc (vs'.set x v))]) ?_ ?_
      · skip
        refine w_ifd rfl (fun hc3 => ?_) (fun hc3 => ?_)
        · skip
          have hB : B = [] := by simpa using hdE_nil hc3
          subst hB
          refine w_reg ?_
          refine wl_f (f_move rfl) ?_
          refine wl_f (f_move rfl) ?_
          refine wl_f (f_nilCheck rfl) ?_
          refine wl_f (f_fieldAddr 3 rfl Try.underlying118 rfl rfl (by kernel_rfl)) ?_
          (first | refine wl_e0 (e_store0 (us := [_]) rfl rfl rfl (by kernel_rfl) (by simp [Value.oneCell']) rfl rfl) ?_ | refine wl_e0 (e_store1 (us := [_]) rfl rfl rfl (by kernel_rfl) (by simp [Value.oneCell']) rfl rfl) ?_ | refine wl_e0 (e_store2 (us := [_]) rfl rfl rfl (by kernel_rfl) (by simp [Value.oneCell']) rfl rfl) ?_ | refine wl_e0 (e_store3 (us := [_]) rfl rfl rfl (by kernel_rfl) (by simp [Value.oneCell']) rfl rfl) ?_)
          rintro _ _ w9_4 rfl
          refine wl_end [(0, _), (10, _)] ⟨rfl, rfl, trivial⟩ ?_
          have e : hdE (-1) (nodes (A ++ (x, v) :: [])).reverse = x := by simp [nodes, hdE]
          rw [e]
          exact ⟨rfl, rfl⟩
        · skip
          obtain ⟨a, t, hB⟩ := hdE_cons hc3
          have hal : a < used'.length := hc'.lt a (by
            have : a ∈ nodes B := by rw [hB]; simp
            rw [nodes, List.map_append]
            exact List.mem_append_right _ this)
          have hB2 : hdE (-1) (nodes (A ++ (x, v) :: B)).reverse = hdE (-1) (nodes (A ++ B)).reverse := by
            rcases List.eq_nil_or_concat B with rfl | ⟨B', p, rfl⟩
            · simp at hB
            · simp [hdE]
          refine w_reg ?_
          refine wl_f (f_move rfl) ?_
          refine wl_f (f_nilCheck rfl) ?_
          refine wl_f (f_fieldAddr 6 rfl Try.underlying118 rfl rfl (by kernel_rfl)) ?_
          (first | refine wl_f (f_loadb 0 rfl Try.underlying22 rfl rfl rfl) ?_ | refine wl_f (f_loadb 1 rfl Try.underlying22 rfl rfl rfl) ?_ | refine wl_f (f_loadb 2 rfl Try.underlying22 rfl rfl rfl) ?_ | refine wl_f (f_loadb 3 rfl Try.underlying22 rfl rfl rfl) ?_ | refine wl_f (f_loadb 4 rfl Try.underlying22 rfl rfl rfl) ?_ | refine wl_f (f_loadb 5 rfl Try.underlying22 rfl rfl rfl) ?_ | refine wl_f (f_loadb 6 rfl Try.underlying22 rfl rfl rfl) ?_)
          refine wl_f (f_move rfl) ?_
          refine wl_f (f_move rfl) ?_
          refine wl_f (f_indexAddr 1 (i := a) rfl rfl Try.underlying22 (by kernel_rfl) (by rw [hB]; rfl) hal) ?_
          refine wl_e0 (e_storerN 3 (us := [_]) (xs' := iv ((pv'.set x (hdE (-1) (nodes A).reverse)).set a x)) rfl rfl rfl rfl (by kernel_rfl) (by simp [Value.oneCell']) (by simp [iv]; omega) (map_set (Value.int .i64) _ (by simp; omega))) ?_
          rintro _ _ w10_7 rfl
          refine wl_end [(0, _), (10, _)] ⟨rfl, rfl, trivial⟩ ?_
          exact ⟨rfl, by rw [setLast_cons (N := (nodes B).reverse) (by rw [List.reverse_reverse]; exact hB), hB2]; rfl⟩
      · rintro _ _ w ⟨rfl, rfl⟩
        refine w_seq ?_
        refine w_reg ?_
        refine wl_f (f_move rfl) ?_
        refine wl_f (f_nilCheck rfl) ?_
        refine wl_f (f_fieldAddr 1 rfl Try.underlying118 rfl rfl (by kernel_rfl)) ?_
        (first | refine wl_f (f_loadb 0 rfl Try.underlying3 rfl rfl rfl) ?_ | refine wl_f (f_loadb 1 rfl Try.underlying3 rfl rfl rfl) ?_ | refine wl_f (f_loadb 2 rfl Try.underlying3 rfl rfl rfl) ?_ | refine wl_f (f_loadb 3 rfl Try.underlying3 rfl rfl rfl) ?_ | refine wl_f (f_loadb 4 rfl Try.underlying3 rfl rfl rfl) ?_ | refine wl_f (f_loadb 5 rfl Try.underlying3 rfl rfl rfl) ?_ | refine wl_f (f_loadb 6 rfl Try.underlying3 rfl rfl rfl) ?_)
        refine wl_f (f_add rfl rfl (by omega)) ?_
        refine wl_f (f_nilCheck rfl) ?_
        refine wl_f (f_fieldAddr 1 rfl Try.underlying118 rfl rfl (by kernel_rfl)) ?_
        (first | refine wl_e0 (e_store0 (us := [_]) rfl rfl rfl (by kernel_rfl) (by simp [Value.oneCell']) rfl rfl) ?_ | refine wl_e0 (e_store1 (us := [_]) rfl rfl rfl (by kernel_rfl) (by simp [Value.oneCell']) rfl rfl) ?_ | refine wl_e0 (e_store2 (us := [_]) rfl rfl rfl (by kernel_rfl) (by simp [Value.oneCell']) rfl rfl) ?_ | refine wl_e0 (e_store3 (us := [_]) rfl rfl rfl (by kernel_rfl) (by simp [Value.oneCell']) rfl rfl) ?_)
        rintro _ _ w11_7 rfl
        refine wl_end [(10, _)] ⟨rfl, trivial⟩ ?_
        refine w_seq ?_
        refine w_reg ?_
        refine wl_f (f_move rfl) ?_
        refine wl_f (f_assign rfl) ?_
        refine wl_f (f_assign rfl) ?_
        refine wl_end [(8, _), (9, _)] ⟨rfl, rfl, trivial⟩ ?_
        refine w_bun (H := []) [_, _, _, _, _] ?_
        refine w_ret ?_
        refine ⟨_, _, fun a ha hh => results_tmps Try.results71 rfl a ha _, List.Sublist.refl _, ?_⟩
        refine .inr ⟨by omega, x, _, hfr, rfl, rfl, .slice (some ⟨g1, 0, .none⟩) used'.length c1, .slice (some ⟨g2, 0, .none⟩) used'.length c2, .slice (some ⟨g3, 0, .none⟩) used'.length c3, .slice (some ⟨g4, 0, .none⟩) used'.length c4, _, _, _, _, ?_, hc'.insert hfr.1 hx v⟩
        have e1 : (((A ++ (x, v) :: B).length : Nat) : Int) = ((A ++ B).length : Int) + 1 := by simp; omega
        rw [chs, List.length_set, e1]
        rfl
end Go.Proofs.Ytbcfdgnpdaaleaa
