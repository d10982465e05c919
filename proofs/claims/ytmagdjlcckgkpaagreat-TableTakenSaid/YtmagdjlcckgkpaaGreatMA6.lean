/- Texts of this proof, part MA6: what the code does, step by step. They have no conditions. -/
import Derived.Test.YtmagdjlcckgkpaaGreatMA5
import Derived.Test.YtmagdjlcckgkpaaGreatMA2
/- Linked lists: a node is put between two others. -/
namespace Go.Proofs.YtmagdjlcckgkpaaGreat
open Go.RowKit

theorem hdE_nil {N : List Nat} (h : hdE (-1) N = -1) : N = [] := by
  cases N with
  | nil => rfl
  | cons a t => simp only [hdE] at h; omega
theorem hdE_cons {N : List Nat} (h : ¬ hdE (-1) N = -1) : ∃ a t, N = a :: t := by
  cases N with
  | nil => exact absurd rfl h
  | cons a t => exact ⟨a, t, rfl⟩
theorem setLast_cons {f : List Int} {N t : List Nat} {a : Nat} {v : Int} (h : N.reverse = a :: t) : setLast f N v = f.set a v := by unfold setLast; rw [h]
theorem setLast_nil {f : List Int} {v : Int} : setLast f [] v = f := rfl

set_option maxHeartbeats 4000000 in
theorem iinsert_spec (b n : Nat) (A B : List (Nat × (Int))) (v : Int) (r : Res) (w : World) (hn : n ≤ 8192) (hr : ChR kInt b n (A ++ B) r) (hs : Holds w r.foot [r] w) :
    Spec Tryz.prog 123 [.pointer (some ⟨b, 0, .none⟩), .int .i64 (hdE (-1) (nodes A).reverse), .int .i64 (hdE (-1) (nodes B)), (kInt).val v] w r.foot fun u H =>
      ((A ++ B).length = n ∧ u = .tuple #[.int .i64 0, .int .i64 7] ∧ H = [r]) ∨ ((A ++ B).length ≠ n ∧ ∃ (x : Nat) (r' : Res), Fresh (nodes (A ++ B)) x ∧ u = .tuple #[.int .i64 x, .int .i64 0] ∧ H = [r'] ∧ ChR kInt b n (A ++ (x, v) :: B) r') := by
  obtain ⟨uV, nV, pV, vV, used, nx, pv, vs, rfl, hc⟩ := id hr
  have hle := hc.le
  have hln := hc.len
  refine enter (n := 83) Tryz.func123 rfl rfl [(0, _), (1, _), (2, _), (3, _)] rfl ⟨rfl, rfl, rfl, rfl, trivial⟩ hs ?_
  refine w_unb (chs kInt b n (A ++ B) uV nV pV vV used nx pv vs) ?_
  refine w_seq ?_
  refine w_reg ?_
  refine wl_f (f_assign rfl) ?_
  refine wl_f (f_assign rfl) ?_
  skip
  refine wl_end [(0, _), (1, _), (2, _), (3, _)] ⟨rfl, rfl, rfl, rfl, trivial⟩ ?_
  refine w_seq ?_
  refine w_seq ?_
  refine w_draw [(0, true), (1, true), (2, true), (3, true), (4, true), (5, true), (6, true), (7, true), (8, true)] (_) ([]) mixed (by kernel_rfl) (by kernel_rfl) rfl (perm_all _) (fun w1_ => ?_)
  refine wd_f rfl (f_move rfl) ?_
  refine wd_f rfl (f_nilCheck rfl) ?_
  refine wd_f rfl (f_fieldAddr 1 rfl Tryz.underlying182 rfl rfl (by kernel_rfl)) ?_
  (first | refine wd_f rfl (f_loadb 0 rfl Tryz.underlying3 rfl rfl rfl) ?_ | refine wd_f rfl (f_loadb 1 rfl Tryz.underlying3 rfl rfl rfl) ?_ | refine wd_f rfl (f_loadb 2 rfl Tryz.underlying3 rfl rfl rfl) ?_ | refine wd_f rfl (f_loadb 3 rfl Tryz.underlying3 rfl rfl rfl) ?_ | refine wd_f rfl (f_loadb 4 rfl Tryz.underlying3 rfl rfl rfl) ?_ | refine wd_f rfl (f_loadb 5 rfl Tryz.underlying3 rfl rfl rfl) ?_ | refine wd_f rfl (f_loadb 6 rfl Tryz.underlying3 rfl rfl rfl) ?_)
  refine wd_f rfl (f_move rfl) ?_
  refine wd_f rfl (f_nilCheck rfl) ?_
  refine wd_f rfl (f_fieldAddr 0 rfl Tryz.underlying182 rfl rfl (by kernel_rfl)) ?_
  (first | refine wd_f rfl (f_loadb 0 rfl Tryz.underlying3 rfl rfl rfl) ?_ | refine wd_f rfl (f_loadb 1 rfl Tryz.underlying3 rfl rfl rfl) ?_ | refine wd_f rfl (f_loadb 2 rfl Tryz.underlying3 rfl rfl rfl) ?_ | refine wd_f rfl (f_loadb 3 rfl Tryz.underlying3 rfl rfl rfl) ?_ | refine wd_f rfl (f_loadb 4 rfl Tryz.underlying3 rfl rfl rfl) ?_ | refine wd_f rfl (f_loadb 5 rfl Tryz.underlying3 rfl rfl rfl) ?_ | refine wd_f rfl (f_loadb 6 rfl Tryz.underlying3 rfl rfl rfl) ?_)
  refine wd_f rfl (f_eql rfl rfl) ?_
  refine wd_end [(0, _), (1, _), (2, _), (3, _), (19, _)] ⟨rfl, rfl, rfl, rfl, rfl, trivial⟩ ?_
  refine w_ifd rfl (fun hc1 => ?_) (fun hc1 => ?_)
  · skip
    refine w_seq ?_
    refine w_reg ?_
    refine wl_f (f_assign rfl) ?_
    refine wl_f (f_assign rfl) ?_
    refine wl_end [(8, _), (9, _)] ⟨rfl, rfl, trivial⟩ ?_
    refine w_pick [0, 0, 0, 0, 0] rfl ?_
    refine w_bun (H := []) (chs kInt b n (A ++ B) uV nV pV vV used nx pv vs) ?_
    refine w_ret ?_
    refine ⟨_, _, fun a ha hh => results_tmps Tryz.results123 rfl a ha _, List.Sublist.refl _, ?_⟩
    exact .inl ⟨by omega, rfl, rfl⟩
  · skip
    refine w_bun (H := []) (chs kInt b n (A ++ B) uV nV pV vV used nx pv vs) ?_
    have hlt : (A ++ B).length < n := by omega
    refine w_skip ?_
    refine w_seq ?_
    refine w_reg ?_
    refine wl_f (f_move rfl) ?_
    refine wl_e (e_call1 (bun (chs kInt b n (A ++ B) uV nV pV vV used nx pv vs)) [] rfl Tryz.func137 (by kernel_rfl) (List.Perm.refl _) (fun w hh hs => ifree_spec b n (A ++ B) _ w hn hlt hr hs)) ?_
    rintro _ _ w3 ⟨_, rfl, x, r', rfl, rfl, uV', nV', pV', vV', used', nx', pv', vs', rfl, hc', hx, hfr⟩
    clear hc hle hln hs hr
    have hle' := hc'.le
    refine wl_unb (H := []) (chs kInt b n (A ++ B) uV' nV' pV' vV' used' nx' pv' vs') ?_
    refine wl_with fun hh => ?_
    obtain ⟨g1, c1, rfl⟩ := row_form hh (i := 1) rfl (by omega)
    obtain ⟨g2, c2, rfl⟩ := row_form hh (i := 2) rfl (by omega)
    obtain ⟨g3, c3, rfl⟩ := row_form hh (i := 3) rfl (by omega)
    obtain ⟨g4, c4, rfl⟩ := row_form hh (i := 4) rfl (by omega)
    clear hh
    have hlx := hc'.lx
    have hlp := hc'.lp
    have hlv := hc'.lv
    have hvl := vcells_len kInt kInt_len vs'
    have hvs : (kInt).sz = 1 := rfl
    rw [hvs] at hvl
    refine wl_f (f_assign rfl) ?_
    refine wl_end [(0, _), (1, _), (2, _), (3, _), (10, _)] ⟨rfl, rfl, rfl, rfl, rfl, trivial⟩ ?_
    refine w_seq ?_
    refine w_draw [(0, true), (1, true), (2, true), (3, true), (4, true), (5, true), (6, true), (7, true), (8, true), (9, true), (10, true), (11, true), (12, true), (13, true), (14, true), (15, true), (16, true), (17, true), (18, true), (19, true), (20, true), (21, true), (22, true), (23, true), (24, false), (25, true), (26, false), (27, true), (28, false), (29, true), (30, false)] ([_]) ([_, _, _, _]) mixed (by kernel_rfl) (by kernel_rfl) rfl (List.Perm.refl _) (fun w4_ => ?_)
    refine wd_f rfl (f_move rfl) ?_
    refine wd_f rfl (f_nilCheck rfl) ?_
    refine wd_f rfl (f_fieldAddr 4 rfl Tryz.underlying182 rfl rfl (by kernel_rfl)) ?_
    (first | refine wd_f rfl (f_loadb 0 rfl Tryz.underlying128 rfl rfl rfl) ?_ | refine wd_f rfl (f_loadb 1 rfl Tryz.underlying128 rfl rfl rfl) ?_ | refine wd_f rfl (f_loadb 2 rfl Tryz.underlying128 rfl rfl rfl) ?_ | refine wd_f rfl (f_loadb 3 rfl Tryz.underlying128 rfl rfl rfl) ?_ | refine wd_f rfl (f_loadb 4 rfl Tryz.underlying128 rfl rfl rfl) ?_ | refine wd_f rfl (f_loadb 5 rfl Tryz.underlying128 rfl rfl rfl) ?_ | refine wd_f rfl (f_loadb 6 rfl Tryz.underlying128 rfl rfl rfl) ?_)
    refine wd_f rfl (f_move rfl) ?_
    refine wd_f rfl (f_move rfl) ?_
    refine wd_f rfl (f_nilCheck rfl) ?_
    refine wd_f rfl (f_fieldAddr 6 rfl Tryz.underlying182 rfl rfl (by kernel_rfl)) ?_
    (first | refine wd_f rfl (f_loadb 0 rfl Tryz.underlying22 rfl rfl rfl) ?_ | refine wd_f rfl (f_loadb 1 rfl Tryz.underlying22 rfl rfl rfl) ?_ | refine wd_f rfl (f_loadb 2 rfl Tryz.underlying22 rfl rfl rfl) ?_ | refine wd_f rfl (f_loadb 3 rfl Tryz.underlying22 rfl rfl rfl) ?_ | refine wd_f rfl (f_loadb 4 rfl Tryz.underlying22 rfl rfl rfl) ?_ | refine wd_f rfl (f_loadb 5 rfl Tryz.underlying22 rfl rfl rfl) ?_ | refine wd_f rfl (f_loadb 6 rfl Tryz.underlying22 rfl rfl rfl) ?_)
    refine wd_f rfl (f_move rfl) ?_
    refine wd_f rfl (f_move rfl) ?_
    refine wd_f rfl (f_nilCheck rfl) ?_
    refine wd_f rfl (f_fieldAddr 5 rfl Tryz.underlying182 rfl rfl (by kernel_rfl)) ?_
    (first | refine wd_f rfl (f_loadb 0 rfl Tryz.underlying22 rfl rfl rfl) ?_ | refine wd_f rfl (f_loadb 1 rfl Tryz.underlying22 rfl rfl rfl) ?_ | refine wd_f rfl (f_loadb 2 rfl Tryz.underlying22 rfl rfl rfl) ?_ | refine wd_f rfl (f_loadb 3 rfl Tryz.underlying22 rfl rfl rfl) ?_ | refine wd_f rfl (f_loadb 4 rfl Tryz.underlying22 rfl rfl rfl) ?_ | refine wd_f rfl (f_loadb 5 rfl Tryz.underlying22 rfl rfl rfl) ?_ | refine wd_f rfl (f_loadb 6 rfl Tryz.underlying22 rfl rfl rfl) ?_)
    refine wd_f rfl (f_move rfl) ?_
    refine wd_f rfl (f_move rfl) ?_
    refine wd_f rfl (f_nilCheck rfl) ?_
    refine wd_f rfl (f_fieldAddr 7 rfl Tryz.underlying182 rfl rfl (by kernel_rfl)) ?_
    (first | refine wd_f rfl (f_loadb 0 rfl Tryz.underlying22 rfl rfl rfl) ?_ | refine wd_f rfl (f_loadb 1 rfl Tryz.underlying22 rfl rfl rfl) ?_ | refine wd_f rfl (f_loadb 2 rfl Tryz.underlying22 rfl rfl rfl) ?_ | refine wd_f rfl (f_loadb 3 rfl Tryz.underlying22 rfl rfl rfl) ?_ | refine wd_f rfl (f_loadb 4 rfl Tryz.underlying22 rfl rfl rfl) ?_ | refine wd_f rfl (f_loadb 5 rfl Tryz.underlying22 rfl rfl rfl) ?_ | refine wd_f rfl (f_loadb 6 rfl Tryz.underlying22 rfl rfl rfl) ?_)
    refine wd_f rfl (f_move rfl) ?_
    refine wd_f rfl (f_move rfl) ?_
    refine wd_f rfl (f_move rfl) ?_
    refine wd_f rfl (f_move rfl) ?_
    refine wd_f rfl (f_indexAddr 1 (i := x) rfl rfl Tryz.underlying128 (by kernel_rfl) rfl hx) ?_
    refine wd_e0 rfl (e_storerN 1 (us := [_]) (xs' := bov (used'.set x true)) rfl rfl rfl rfl (by kernel_rfl) (by simp [Value.oneCell']) (by simp [bov]; omega) (map_set Value.bool true hx)) ?_
    rintro _ _ w4_24 rfl
    refine ⟨_, List.Perm.refl _, ?_⟩
    refine wd_f rfl (f_indexAddr 1 (i := x) rfl rfl Tryz.underlying22 (by kernel_rfl) rfl hx) ?_
    refine wd_e0 rfl (e_storerN 3 (us := [_]) (xs' := iv (pv'.set x (hdE (-1) (nodes A).reverse))) rfl rfl rfl rfl (by kernel_rfl) (by simp [Value.oneCell']) (by simp [iv]; omega) (map_set (Value.int .i64) _ (by omega))) ?_
    rintro _ _ w4_26 rfl
    refine ⟨_, List.Perm.refl _, ?_⟩
    refine wd_f rfl (f_indexAddr 1 (i := x) rfl rfl Tryz.underlying22 (by kernel_rfl) rfl hx) ?_
    refine wd_e0 rfl (e_storerN 2 (us := [_]) (xs' := iv (nx'.set x (hdE (-1) (nodes B)))) rfl rfl rfl rfl (by kernel_rfl) (by simp [Value.oneCell']) (by simp [iv]; omega) (map_set (Value.int .i64) _ (by omega))) ?_
    rintro _ _ w4_28 rfl
    refine ⟨_, List.Perm.refl _, ?_⟩
    refine wd_f rfl (f_indexAddr 1 (i := x) rfl rfl Tryz.underlying22 (by kernel_rfl) rfl hx) ?_
    refine wd_e0 rfl (e_storerN 4 (us := [_]) (xs' := vcells kInt (vs'.set x v)) rfl rfl rfl rfl (by kernel_rfl) (by simp [Value.oneCell', kInt]) (by show 0 + x * 1 + 1 ≤ (vcells kInt vs').length; omega) (vcells_set kInt kInt_len v (by omega))) ?_
    rintro _ _ w4_30 rfl
    refine ⟨_, List.Perm.refl _, ?_⟩
    refine wd_endp [(0, _), (1, _), (2, _), (10, _)] [0, 0, 0, 0, 0] ⟨rfl, rfl, rfl, rfl, trivial⟩ rfl ?_
    refine w_seq ?_
    refine w_seq ?_
    refine w_reg ?_
    refine wl_f (f_move rfl) ?_
    refine wl_f (f_eql rfl rfl) ?_
    refine wl_end [(0, _), (1, _), (2, _), (10, _), (50, _)] ⟨rfl, rfl, rfl, rfl, rfl, trivial⟩ ?_
    refine w_post (fun m H w' => m = [(0, .pointer (some ⟨b, 0, .none⟩)), (2, .int .i64 (hdE (-1) (nodes B))), (10, .int .i64 x)] ∧
      H = [blk b [.int .i64 (n : Int), .int .i64 ((A ++ B).length : Int), .int .i64 (hdE (-1) (nodes (A ++ (x, v) :: B))), .int .i64 (hdE (-1) (nodes (A ++ B)).reverse), .slice (some ⟨g1, 0, .none⟩) used'.length c1, .slice (some ⟨g2, 0, .none⟩) used'.length c2, .slice (some ⟨g3, 0, .none⟩) used'.length c3, .slice (some ⟨g4, 0, .none⟩) used'.length c4] (kInt).list,
        row (.slice (some ⟨g1, 0, .none⟩) used'.length c1) 4 1 used'.length (bov (used'.set x true)), row (.slice (some ⟨g2, 0, .none⟩) used'.length c2) 3 1 used'.length (iv (setLast (nx'.set x (hdE (-1) (nodes B))) (nodes A) x)),
        row (.slice (some ⟨g3, 0, .none⟩) used'.length c3) 3 1 used'.length (iv (pv'.set x (hdE (-1) (nodes A).reverse))), row (.slice (some ⟨g4, 0, .none⟩) used'.length c4) (kInt).elem (kInt).sz used'.length (vcells kInt (vs'.set x v))]) ?_ ?_
    · skip
      refine w_ifd rfl (fun hc2 => ?_) (fun hc2 => ?_)
      · skip
        have hA : A = [] := by simpa using hdE_nil hc2
        subst hA
        refine w_reg ?_
        refine wl_f (f_move rfl) ?_
        refine wl_f (f_move rfl) ?_
        refine wl_f (f_nilCheck rfl) ?_
        refine wl_f (f_fieldAddr 2 rfl Tryz.underlying182 rfl rfl (by kernel_rfl)) ?_
        (first | refine wl_e0 (e_store0 (us := [_]) rfl rfl rfl (by kernel_rfl) (by simp [Value.oneCell']) rfl rfl) ?_ | refine wl_e0 (e_store1 (us := [_]) rfl rfl rfl (by kernel_rfl) (by simp [Value.oneCell']) rfl rfl) ?_ | refine wl_e0 (e_store2 (us := [_]) rfl rfl rfl (by kernel_rfl) (by simp [Value.oneCell']) rfl rfl) ?_ | refine wl_e0 (e_store3 (us := [_]) rfl rfl rfl (by kernel_rfl) (by simp [Value.oneCell']) rfl rfl) ?_)
        rintro _ _ w6_4 rfl
        refine wl_end [(0, _), (2, _), (10, _)] ⟨rfl, rfl, rfl, trivial⟩ ?_
        exact ⟨rfl, rfl⟩
      · skip
        obtain ⟨a, t, hA⟩ := hdE_cons hc2
        have hal : a < used'.length := hc'.lt a (by
          have : a ∈ (nodes A).reverse := by rw [hA]; simp
          rw [nodes, List.map_append]
          exact List.mem_append_left _ (List.mem_reverse.1 this))
        have hA2 : hdE (-1) (nodes (A ++ (x, v) :: B)) = hdE (-1) (nodes (A ++ B)) := by
          cases A with
          | nil => simp at hA
          | cons p A => rfl
        refine w_reg ?_
        refine wl_f (f_move rfl) ?_
        refine wl_f (f_nilCheck rfl) ?_
        refine wl_f (f_fieldAddr 5 rfl Tryz.underlying182 rfl rfl (by kernel_rfl)) ?_
        (first | refine wl_f (f_loadb 0 rfl Tryz.underlying22 rfl rfl rfl) ?_ | refine wl_f (f_loadb 1 rfl Tryz.underlying22 rfl rfl rfl) ?_ | refine wl_f (f_loadb 2 rfl Tryz.underlying22 rfl rfl rfl) ?_ | refine wl_f (f_loadb 3 rfl Tryz.underlying22 rfl rfl rfl) ?_ | refine wl_f (f_loadb 4 rfl Tryz.underlying22 rfl rfl rfl) ?_ | refine wl_f (f_loadb 5 rfl Tryz.underlying22 rfl rfl rfl) ?_ | refine wl_f (f_loadb 6 rfl Tryz.underlying22 rfl rfl rfl) ?_)
        refine wl_f (f_move rfl) ?_
        refine wl_f (f_move rfl) ?_
        refine wl_f (f_indexAddr 1 (i := a) rfl rfl Tryz.underlying22 (by kernel_rfl) (by rw [hA]; rfl) hal) ?_
        refine wl_e0 (e_storerN 2 (us := [_]) (xs' := iv ((nx'.set x (hdE (-1) (nodes B))).set a x)) rfl rfl rfl rfl (by kernel_rfl) (by simp [Value.oneCell']) (by simp [iv]; omega) (map_set (Value.int .i64) _ (by simp; omega))) ?_
        rintro _ _ w7_7 rfl
        refine wl_end [(0, _), (2, _), (10, _)] ⟨rfl, rfl, rfl, trivial⟩ ?_
        exact ⟨rfl, by rw [setLast_cons hA, hA2]; rfl⟩
    · rintro _ _ w ⟨rfl, rfl⟩
      refine w_seq ?_
      refine w_seq ?_
      refine w_reg ?_
      refine wl_f (f_move rfl) ?_
      refine wl_f (f_eql rfl rfl) ?_
      refine wl_end [(0, _), (2, _), (10, _), (63, _)] ⟨rfl, rfl, rfl, rfl, trivial⟩ ?_
      refine w_post (fun m H w' => m = [(0, .pointer (some ⟨b, 0, .none⟩)), (10, .int .i64 x)] ∧
        H = [blk b [.int .i64 (n : Int), .int .i64 ((A ++ B).length : Int), .int .i64 (hdE (-1) (nodes (A ++ (x, v) :: B))), .int .i64 (hdE (-1) (nodes (A ++ (x, v) :: B)).reverse), .slice (some ⟨g1, 0, .none⟩) used'.length c1, .slice (some ⟨g2, 0, .none⟩) used'.length c2, .slice (some ⟨g3, 0, .none⟩) used'.length c3, .slice (some ⟨g4, 0, .none⟩) used'.length c4] (kInt).list,
          row (.slice (some ⟨g1, 0, .none⟩) used'.length c1) 4 1 used'.length (bov (used'.set x true)), row (.slice (some ⟨g2, 0, .none⟩) used'.length c2) 3 1 used'.length (iv (setLast (nx'.set x (hdE (-1) (nodes B))) (nodes A) x)),
          row (.slice (some ⟨g3, 0, .none⟩) used'.length c3) 3 1 used'.length (iv (setLast (pv'.set x (hdE (-1) (nodes A).reverse)) (nodes B).reverse x)), row (.slice (some ⟨g4, 0, .none⟩) used'.length c4) (kInt).elem (kInt).sz used'.length (vcells kInt (vs'.set x v))]) ?_ ?_
      · skip
        refine w_ifd rfl (fun hc3 => ?_) (fun hc3 => ?_)
        · skip
          have hB : B = [] := by simpa using hdE_nil hc3
          subst hB
          refine w_reg ?_
          refine wl_f (f_move rfl) ?_
          refine wl_f (f_move rfl) ?_
          refine wl_f (f_nilCheck rfl) ?_
          refine wl_f (f_fieldAddr 3 rfl Tryz.underlying182 rfl rfl (by kernel_rfl)) ?_
          (first | refine wl_e0 (e_store0 (us := [_]) rfl rfl rfl (by kernel_rfl) (by simp [Value.oneCell']) rfl rfl) ?_ | refine wl_e0 (e_store1 (us := [_]) rfl rfl rfl (by kernel_rfl) (by simp [Value.oneCell']) rfl rfl) ?_ | refine wl_e0 (e_store2 (us := [_]) rfl rfl rfl (by kernel_rfl) (by simp [Value.oneCell']) rfl rfl) ?_ | refine wl_e0 (e_store3 (us := [_]) rfl rfl rfl (by kernel_rfl) (by simp [Value.oneCell']) rfl rfl) ?_)
          rintro _ _ w9_4 rfl
          refine wl_end [(0, _), (10, _)] ⟨rfl, rfl, trivial⟩ ?_
          have e : hdE (-1) (nodes (A ++ (x, v) :: [])).reverse = x := by simp [nodes, hdE]
          rw [e]
          exact ⟨rfl, rfl⟩
        · skip
          obtain ⟨a, t, hB⟩ := hdE_cons hc3
          have hal : a < used'.length := hc'.lt a (by
            have : a ∈ nodes B := by rw [hB]; simp
            rw [nodes, List.map_append]
            exact List.mem_append_right _ this)
          have hB2 : hdE (-1) (nodes (A ++ (x, v) :: B)).reverse = hdE (-1) (nodes (A ++ B)).reverse := by
            rcases List.eq_nil_or_concat B with rfl | ⟨B', p, rfl⟩
            · simp at hB
            · simp [hdE]
          refine w_reg ?_
          refine wl_f (f_move rfl) ?_
          refine wl_f (f_nilCheck rfl) ?_
          refine wl_f (f_fieldAddr 6 rfl Tryz.underlying182 rfl rfl (by kernel_rfl)) ?_
          (first | refine wl_f (f_loadb 0 rfl Tryz.underlying22 rfl rfl rfl) ?_ | refine wl_f (f_loadb 1 rfl Tryz.underlying22 rfl rfl rfl) ?_ | refine wl_f (f_loadb 2 rfl Tryz.underlying22 rfl rfl rfl) ?_ | refine wl_f (f_loadb 3 rfl Tryz.underlying22 rfl rfl rfl) ?_ | refine wl_f (f_loadb 4 rfl Tryz.underlying22 rfl rfl rfl) ?_ | refine wl_f (f_loadb 5 rfl Tryz.underlying22 rfl rfl rfl) ?_ | refine wl_f (f_loadb 6 rfl Tryz.underlying22 rfl rfl rfl) ?_)
          refine wl_f (f_move rfl) ?_
          refine wl_f (f_move rfl) ?_
          refine wl_f (f_indexAddr 1 (i := a) rfl rfl Tryz.underlying22 (by kernel_rfl) (by rw [hB]; rfl) hal) ?_
          refine wl_e0 (e_storerN 3 (us := [_]) (xs' := iv ((pv'.set x (hdE (-1) (nodes A).reverse)).set a x)) rfl rfl rfl rfl (by kernel_rfl) (by simp [Value.oneCell']) (by simp [iv]; omega) (map_set (Value.int .i64) _ (by simp; omega))) ?_
          rintro _ _ w10_7 rfl
          refine wl_end [(0, _), (10, _)] ⟨rfl, rfl, trivial⟩ ?_
          exact ⟨rfl, by rw [setLast_cons (N := (nodes B).reverse) (by rw [List.reverse_reverse]; exact hB), hB2]; rfl⟩
      · rintro _ _ w ⟨rfl, rfl⟩
        refine w_seq ?_
        refine w_reg ?_
        refine wl_f (f_move rfl) ?_
        refine wl_f (f_nilCheck rfl) ?_
        refine wl_f (f_fieldAddr 1 rfl Tryz.underlying182 rfl rfl (by kernel_rfl)) ?_
        (first | refine wl_f (f_loadb 0 rfl Tryz.underlying3 rfl rfl rfl) ?_ | refine wl_f (f_loadb 1 rfl Tryz.underlying3 rfl rfl rfl) ?_ | refine wl_f (f_loadb 2 rfl Tryz.underlying3 rfl rfl rfl) ?_ | refine wl_f (f_loadb 3 rfl Tryz.underlying3 rfl rfl rfl) ?_ | refine wl_f (f_loadb 4 rfl Tryz.underlying3 rfl rfl rfl) ?_ | refine wl_f (f_loadb 5 rfl Tryz.underlying3 rfl rfl rfl) ?_ | refine wl_f (f_loadb 6 rfl Tryz.underlying3 rfl rfl rfl) ?_)
        refine wl_f (f_add rfl rfl (by omega)) ?_
        refine wl_f (f_nilCheck rfl) ?_
        refine wl_f (f_fieldAddr 1 rfl Tryz.underlying182 rfl rfl (by kernel_rfl)) ?_
        (first | refine wl_e0 (e_store0 (us := [_]) rfl rfl rfl (by kernel_rfl) (by simp [Value.oneCell']) rfl rfl) ?_ | refine wl_e0 (e_store1 (us := [_]) rfl rfl rfl (by kernel_rfl) (by simp [Value.oneCell']) rfl rfl) ?_ | refine wl_e0 (e_store2 (us := [_]) rfl rfl rfl (by kernel_rfl) (by simp [Value.oneCell']) rfl rfl) ?_ | refine wl_e0 (e_store3 (us := [_]) rfl rfl rfl (by kernel_rfl) (by simp [Value.oneCell']) rfl rfl) ?_)
        rintro _ _ w11_7 rfl
        refine wl_end [(10, _)] ⟨rfl, trivial⟩ ?_
        refine w_seq ?_
        refine w_reg ?_
        refine wl_f (f_move rfl) ?_
        refine wl_f (f_assign rfl) ?_
        refine wl_f (f_assign rfl) ?_
        refine wl_end [(8, _), (9, _)] ⟨rfl, rfl, trivial⟩ ?_
        refine w_bun (H := []) [_, _, _, _, _] ?_
        refine w_ret ?_
        refine ⟨_, _, fun a ha hh => results_tmps Tryz.results123 rfl a ha _, List.Sublist.refl _, ?_⟩
        refine .inr ⟨by omega, x, _, hfr, rfl, rfl, .slice (some ⟨g1, 0, .none⟩) used'.length c1, .slice (some ⟨g2, 0, .none⟩) used'.length c2, .slice (some ⟨g3, 0, .none⟩) used'.length c3, .slice (some ⟨g4, 0, .none⟩) used'.length c4, _, _, _, _, ?_, hc'.insert hfr.1 hx v⟩
        have e1 : (((A ++ (x, v) :: B).length : Nat) : Int) = ((A ++ B).length : Int) + 1 := by simp; omega
        rw [chs, List.length_set, e1]
        rfl
set_option maxHeartbeats 4000000 in
theorem binsert_spec (b n : Nat) (A B : List (Nat × (Nat × Option Nat))) (v : Nat × Option Nat) (r : Res) (w : World) (hn : n ≤ 8192) (hr : ChR kBuc b n (A ++ B) r) (hs : Holds w r.foot [r] w) :
    Spec Tryz.prog 122 [.pointer (some ⟨b, 0, .none⟩), .int .i64 (hdE (-1) (nodes A).reverse), .int .i64 (hdE (-1) (nodes B)), (kBuc).val v] w r.foot fun u H =>
      ((A ++ B).length = n ∧ u = .tuple #[.int .i64 0, .int .i64 7] ∧ H = [r]) ∨ ((A ++ B).length ≠ n ∧ ∃ (x : Nat) (r' : Res), Fresh (nodes (A ++ B)) x ∧ u = .tuple #[.int .i64 x, .int .i64 0] ∧ H = [r'] ∧ ChR kBuc b n (A ++ (x, v) :: B) r') := by
  obtain ⟨uV, nV, pV, vV, used, nx, pv, vs, rfl, hc⟩ := id hr
  have hle := hc.le
  have hln := hc.len
  refine enter (n := 83) Tryz.func122 rfl rfl [(0, _), (1, _), (2, _), (3, _)] rfl ⟨rfl, rfl, rfl, rfl, trivial⟩ hs ?_
  refine w_unb (chs kBuc b n (A ++ B) uV nV pV vV used nx pv vs) ?_
  refine w_seq ?_
  refine w_reg ?_
  refine wl_e (e_box (cs := [_, _]) rfl rfl) ?_
  rintro _ _ w0_0 ⟨b0_0, rfl, rfl⟩
  refine wl_f (f_assign rfl) ?_
  refine wl_f (f_assign rfl) ?_
  refine wl_pick [1, 1, 1, 1, 1, 0] rfl ?_
  refine wl_end [(0, _), (1, _), (2, _), (7, _)] ⟨rfl, rfl, rfl, rfl, trivial⟩ ?_
  refine w_seq ?_
  refine w_seq ?_
  refine w_draw [(0, true), (1, true), (2, true), (3, true), (4, true), (5, true), (6, true), (7, true), (8, true)] (_) ([]) mixed (by kernel_rfl) (by kernel_rfl) rfl (perm_all _) (fun w1_ => ?_)
  refine wd_f rfl (f_move rfl) ?_
  refine wd_f rfl (f_nilCheck rfl) ?_
  refine wd_f rfl (f_fieldAddr 1 rfl Tryz.underlying131 rfl rfl (by kernel_rfl)) ?_
  (first | refine wd_f rfl (f_loadb 0 rfl Tryz.underlying3 rfl rfl rfl) ?_ | refine wd_f rfl (f_loadb 1 rfl Tryz.underlying3 rfl rfl rfl) ?_ | refine wd_f rfl (f_loadb 2 rfl Tryz.underlying3 rfl rfl rfl) ?_ | refine wd_f rfl (f_loadb 3 rfl Tryz.underlying3 rfl rfl rfl) ?_ | refine wd_f rfl (f_loadb 4 rfl Tryz.underlying3 rfl rfl rfl) ?_ | refine wd_f rfl (f_loadb 5 rfl Tryz.underlying3 rfl rfl rfl) ?_ | refine wd_f rfl (f_loadb 6 rfl Tryz.underlying3 rfl rfl rfl) ?_)
  refine wd_f rfl (f_move rfl) ?_
  refine wd_f rfl (f_nilCheck rfl) ?_
  refine wd_f rfl (f_fieldAddr 0 rfl Tryz.underlying131 rfl rfl (by kernel_rfl)) ?_
  (first | refine wd_f rfl (f_loadb 0 rfl Tryz.underlying3 rfl rfl rfl) ?_ | refine wd_f rfl (f_loadb 1 rfl Tryz.underlying3 rfl rfl rfl) ?_ | refine wd_f rfl (f_loadb 2 rfl Tryz.underlying3 rfl rfl rfl) ?_ | refine wd_f rfl (f_loadb 3 rfl Tryz.underlying3 rfl rfl rfl) ?_ | refine wd_f rfl (f_loadb 4 rfl Tryz.underlying3 rfl rfl rfl) ?_ | refine wd_f rfl (f_loadb 5 rfl Tryz.underlying3 rfl rfl rfl) ?_ | refine wd_f rfl (f_loadb 6 rfl Tryz.underlying3 rfl rfl rfl) ?_)
  refine wd_f rfl (f_eql rfl rfl) ?_
  refine wd_end [(0, _), (1, _), (2, _), (7, _), (19, _)] ⟨rfl, rfl, rfl, rfl, rfl, trivial⟩ ?_
  refine w_ifd rfl (fun hc1 => ?_) (fun hc1 => ?_)
  · skip
    refine w_seq ?_
    refine w_reg ?_
    refine wl_f (f_assign rfl) ?_
    refine wl_f (f_assign rfl) ?_
    refine wl_end [(8, _), (9, _)] ⟨rfl, rfl, trivial⟩ ?_
    refine w_pick [0, 0, 0, 0, 0] rfl ?_
    refine w_bun (H := []) (chs kBuc b n (A ++ B) uV nV pV vV used nx pv vs) ?_
    refine w_ret ?_
    refine ⟨_, _, fun a ha hh => results_tmps Tryz.results122 rfl a ha _, List.Sublist.refl _, ?_⟩
    exact .inl ⟨by omega, rfl, rfl⟩
  · skip
    refine w_bun (H := [_]) (chs kBuc b n (A ++ B) uV nV pV vV used nx pv vs) ?_
    have hlt : (A ++ B).length < n := by omega
    refine w_skip ?_
    refine w_seq ?_
    refine w_reg ?_
    refine wl_f (f_move rfl) ?_
    refine wl_e (e_call1 (bun (chs kBuc b n (A ++ B) uV nV pV vV used nx pv vs)) [_] rfl Tryz.func136 (by kernel_rfl) (List.Perm.refl _) (fun w hh hs => bfree_spec b n (A ++ B) _ w hn hlt hr hs)) ?_
    rintro _ _ w3 ⟨_, rfl, x, r', rfl, rfl, uV', nV', pV', vV', used', nx', pv', vs', rfl, hc', hx, hfr⟩
    clear hc hle hln hs hr
    have hle' := hc'.le
    refine wl_unb (H := [_]) (chs kBuc b n (A ++ B) uV' nV' pV' vV' used' nx' pv' vs') ?_
    refine wl_with fun hh => ?_
    obtain ⟨g1, c1, rfl⟩ := row_form hh (i := 1) rfl (by omega)
    obtain ⟨g2, c2, rfl⟩ := row_form hh (i := 2) rfl (by omega)
    obtain ⟨g3, c3, rfl⟩ := row_form hh (i := 3) rfl (by omega)
    obtain ⟨g4, c4, rfl⟩ := row_form hh (i := 4) rfl (by omega)
    clear hh
    have hlx := hc'.lx
    have hlp := hc'.lp
    have hlv := hc'.lv
    have hvl := vcells_len kBuc kBuc_len vs'
    have hvs : (kBuc).sz = 2 := rfl
    rw [hvs] at hvl
    refine wl_f (f_assign rfl) ?_
    refine wl_end [(0, _), (1, _), (2, _), (7, _), (10, _)] ⟨rfl, rfl, rfl, rfl, rfl, trivial⟩ ?_
    refine w_seq ?_
    refine w_draw [(0, true), (1, true), (2, true), (3, true), (4, true), (5, true), (6, true), (7, true), (8, true), (9, true), (10, true), (11, true), (12, true), (13, true), (14, true), (15, true), (16, true), (17, true), (18, true), (19, true), (20, true), (21, true), (22, true), (23, true), (24, false), (25, true), (26, false), (27, true), (28, false), (29, true), (30, false)] ([_, _]) ([_, _, _, _]) mixed (by kernel_rfl) (by kernel_rfl) rfl (pick_perm [0, 4] _ rfl) (fun w4_ => ?_)
    refine wd_f rfl (f_move rfl) ?_
    refine wd_f rfl (f_nilCheck rfl) ?_
    refine wd_f rfl (f_fieldAddr 4 rfl Tryz.underlying131 rfl rfl (by kernel_rfl)) ?_
    (first | refine wd_f rfl (f_loadb 0 rfl Tryz.underlying128 rfl rfl rfl) ?_ | refine wd_f rfl (f_loadb 1 rfl Tryz.underlying128 rfl rfl rfl) ?_ | refine wd_f rfl (f_loadb 2 rfl Tryz.underlying128 rfl rfl rfl) ?_ | refine wd_f rfl (f_loadb 3 rfl Tryz.underlying128 rfl rfl rfl) ?_ | refine wd_f rfl (f_loadb 4 rfl Tryz.underlying128 rfl rfl rfl) ?_ | refine wd_f rfl (f_loadb 5 rfl Tryz.underlying128 rfl rfl rfl) ?_ | refine wd_f rfl (f_loadb 6 rfl Tryz.underlying128 rfl rfl rfl) ?_)
    refine wd_f rfl (f_move rfl) ?_
    refine wd_f rfl (f_move rfl) ?_
    refine wd_f rfl (f_nilCheck rfl) ?_
    refine wd_f rfl (f_fieldAddr 6 rfl Tryz.underlying131 rfl rfl (by kernel_rfl)) ?_
    (first | refine wd_f rfl (f_loadb 0 rfl Tryz.underlying22 rfl rfl rfl) ?_ | refine wd_f rfl (f_loadb 1 rfl Tryz.underlying22 rfl rfl rfl) ?_ | refine wd_f rfl (f_loadb 2 rfl Tryz.underlying22 rfl rfl rfl) ?_ | refine wd_f rfl (f_loadb 3 rfl Tryz.underlying22 rfl rfl rfl) ?_ | refine wd_f rfl (f_loadb 4 rfl Tryz.underlying22 rfl rfl rfl) ?_ | refine wd_f rfl (f_loadb 5 rfl Tryz.underlying22 rfl rfl rfl) ?_ | refine wd_f rfl (f_loadb 6 rfl Tryz.underlying22 rfl rfl rfl) ?_)
    refine wd_f rfl (f_move rfl) ?_
    refine wd_f rfl (f_move rfl) ?_
    refine wd_f rfl (f_nilCheck rfl) ?_
    refine wd_f rfl (f_fieldAddr 5 rfl Tryz.underlying131 rfl rfl (by kernel_rfl)) ?_
    (first | refine wd_f rfl (f_loadb 0 rfl Tryz.underlying22 rfl rfl rfl) ?_ | refine wd_f rfl (f_loadb 1 rfl Tryz.underlying22 rfl rfl rfl) ?_ | refine wd_f rfl (f_loadb 2 rfl Tryz.underlying22 rfl rfl rfl) ?_ | refine wd_f rfl (f_loadb 3 rfl Tryz.underlying22 rfl rfl rfl) ?_ | refine wd_f rfl (f_loadb 4 rfl Tryz.underlying22 rfl rfl rfl) ?_ | refine wd_f rfl (f_loadb 5 rfl Tryz.underlying22 rfl rfl rfl) ?_ | refine wd_f rfl (f_loadb 6 rfl Tryz.underlying22 rfl rfl rfl) ?_)
    refine wd_f rfl (f_move rfl) ?_
    refine wd_f rfl (f_move rfl) ?_
    refine wd_f rfl (f_nilCheck rfl) ?_
    refine wd_f rfl (f_fieldAddr 7 rfl Tryz.underlying131 rfl rfl (by kernel_rfl)) ?_
    (first | refine wd_f rfl (f_loadb 0 rfl Tryz.underlying129 rfl rfl rfl) ?_ | refine wd_f rfl (f_loadb 1 rfl Tryz.underlying129 rfl rfl rfl) ?_ | refine wd_f rfl (f_loadb 2 rfl Tryz.underlying129 rfl rfl rfl) ?_ | refine wd_f rfl (f_loadb 3 rfl Tryz.underlying129 rfl rfl rfl) ?_ | refine wd_f rfl (f_loadb 4 rfl Tryz.underlying129 rfl rfl rfl) ?_ | refine wd_f rfl (f_loadb 5 rfl Tryz.underlying129 rfl rfl rfl) ?_ | refine wd_f rfl (f_loadb 6 rfl Tryz.underlying129 rfl rfl rfl) ?_)
    refine wd_f rfl (f_move rfl) ?_
    refine wd_f rfl (f_move rfl) ?_
    refine wd_f rfl (f_move rfl) ?_
    (first | refine wd_f rfl (f_loadsb (cs := [_, _]) 0 rfl Tryz.underlying116 rfl (by kernel_rfl) rfl rfl) ?_ | refine wd_f rfl (f_loadsb (cs := [_, _]) 1 rfl Tryz.underlying116 rfl (by kernel_rfl) rfl rfl) ?_ | refine wd_f rfl (f_loadsb (cs := [_, _]) 2 rfl Tryz.underlying116 rfl (by kernel_rfl) rfl rfl) ?_ | refine wd_f rfl (f_loadsb (cs := [_, _]) 3 rfl Tryz.underlying116 rfl (by kernel_rfl) rfl rfl) ?_ | refine wd_f rfl (f_loadsb (cs := [_, _]) 4 rfl Tryz.underlying116 rfl (by kernel_rfl) rfl rfl) ?_ | refine wd_f rfl (f_loadsb (cs := [_, _]) 5 rfl Tryz.underlying116 rfl (by kernel_rfl) rfl rfl) ?_ | refine wd_f rfl (f_loadsb (cs := [_, _]) 6 rfl Tryz.underlying116 rfl (by kernel_rfl) rfl rfl) ?_)
    refine wd_f rfl (f_indexAddr 1 (i := x) rfl rfl Tryz.underlying128 (by kernel_rfl) rfl hx) ?_
    refine wd_e0 rfl (e_storerN 2 (us := [_]) (xs' := bov (used'.set x true)) rfl rfl rfl rfl (by kernel_rfl) (by simp [Value.oneCell']) (by simp [bov]; omega) (map_set Value.bool true hx)) ?_
    rintro _ _ w4_24 rfl
    refine ⟨_, List.Perm.refl _, ?_⟩
    refine wd_f rfl (f_indexAddr 1 (i := x) rfl rfl Tryz.underlying22 (by kernel_rfl) rfl hx) ?_
    refine wd_e0 rfl (e_storerN 4 (us := [_]) (xs' := iv (pv'.set x (hdE (-1) (nodes A).reverse))) rfl rfl rfl rfl (by kernel_rfl) (by simp [Value.oneCell']) (by simp [iv]; omega) (map_set (Value.int .i64) _ (by omega))) ?_
    rintro _ _ w4_26 rfl
    refine ⟨_, List.Perm.refl _, ?_⟩
    refine wd_f rfl (f_indexAddr 1 (i := x) rfl rfl Tryz.underlying22 (by kernel_rfl) rfl hx) ?_
    refine wd_e0 rfl (e_storerN 3 (us := [_]) (xs' := iv (nx'.set x (hdE (-1) (nodes B)))) rfl rfl rfl rfl (by kernel_rfl) (by simp [Value.oneCell']) (by simp [iv]; omega) (map_set (Value.int .i64) _ (by omega))) ?_
    rintro _ _ w4_28 rfl
    refine ⟨_, List.Perm.refl _, ?_⟩
    refine wd_f rfl (f_indexAddr 2 (i := x) rfl rfl Tryz.underlying129 (by kernel_rfl) rfl hx) ?_
    refine wd_e0 rfl (e_storerN 5 (us := [_, _]) (xs' := vcells kBuc (vs'.set x v)) rfl rfl rfl rfl (by kernel_rfl) (by simp [Value.oneCell', kBuc]) (by show 0 + x * 2 + 2 ≤ (vcells kBuc vs').length; omega) (vcells_set kBuc kBuc_len v (by omega))) ?_
    rintro _ _ w4_30 rfl
    refine ⟨_, List.Perm.refl _, ?_⟩
    refine wd_endp [(0, _), (1, _), (2, _), (10, _)] [0, 1, 1, 1, 1] ⟨rfl, rfl, rfl, rfl, trivial⟩ rfl ?_
    refine w_seq ?_
    refine w_seq ?_
    refine w_reg ?_
    refine wl_f (f_move rfl) ?_
    refine wl_f (f_eql rfl rfl) ?_
    refine wl_end [(0, _), (1, _), (2, _), (10, _), (50, _)] ⟨rfl, rfl, rfl, rfl, rfl, trivial⟩ ?_
    refine w_post (fun m H w' => m = [(0, .pointer (some ⟨b, 0, .none⟩)), (2, .int .i64 (hdE (-1) (nodes B))), (10, .int .i64 x)] ∧
      H = [blk b [.int .i64 (n : Int), .int .i64 ((A ++ B).length : Int), .int .i64 (hdE (-1) (nodes (A ++ (x, v) :: B))), .int .i64 (hdE (-1) (nodes (A ++ B)).reverse), .slice (some ⟨g1, 0, .none⟩) used'.length c1, .slice (some ⟨g2, 0, .none⟩) used'.length c2, .slice (some ⟨g3, 0, .none⟩) used'.length c3, .slice (some ⟨g4, 0, .none⟩) used'.length c4] (kBuc).list,
        row (.slice (some ⟨g1, 0, .none⟩) used'.length c1) 4 1 used'.length (bov (used'.set x true)), row (.slice (some ⟨g2, 0, .none⟩) used'.length c2) 3 1 used'.length (iv (setLast (nx'.set x (hdE (-1) (nodes B))) (nodes A) x)),
        row (.slice (some ⟨g3, 0, .none⟩) used'.length c3) 3 1 used'.length (iv (pv'.set x (hdE (-1) (nodes A).reverse))), row (.slice (some ⟨g4, 0, .none⟩) used'.length c4) (kBuc).elem (kBuc).sz used'.length (vcells kBuc (vs'.set x v))]) ?_ ?_
    · skip
      refine w_ifd rfl (fun hc2 => ?_) (fun hc2 => ?_)
      · skip
        have hA : A = [] := by simpa using hdE_nil hc2
        subst hA
        refine w_reg ?_
        refine wl_f (f_move rfl) ?_
        refine wl_f (f_move rfl) ?_
        refine wl_f (f_nilCheck rfl) ?_
        refine wl_f (f_fieldAddr 2 rfl Tryz.underlying131 rfl rfl (by kernel_rfl)) ?_
        (first | refine wl_e0 (e_store0 (us := [_]) rfl rfl rfl (by kernel_rfl) (by simp [Value.oneCell']) rfl rfl) ?_ | refine wl_e0 (e_store1 (us := [_]) rfl rfl rfl (by kernel_rfl) (by simp [Value.oneCell']) rfl rfl) ?_ | refine wl_e0 (e_store2 (us := [_]) rfl rfl rfl (by kernel_rfl) (by simp [Value.oneCell']) rfl rfl) ?_ | refine wl_e0 (e_store3 (us := [_]) rfl rfl rfl (by kernel_rfl) (by simp [Value.oneCell']) rfl rfl) ?_)
        rintro _ _ w6_4 rfl
        refine wl_end [(0, _), (2, _), (10, _)] ⟨rfl, rfl, rfl, trivial⟩ ?_
        exact ⟨rfl, rfl⟩
      · skip
        obtain ⟨a, t, hA⟩ := hdE_cons hc2
        have hal : a < used'.length := hc'.lt a (by
          have : a ∈ (nodes A).reverse := by rw [hA]; simp
          rw [nodes, List.map_append]
          exact List.mem_append_left _ (List.mem_reverse.1 this))
        have hA2 : hdE (-1) (nodes (A ++ (x, v) :: B)) = hdE (-1) (nodes (A ++ B)) := by
          cases A with
          | nil => simp at hA
          | cons p A => rfl
        refine w_reg ?_
        refine wl_f (f_move rfl) ?_
        refine wl_f (f_nilCheck rfl) ?_
        refine wl_f (f_fieldAddr 5 rfl Tryz.underlying131 rfl rfl (by kernel_rfl)) ?_
        (first | refine wl_f (f_loadb 0 rfl Tryz.underlying22 rfl rfl rfl) ?_ | refine wl_f (f_loadb 1 rfl Tryz.underlying22 rfl rfl rfl) ?_ | refine wl_f (f_loadb 2 rfl Tryz.underlying22 rfl rfl rfl) ?_ | refine wl_f (f_loadb 3 rfl Tryz.underlying22 rfl rfl rfl) ?_ | refine wl_f (f_loadb 4 rfl Tryz.underlying22 rfl rfl rfl) ?_ | refine wl_f (f_loadb 5 rfl Tryz.underlying22 rfl rfl rfl) ?_ | refine wl_f (f_loadb 6 rfl Tryz.underlying22 rfl rfl rfl) ?_)
        refine wl_f (f_move rfl) ?_
        refine wl_f (f_move rfl) ?_
        refine wl_f (f_indexAddr 1 (i := a) rfl rfl Tryz.underlying22 (by kernel_rfl) (by rw [hA]; rfl) hal) ?_
        refine wl_e0 (e_storerN 2 (us := [_]) (xs' := iv ((nx'.set x (hdE (-1) (nodes B))).set a x)) rfl rfl rfl rfl (by kernel_rfl) (by simp [Value.oneCell']) (by simp [iv]; omega) (map_set (Value.int .i64) _ (by simp; omega))) ?_
        rintro _ _ w7_7 rfl
        refine wl_end [(0, _), (2, _), (10, _)] ⟨rfl, rfl, rfl, trivial⟩ ?_
        exact ⟨rfl, by rw [setLast_cons hA, hA2]; rfl⟩
    · rintro _ _ w ⟨rfl, rfl⟩
      refine w_seq ?_
      refine w_seq ?_
      refine w_reg ?_
      refine wl_f (f_move rfl) ?_
      refine wl_f (f_eql rfl rfl) ?_
      refine wl_end [(0, _), (2, _), (10, _), (63, _)] ⟨rfl, rfl, rfl, rfl, trivial⟩ ?_
      refine w_post (fun m H w' => m = [(0, .pointer (some ⟨b, 0, .none⟩)), (10, .int .i64 x)] ∧
        H = [blk b [.int .i64 (n : Int), .int .i64 ((A ++ B).length : Int), .int .i64 (hdE (-1) (nodes (A ++ (x, v) :: B))), .int .i64 (hdE (-1) (nodes (A ++ (x, v) :: B)).reverse), .slice (some ⟨g1, 0, .none⟩) used'.length c1, .slice (some ⟨g2, 0, .none⟩) used'.length c2, .slice (some ⟨g3, 0, .none⟩) used'.length c3, .slice (some ⟨g4, 0, .none⟩) used'.length c4] (kBuc).list,
          row (.slice (some ⟨g1, 0, .none⟩) used'.length c1) 4 1 used'.length (bov (used'.set x true)), row (.slice (some ⟨g2, 0, .none⟩) used'.length c2) 3 1 used'.length (iv (setLast (nx'.set x (hdE (-1) (nodes B))) (nodes A) x)),
          row (.slice (some ⟨g3, 0, .none⟩) used'.length c3) 3 1 used'.length (iv (setLast (pv'.set x (hdE (-1) (nodes A).reverse)) (nodes B).reverse x)), row (.slice (some ⟨g4, 0, .none⟩) used'.length c4) (kBuc).elem (kBuc).sz used'.length (vcells kBuc (vs'.set x v))]) ?_ ?_
      · skip
        refine w_ifd rfl (fun hc3 => ?_) (fun hc3 => ?_)
        · skip
          have hB : B = [] := by simpa using hdE_nil hc3
          subst hB
          refine w_reg ?_
          refine wl_f (f_move rfl) ?_
          refine wl_f (f_move rfl) ?_
          refine wl_f (f_nilCheck rfl) ?_
          refine wl_f (f_fieldAddr 3 rfl Tryz.underlying131 rfl rfl (by kernel_rfl)) ?_
          (first | refine wl_e0 (e_store0 (us := [_]) rfl rfl rfl (by kernel_rfl) (by simp [Value.oneCell']) rfl rfl) ?_ | refine wl_e0 (e_store1 (us := [_]) rfl rfl rfl (by kernel_rfl) (by simp [Value.oneCell']) rfl rfl) ?_ | refine wl_e0 (e_store2 (us := [_]) rfl rfl rfl (by kernel_rfl) (by simp [Value.oneCell']) rfl rfl) ?_ | refine wl_e0 (e_store3 (us := [_]) rfl rfl rfl (by kernel_rfl) (by simp [Value.oneCell']) rfl rfl) ?_)
          rintro _ _ w9_4 rfl
          refine wl_end [(0, _), (10, _)] ⟨rfl, rfl, trivial⟩ ?_
          have e : hdE (-1) (nodes (A ++ (x, v) :: [])).reverse = x := by simp [nodes, hdE]
          rw [e]
          exact ⟨rfl, rfl⟩
        · skip
          obtain ⟨a, t, hB⟩ := hdE_cons hc3
          have hal : a < used'.length := hc'.lt a (by
            have : a ∈ nodes B := by rw [hB]; simp
            rw [nodes, List.map_append]
            exact List.mem_append_right _ this)
          have hB2 : hdE (-1) (nodes (A ++ (x, v) :: B)).reverse = hdE (-1) (nodes (A ++ B)).reverse := by
            rcases List.eq_nil_or_concat B with rfl | ⟨B', p, rfl⟩
            · simp at hB
            · simp [hdE]
          refine w_reg ?_
          refine wl_f (f_move rfl) ?_
          refine wl_f (f_nilCheck rfl) ?_
          refine wl_f (f_fieldAddr 6 rfl Tryz.underlying131 rfl rfl (by kernel_rfl)) ?_
          (first | refine wl_f (f_loadb 0 rfl Tryz.underlying22 rfl rfl rfl) ?_ | refine wl_f (f_loadb 1 rfl Tryz.underlying22 rfl rfl rfl) ?_ | refine wl_f (f_loadb 2 rfl Tryz.underlying22 rfl rfl rfl) ?_ | refine wl_f (f_loadb 3 rfl Tryz.underlying22 rfl rfl rfl) ?_ | refine wl_f (f_loadb 4 rfl Tryz.underlying22 rfl rfl rfl) ?_ | refine wl_f (f_loadb 5 rfl Tryz.underlying22 rfl rfl rfl) ?_ | refine wl_f (f_loadb 6 rfl Tryz.underlying22 rfl rfl rfl) ?_)
          refine wl_f (f_move rfl) ?_
          refine wl_f (f_move rfl) ?_
          refine wl_f (f_indexAddr 1 (i := a) rfl rfl Tryz.underlying22 (by kernel_rfl) (by rw [hB]; rfl) hal) ?_
          refine wl_e0 (e_storerN 3 (us := [_]) (xs' := iv ((pv'.set x (hdE (-1) (nodes A).reverse)).set a x)) rfl rfl rfl rfl (by kernel_rfl) (by simp [Value.oneCell']) (by simp [iv]; omega) (map_set (Value.int .i64) _ (by simp; omega))) ?_
          rintro _ _ w10_7 rfl
          refine wl_end [(0, _), (10, _)] ⟨rfl, rfl, trivial⟩ ?_
          exact ⟨rfl, by rw [setLast_cons (N := (nodes B).reverse) (by rw [List.reverse_reverse]; exact hB), hB2]; rfl⟩
      · rintro _ _ w ⟨rfl, rfl⟩
        refine w_seq ?_
        refine w_reg ?_
        refine wl_f (f_move rfl) ?_
        refine wl_f (f_nilCheck rfl) ?_
        refine wl_f (f_fieldAddr 1 rfl Tryz.underlying131 rfl rfl (by kernel_rfl)) ?_
        (first | refine wl_f (f_loadb 0 rfl Tryz.underlying3 rfl rfl rfl) ?_ | refine wl_f (f_loadb 1 rfl Tryz.underlying3 rfl rfl rfl) ?_ | refine wl_f (f_loadb 2 rfl Tryz.underlying3 rfl rfl rfl) ?_ | refine wl_f (f_loadb 3 rfl Tryz.underlying3 rfl rfl rfl) ?_ | refine wl_f (f_loadb 4 rfl Tryz.underlying3 rfl rfl rfl) ?_ | refine wl_f (f_loadb 5 rfl Tryz.underlying3 rfl rfl rfl) ?_ | refine wl_f (f_loadb 6 rfl Tryz.underlying3 rfl rfl rfl) ?_)
        refine wl_f (f_add rfl rfl (by omega)) ?_
        refine wl_f (f_nilCheck rfl) ?_
        refine wl_f (f_fieldAddr 1 rfl Tryz.underlying131 rfl rfl (by kernel_rfl)) ?_
        (first | refine wl_e0 (e_store0 (us := [_]) rfl rfl rfl (by kernel_rfl) (by simp [Value.oneCell']) rfl rfl) ?_ | refine wl_e0 (e_store1 (us := [_]) rfl rfl rfl (by kernel_rfl) (by simp [Value.oneCell']) rfl rfl) ?_ | refine wl_e0 (e_store2 (us := [_]) rfl rfl rfl (by kernel_rfl) (by simp [Value.oneCell']) rfl rfl) ?_ | refine wl_e0 (e_store3 (us := [_]) rfl rfl rfl (by kernel_rfl) (by simp [Value.oneCell']) rfl rfl) ?_)
        rintro _ _ w11_7 rfl
        refine wl_end [(10, _)] ⟨rfl, trivial⟩ ?_
        refine w_seq ?_
        refine w_reg ?_
        refine wl_f (f_move rfl) ?_
        refine wl_f (f_assign rfl) ?_
        refine wl_f (f_assign rfl) ?_
        refine wl_end [(8, _), (9, _)] ⟨rfl, rfl, trivial⟩ ?_
        refine w_bun (H := []) [_, _, _, _, _] ?_
        refine w_ret ?_
        refine ⟨_, _, fun a ha hh => results_tmps Tryz.results122 rfl a ha _, List.Sublist.refl _, ?_⟩
        refine .inr ⟨by omega, x, _, hfr, rfl, rfl, .slice (some ⟨g1, 0, .none⟩) used'.length c1, .slice (some ⟨g2, 0, .none⟩) used'.length c2, .slice (some ⟨g3, 0, .none⟩) used'.length c3, .slice (some ⟨g4, 0, .none⟩) used'.length c4, _, _, _, _, ?_, hc'.insert hfr.1 hx v⟩
        have e1 : (((A ++ (x, v) :: B).length : Nat) : Int) = ((A ++ B).length : Int) + 1 := by simp; omega
        rw [chs, List.length_set, e1]
        rfl
end Go.Proofs.YtmagdjlcckgkpaaGreat

/- Linked lists: first, last, number, neighbours, values. -/
namespace Go.Proofs.YtmagdjlcckgkpaaGreat
open Go.RowKit

theorem not_isAt {node : Int} {N : List Nat} (h : (!isAt node N) = true) : isAt node N = false := by simpa using h
theorem is_isAt {node : Int} {N : List Nat} (h : ¬ (!isAt node N) = true) : isAt node N = true := by simpa using h
theorem nodes_split {α : Type} (A B : List (Nat × α)) (x : Nat) (v : α) : nodes (A ++ (x, v) :: B) = nodes A ++ x :: nodes B := by simp [nodes]
theorem CInv.next {α : Type} {n : Nat} {A B : List (Nat × α)} {x : Nat} {v : α} {used : List Bool} {nx pv : List Int} {vs : List α} (h : CInv n (A ++ (x, v) :: B) used nx pv vs) : nx[x]? = some (hdE (-1) (nodes B)) := by
  have := h.nxt
  rw [nodes_split] at this
  exact Lk_get this
theorem CInv.prev {α : Type} {n : Nat} {A B : List (Nat × α)} {x : Nat} {v : α} {used : List Bool} {nx pv : List Int} {vs : List α} (h : CInv n (A ++ (x, v) :: B) used nx pv vs) : pv[x]? = some (hdE (-1) (nodes A).reverse) := by
  have := h.prv
  rw [nodes_split, List.reverse_append, List.reverse_cons, List.append_assoc, List.singleton_append] at this
  exact Lk_get this
theorem CInv.at {α : Type} {n : Nat} {A B : List (Nat × α)} {x : Nat} {v : α} {used : List Bool} {nx pv : List Int} {vs : List α} (h : CInv n (A ++ (x, v) :: B) used nx pv vs) : vs[x]? = some v := h.val (x, v) (by simp)
theorem CInv.atlt {α : Type} {n : Nat} {A B : List (Nat × α)} {x : Nat} {v : α} {used : List Bool} {nx pv : List Int} {vs : List α} (h : CInv n (A ++ (x, v) :: B) used nx pv vs) : x < used.length := h.lt x (by simp [nodes])

theorem ifirst_spec (b n : Nat) (l : List (Nat × _)) (r : Res) (w : World) (hr : ChR kInt b n l r) (hs : Holds w r.foot [r] w) :
    Spec Tryz.prog 115 [.pointer (some ⟨b, 0, .none⟩)] w r.foot fun v H => v = .int .i64 (hdE (-1) (nodes l)) ∧ H = [r] := by
  obtain ⟨uV, nV, pV, vV, used, nx, pv, vs, rfl, hc⟩ := hr
  refine enter (n := 9) Tryz.func115 rfl rfl [(0, _)] rfl ⟨rfl, trivial⟩ hs ?_
  refine w_unb (chs kInt b n l uV nV pV vV used nx pv vs) ?_
  refine w_seq ?_
  refine w_reg ?_
  refine wl_f (f_assign rfl) ?_
  refine wl_end [(0, _)] ⟨rfl, trivial⟩ ?_
  refine w_seq ?_
  refine w_seq ?_
  refine w_reg ?_
  refine wl_f (f_move rfl) ?_
  refine wl_f (f_eqlnil rfl rfl Tryz.underlying114) ?_
  refine wl_end [(0, _), (4, _)] ⟨rfl, rfl, trivial⟩ ?_
  refine w_iff rfl ?_
  refine w_skip ?_
  refine w_seq ?_
  refine w_reg ?_
  refine wl_f (f_move rfl) ?_
  refine wl_f (f_nilCheck rfl) ?_
  refine wl_f (f_fieldAddr 2 rfl Tryz.underlying182 rfl rfl (by kernel_rfl)) ?_
  (first | refine wl_f (f_loadb 0 rfl Tryz.underlying3 rfl rfl rfl) ?_ | refine wl_f (f_loadb 1 rfl Tryz.underlying3 rfl rfl rfl) ?_ | refine wl_f (f_loadb 2 rfl Tryz.underlying3 rfl rfl rfl) ?_ | refine wl_f (f_loadb 3 rfl Tryz.underlying3 rfl rfl rfl) ?_ | refine wl_f (f_loadb 4 rfl Tryz.underlying3 rfl rfl rfl) ?_ | refine wl_f (f_loadb 5 rfl Tryz.underlying3 rfl rfl rfl) ?_ | refine wl_f (f_loadb 6 rfl Tryz.underlying3 rfl rfl rfl) ?_)
  refine wl_f (f_assign rfl) ?_
  refine wl_end [(2, _)] ⟨rfl, trivial⟩ ?_
  refine w_bun (H := []) (chs kInt b n l uV nV pV vV used nx pv vs) ?_
  refine w_ret ?_
  refine ⟨_, _, fun a ha hh => results_tmps Tryz.results115 rfl a ha _, List.Sublist.refl _, ?_⟩
  exact ⟨rfl, rfl⟩
theorem bfirst_spec (b n : Nat) (l : List (Nat × _)) (r : Res) (w : World) (hr : ChR kBuc b n l r) (hs : Holds w r.foot [r] w) :
    Spec Tryz.prog 108 [.pointer (some ⟨b, 0, .none⟩)] w r.foot fun v H => v = .int .i64 (hdE (-1) (nodes l)) ∧ H = [r] := by
  obtain ⟨uV, nV, pV, vV, used, nx, pv, vs, rfl, hc⟩ := hr
  refine enter (n := 9) Tryz.func108 rfl rfl [(0, _)] rfl ⟨rfl, trivial⟩ hs ?_
  refine w_unb (chs kBuc b n l uV nV pV vV used nx pv vs) ?_
  refine w_seq ?_
  refine w_reg ?_
  refine wl_f (f_assign rfl) ?_
  refine wl_end [(0, _)] ⟨rfl, trivial⟩ ?_
  refine w_seq ?_
  refine w_seq ?_
  refine w_reg ?_
  refine wl_f (f_move rfl) ?_
  refine wl_f (f_eqlnil rfl rfl Tryz.underlying111) ?_
  refine wl_end [(0, _), (4, _)] ⟨rfl, rfl, trivial⟩ ?_
  refine w_iff rfl ?_
  refine w_skip ?_
  refine w_seq ?_
  refine w_reg ?_
  refine wl_f (f_move rfl) ?_
  refine wl_f (f_nilCheck rfl) ?_
  refine wl_f (f_fieldAddr 2 rfl Tryz.underlying131 rfl rfl (by kernel_rfl)) ?_
  (first | refine wl_f (f_loadb 0 rfl Tryz.underlying3 rfl rfl rfl) ?_ | refine wl_f (f_loadb 1 rfl Tryz.underlying3 rfl rfl rfl) ?_ | refine wl_f (f_loadb 2 rfl Tryz.underlying3 rfl rfl rfl) ?_ | refine wl_f (f_loadb 3 rfl Tryz.underlying3 rfl rfl rfl) ?_ | refine wl_f (f_loadb 4 rfl Tryz.underlying3 rfl rfl rfl) ?_ | refine wl_f (f_loadb 5 rfl Tryz.underlying3 rfl rfl rfl) ?_ | refine wl_f (f_loadb 6 rfl Tryz.underlying3 rfl rfl rfl) ?_)
  refine wl_f (f_assign rfl) ?_
  refine wl_end [(2, _)] ⟨rfl, trivial⟩ ?_
  refine w_bun (H := []) (chs kBuc b n l uV nV pV vV used nx pv vs) ?_
  refine w_ret ?_
  refine ⟨_, _, fun a ha hh => results_tmps Tryz.results108 rfl a ha _, List.Sublist.refl _, ?_⟩
  exact ⟨rfl, rfl⟩
theorem ilen_spec (b n : Nat) (l : List (Nat × _)) (r : Res) (w : World) (hr : ChR kInt b n l r) (hs : Holds w r.foot [r] w) :
    Spec Tryz.prog 106 [.pointer (some ⟨b, 0, .none⟩)] w r.foot fun v H => v = .int .i64 ((l.length : Int)) ∧ H = [r] := by
  obtain ⟨uV, nV, pV, vV, used, nx, pv, vs, rfl, hc⟩ := hr
  refine enter (n := 9) Tryz.func106 rfl rfl [(0, _)] rfl ⟨rfl, trivial⟩ hs ?_
  refine w_unb (chs kInt b n l uV nV pV vV used nx pv vs) ?_
  refine w_seq ?_
  refine w_reg ?_
  refine wl_f (f_assign rfl) ?_
  refine wl_end [(0, _)] ⟨rfl, trivial⟩ ?_
  refine w_seq ?_
  refine w_seq ?_
  refine w_reg ?_
  refine wl_f (f_move rfl) ?_
  refine wl_f (f_eqlnil rfl rfl Tryz.underlying114) ?_
  refine wl_end [(0, _), (4, _)] ⟨rfl, rfl, trivial⟩ ?_
  refine w_iff rfl ?_
  refine w_skip ?_
  refine w_seq ?_
  refine w_reg ?_
  refine wl_f (f_move rfl) ?_
  refine wl_f (f_nilCheck rfl) ?_
  refine wl_f (f_fieldAddr 1 rfl Tryz.underlying182 rfl rfl (by kernel_rfl)) ?_
  (first | refine wl_f (f_loadb 0 rfl Tryz.underlying3 rfl rfl rfl) ?_ | refine wl_f (f_loadb 1 rfl Tryz.underlying3 rfl rfl rfl) ?_ | refine wl_f (f_loadb 2 rfl Tryz.underlying3 rfl rfl rfl) ?_ | refine wl_f (f_loadb 3 rfl Tryz.underlying3 rfl rfl rfl) ?_ | refine wl_f (f_loadb 4 rfl Tryz.underlying3 rfl rfl rfl) ?_ | refine wl_f (f_loadb 5 rfl Tryz.underlying3 rfl rfl rfl) ?_ | refine wl_f (f_loadb 6 rfl Tryz.underlying3 rfl rfl rfl) ?_)
  refine wl_f (f_assign rfl) ?_
  refine wl_end [(2, _)] ⟨rfl, trivial⟩ ?_
  refine w_bun (H := []) (chs kInt b n l uV nV pV vV used nx pv vs) ?_
  refine w_ret ?_
  refine ⟨_, _, fun a ha hh => results_tmps Tryz.results106 rfl a ha _, List.Sublist.refl _, ?_⟩
  exact ⟨rfl, rfl⟩
theorem bnext_spec (b n : Nat) (l : List (Nat × _)) (r : Res) (node : Int) (w : World) (hr : ChR kBuc b n l r) (hs : Holds w r.foot [r] w) :
    Spec Tryz.prog 109 [.pointer (some ⟨b, 0, .none⟩), .int .i64 node] w r.foot fun v H => H = [r] ∧ ∃ y : Int, v = .int .i64 y ∧ (isAt node (nodes l) = false → y = -1) ∧ ∀ A x v B, l = A ++ (x, v) :: B → node = (x : Nat) → y = hdE (-1) (nodes B) := by
  refine enter (n := 16) Tryz.func109 rfl rfl [(0, _), (1, _)] rfl ⟨rfl, rfl, trivial⟩ hs ?_
  refine w_seq ?_
  refine w_reg ?_
  refine wl_f (f_assign rfl) ?_
  refine wl_end [(0, _), (1, _)] ⟨rfl, rfl, trivial⟩ ?_
  refine w_seq ?_
  refine w_seq ?_
  refine w_reg ?_
  refine wl_f (f_move rfl) ?_
  refine wl_f (f_move rfl) ?_
  refine wl_e (e_call1 r [] rfl Tryz.func120 (by kernel_rfl) (List.Perm.refl _) (fun w hh hs => bhas_spec b n l r node w hr hs)) ?_
  rintro _ _ w1 ⟨_, rfl, rfl, rfl⟩
  refine wl_f (f_not rfl rfl) ?_
  refine wl_end [(0, _), (1, _), (8, _)] ⟨rfl, rfl, rfl, trivial⟩ ?_
  refine w_ifb rfl (fun hc1 => ?_) (fun hc1 => ?_)
  · skip
    refine w_seq ?_
    refine w_reg ?_
    refine wl_f (f_assign rfl) ?_
    refine wl_end [(4, _)] ⟨rfl, trivial⟩ ?_
    refine w_ret ?_
    refine ⟨_, _, fun a ha hh => results_tmps Tryz.results109 rfl a ha _, List.Sublist.refl _, ?_⟩
    refine ⟨rfl, -1, rfl, fun _ => rfl, fun A x v B e e2 => ?_⟩
    have := not_isAt hc1
    rw [e2, e, isAt_nat, nodes_split] at this
    simp at this
  · skip
    obtain ⟨x, rfl, hx⟩ := isAt_some (is_isAt hc1)
    obtain ⟨A, v, B, rfl⟩ := split_node hx
    obtain ⟨uV, nV, pV, vV, used, nx, pv, vs, rfl, hc⟩ := hr
    have hlt := hc.atlt
    have hnd := hc.nd
    refine w_unb (chs kBuc b n _ uV nV pV vV used nx pv vs) ?_
    refine w_with fun hh => ?_
    obtain ⟨g, cap, e⟩ := row_form hh (i := 2) rfl (by omega)
    subst e
    clear hh
    refine w_skip ?_
    refine w_seq ?_
    refine w_reg ?_
    refine wl_f (f_move rfl) ?_
    refine wl_f (f_nilCheck rfl) ?_
    refine wl_f (f_fieldAddr 5 rfl Tryz.underlying131 rfl rfl (by kernel_rfl)) ?_
    (first | refine wl_f (f_loadb 0 rfl Tryz.underlying22 rfl rfl rfl) ?_ | refine wl_f (f_loadb 1 rfl Tryz.underlying22 rfl rfl rfl) ?_ | refine wl_f (f_loadb 2 rfl Tryz.underlying22 rfl rfl rfl) ?_ | refine wl_f (f_loadb 3 rfl Tryz.underlying22 rfl rfl rfl) ?_ | refine wl_f (f_loadb 4 rfl Tryz.underlying22 rfl rfl rfl) ?_ | refine wl_f (f_loadb 5 rfl Tryz.underlying22 rfl rfl rfl) ?_ | refine wl_f (f_loadb 6 rfl Tryz.underlying22 rfl rfl rfl) ?_)
    refine wl_f (f_move rfl) ?_
    refine wl_f (f_indexAddr 1 (i := x) rfl rfl Tryz.underlying22 (by kernel_rfl) rfl hlt) ?_
    refine wl_f (f_loadr (v := .int .i64 (hdE (-1) (nodes B))) 2 rfl Tryz.underlying3 rfl rfl (map_get (Value.int .i64) hc.next)) ?_
    refine wl_f (f_assign rfl) ?_
    refine wl_end [(4, _)] ⟨rfl, trivial⟩ ?_
    refine w_bun (H := []) [_, _, _, _, _] ?_
    refine w_ret ?_
    refine ⟨_, _, fun a ha hh => results_tmps Tryz.results109 rfl a ha _, List.Sublist.refl _, ?_⟩
    refine ⟨rfl, _, rfl, fun h => ?_, fun A' x' v' B' e e2 => ?_⟩
    · rw [isAt_nat, nodes_split] at h
      simp at h
    · obtain rfl : x' = x := by omega
      obtain ⟨rfl, _, rfl⟩ := node_uniq hnd e
      rfl
theorem bprev_spec (b n : Nat) (l : List (Nat × _)) (r : Res) (node : Int) (w : World) (hr : ChR kBuc b n l r) (hs : Holds w r.foot [r] w) :
    Spec Tryz.prog 104 [.pointer (some ⟨b, 0, .none⟩), .int .i64 node] w r.foot fun v H => H = [r] ∧ ∃ y : Int, v = .int .i64 y ∧ (isAt node (nodes l) = false → y = -1) ∧ ∀ A x v B, l = A ++ (x, v) :: B → node = (x : Nat) → y = hdE (-1) (nodes A).reverse := by
  refine enter (n := 16) Tryz.func104 rfl rfl [(0, _), (1, _)] rfl ⟨rfl, rfl, trivial⟩ hs ?_
  refine w_seq ?_
  refine w_reg ?_
  refine wl_f (f_assign rfl) ?_
  refine wl_end [(0, _), (1, _)] ⟨rfl, rfl, trivial⟩ ?_
  refine w_seq ?_
  refine w_seq ?_
  refine w_reg ?_
  refine wl_f (f_move rfl) ?_
  refine wl_f (f_move rfl) ?_
  refine wl_e (e_call1 r [] rfl Tryz.func120 (by kernel_rfl) (List.Perm.refl _) (fun w hh hs => bhas_spec b n l r node w hr hs)) ?_
  rintro _ _ w1 ⟨_, rfl, rfl, rfl⟩
  refine wl_f (f_not rfl rfl) ?_
  refine wl_end [(0, _), (1, _), (8, _)] ⟨rfl, rfl, rfl, trivial⟩ ?_
  refine w_ifb rfl (fun hc1 => ?_) (fun hc1 => ?_)
  · skip
    refine w_seq ?_
    refine w_reg ?_
    refine wl_f (f_assign rfl) ?_
    refine wl_end [(4, _)] ⟨rfl, trivial⟩ ?_
    refine w_ret ?_
    refine ⟨_, _, fun a ha hh => results_tmps Tryz.results104 rfl a ha _, List.Sublist.refl _, ?_⟩
    refine ⟨rfl, -1, rfl, fun _ => rfl, fun A x v B e e2 => ?_⟩
    have := not_isAt hc1
    rw [e2, e, isAt_nat, nodes_split] at this
    simp at this
  · skip
    obtain ⟨x, rfl, hx⟩ := isAt_some (is_isAt hc1)
    obtain ⟨A, v, B, rfl⟩ := split_node hx
    obtain ⟨uV, nV, pV, vV, used, nx, pv, vs, rfl, hc⟩ := hr
    have hlt := hc.atlt
    have hnd := hc.nd
    refine w_unb (chs kBuc b n _ uV nV pV vV used nx pv vs) ?_
    refine w_with fun hh => ?_
    obtain ⟨g, cap, e⟩ := row_form hh (i := 3) rfl (by omega)
    subst e
    clear hh
    refine w_skip ?_
    refine w_seq ?_
    refine w_reg ?_
    refine wl_f (f_move rfl) ?_
    refine wl_f (f_nilCheck rfl) ?_
    refine wl_f (f_fieldAddr 6 rfl Tryz.underlying131 rfl rfl (by kernel_rfl)) ?_
    (first | refine wl_f (f_loadb 0 rfl Tryz.underlying22 rfl rfl rfl) ?_ | refine wl_f (f_loadb 1 rfl Tryz.underlying22 rfl rfl rfl) ?_ | refine wl_f (f_loadb 2 rfl Tryz.underlying22 rfl rfl rfl) ?_ | refine wl_f (f_loadb 3 rfl Tryz.underlying22 rfl rfl rfl) ?_ | refine wl_f (f_loadb 4 rfl Tryz.underlying22 rfl rfl rfl) ?_ | refine wl_f (f_loadb 5 rfl Tryz.underlying22 rfl rfl rfl) ?_ | refine wl_f (f_loadb 6 rfl Tryz.underlying22 rfl rfl rfl) ?_)
    refine wl_f (f_move rfl) ?_
    refine wl_f (f_indexAddr 1 (i := x) rfl rfl Tryz.underlying22 (by kernel_rfl) rfl hlt) ?_
    refine wl_f (f_loadr (v := .int .i64 (hdE (-1) (nodes A).reverse)) 3 rfl Tryz.underlying3 rfl rfl (map_get (Value.int .i64) hc.prev)) ?_
    refine wl_f (f_assign rfl) ?_
    refine wl_end [(4, _)] ⟨rfl, trivial⟩ ?_
    refine w_bun (H := []) [_, _, _, _, _] ?_
    refine w_ret ?_
    refine ⟨_, _, fun a ha hh => results_tmps Tryz.results104 rfl a ha _, List.Sublist.refl _, ?_⟩
    refine ⟨rfl, _, rfl, fun h => ?_, fun A' x' v' B' e e2 => ?_⟩
    · rw [isAt_nat, nodes_split] at h
      simp at h
    · obtain rfl : x' = x := by omega
      obtain ⟨rfl, _, rfl⟩ := node_uniq hnd e
      rfl
end Go.Proofs.YtmagdjlcckgkpaaGreat

/- Linked lists: new nodes at the ends and behind a node. -/
namespace Go.Proofs.YtmagdjlcckgkpaaGreat
open Go.RowKit

/-- What a new node leaves. -/
def NewG {α : Type} (R : List (Nat × α) → Res → Prop) (n : Nat) (A B : List (Nat × α)) (v : α) (r : Res) (u : Value) (H : List Res) : Prop :=
  ((A ++ B).length = n ∧ u = .tuple #[.int .i64 0, .int .i64 7] ∧ H = [r]) ∨ ((A ++ B).length ≠ n ∧ ∃ (x : Nat) (r' : Res), Fresh (nodes (A ++ B)) x ∧ u = .tuple #[.int .i64 x, .int .i64 0] ∧ H = [r'] ∧ R (A ++ (x, v) :: B) r')
abbrev NewAt {α : Type} (K : VK α) (b n : Nat) (A B : List (Nat × α)) (v : α) (r : Res) (u : Value) (H : List Res) : Prop := NewG (ChR K b n) n A B v r u H

set_option maxHeartbeats 1000000 in
theorem ipushBack_spec (b n : Nat) (l : List (Nat × (Int))) (v : Int) (r : Res) (w : World) (hn : n ≤ 8192) (hr : ChR kInt b n l r) (hs : Holds w r.foot [r] w) :
    Spec Tryz.prog 113 [.pointer (some ⟨b, 0, .none⟩), (kInt).val v] w r.foot fun u H => NewAt kInt b n l [] v r u H := by
  obtain ⟨uV, nV, pV, vV, used, nx, pv, vs, rfl, hc⟩ := id hr
  have hr' : ChR kInt b n (l ++ []) (bun (chs kInt b n l uV nV pV vV used nx pv vs)) := by simpa using hr
  refine enter (n := 17) Tryz.func113 rfl rfl [(0, _), (1, _)] rfl ⟨rfl, rfl, trivial⟩ hs ?_
  refine w_seq ?_
  refine w_reg ?_
  refine wl_f (f_assign rfl) ?_
  refine wl_f (f_assign rfl) ?_
  refine wl_end [(0, _), (1, _)] ⟨rfl, rfl, trivial⟩ ?_
  refine w_seq ?_
  refine w_seq ?_
  refine w_reg ?_
  refine wl_f (f_move rfl) ?_
  refine wl_f (f_eqlnil rfl rfl Tryz.underlying114) ?_
  refine wl_end [(0, _), (1, _), (7, _)] ⟨rfl, rfl, rfl, trivial⟩ ?_
  refine w_iff rfl ?_
  refine w_skip ?_
  refine w_seq ?_
  refine w_reg ?_
  refine wl_f (f_move rfl) ?_
  refine wl_f (f_move rfl) ?_
  refine wl_f (f_nilCheck rfl) ?_
  refine wl_f (f_fieldAddr 3 rfl Tryz.underlying182 rfl rfl (by kernel_rfl)) ?_
  refine wl_f (f_loadB 0 0 rfl rfl rfl Tryz.underlying3 rfl rfl) ?_
  refine wl_f (f_move rfl) ?_
  refine wl_e (e_call1 _ [] rfl Tryz.func123 (by kernel_rfl) (List.Perm.refl _) (fun w hh hs => iinsert_spec b n l [] v _ w hn hr' hs)) ?_
  rintro u _ w1 ⟨H1, rfl, hH⟩
  rw [List.append_nil]
  obtain ⟨u1, u2, rfl, H2, rfl⟩ : ∃ u1 u2, u = .tuple [u1, u2].toArray ∧ ∃ H2, H1 = H2 := by
    rcases hH with ⟨_, rfl, _⟩ | ⟨_, x, r', _, rfl, _⟩
    · exact ⟨_, _, rfl, _, rfl⟩
    · exact ⟨_, _, rfl, _, rfl⟩
  refine wl_f (f_extract rfl rfl) ?_
  refine wl_f (f_extract rfl rfl) ?_
  refine wl_f (f_assign rfl) ?_
  refine wl_f (f_assign rfl) ?_
  refine wl_end [(4, _), (5, _)] ⟨rfl, rfl, trivial⟩ ?_
  refine w_ret ?_
  refine ⟨_, _, fun a ha hh => results_tmps Tryz.results113 rfl a ha _, List.Sublist.refl _, ?_⟩
  exact hH
end Go.Proofs.YtmagdjlcckgkpaaGreat

/- Linked lists: nodes behind a node, buckets at the front, the value of a node. -/
namespace Go.Proofs.YtmagdjlcckgkpaaGreat
open Go.RowKit

theorem bPushFront_spec (b n : Nat) (l : List (Nat × (Nat × Option Nat))) (v : Nat × Option Nat) (r : Res) (w : World) (hn : n ≤ 8192) (hr : ChR kBuc b n l r) (hs : Holds w r.foot [r] w) :
    Spec Tryz.prog 111 [.pointer (some ⟨b, 0, .none⟩), kBuc.val v] w r.foot fun u H => NewAt kBuc b n [] l v r u H := by
  obtain ⟨uV, nV, pV, vV, used, nx, pv, vs, rfl, hc⟩ := id hr
  refine enter (n := 17) Tryz.func111 rfl rfl [(0, _), (1, _)] rfl ⟨rfl, rfl, trivial⟩ hs ?_
  refine w_seq ?_
  refine w_reg ?_
  refine wl_e (e_box (cs := [_, _]) rfl rfl) ?_
  rintro _ _ w0_0 ⟨b0_0, rfl, rfl⟩
  refine wl_f (f_assign rfl) ?_
  refine wl_f (f_assign rfl) ?_
  refine wl_end [(0, _), (3, _)] ⟨rfl, rfl, trivial⟩ ?_
  refine w_seq ?_
  refine w_seq ?_
  refine w_reg ?_
  refine wl_f (f_move rfl) ?_
  refine wl_f (f_eqlnil rfl rfl Tryz.underlying111) ?_
  refine wl_end [(0, _), (3, _), (7, _)] ⟨rfl, rfl, rfl, trivial⟩ ?_
  refine w_iff rfl ?_
  refine w_skip ?_
  refine w_seq ?_
  refine w_drawk [(0, true), (1, true), (2, true), (3, true), (4, true), (5, true), (6, false), (7, true), (8, true), (9, true), (10, true)] ([(_, some 6), (_, none)]) ([]) mixed (by kernel_rfl) (by kernel_rfl) rfl rfl ((List.Perm.swap ..).trans (perm_all _)) (fun w3_ => ?_)
  refine wk_f rfl (f_move rfl) ?_
  refine wk_f rfl (f_move rfl) ?_
  refine wk_f rfl (f_nilCheck rfl) ?_
  refine wk_f rfl (f_fieldAddr 2 rfl Tryz.underlying131 rfl rfl (by kernel_rfl)) ?_
  refine wk_f rfl (f_loadB 0 0 rfl rfl rfl Tryz.underlying3 rfl rfl) ?_
  (first | refine wk_f rfl (f_loadsb (cs := [_, _]) 0 rfl Tryz.underlying116 rfl (by kernel_rfl) rfl rfl) ?_ | refine wk_f rfl (f_loadsb (cs := [_, _]) 1 rfl Tryz.underlying116 rfl (by kernel_rfl) rfl rfl) ?_ | refine wk_f rfl (f_loadsb (cs := [_, _]) 2 rfl Tryz.underlying116 rfl (by kernel_rfl) rfl rfl) ?_ | refine wk_f rfl (f_loadsb (cs := [_, _]) 3 rfl Tryz.underlying116 rfl (by kernel_rfl) rfl rfl) ?_ | refine wk_f rfl (f_loadsb (cs := [_, _]) 4 rfl Tryz.underlying116 rfl (by kernel_rfl) rfl rfl) ?_ | refine wk_f rfl (f_loadsb (cs := [_, _]) 5 rfl Tryz.underlying116 rfl (by kernel_rfl) rfl rfl) ?_ | refine wk_f rfl (f_loadsb (cs := [_, _]) 6 rfl Tryz.underlying116 rfl (by kernel_rfl) rfl rfl) ?_)
  refine wk_e rfl (e_call1 (bun (chs kBuc b n l uV nV pV vV used nx pv vs)) [_] rfl Tryz.func122 (by kernel_rfl) (List.Perm.refl _) (fun w hh hs => binsert_spec b n [] l v _ w hn hr hs)) ?_
  rintro u _ w1 ⟨H1, rfl, hH⟩
  obtain ⟨u1, u2, r2, rfl, rfl⟩ : ∃ u1 u2 r2, u = .tuple [u1, u2].toArray ∧ H1 = [r2] := by
    rcases hH with ⟨_, rfl, rfl⟩ | ⟨_, x, r', _, rfl, rfl, _⟩
    · exact ⟨_, _, _, rfl, rfl⟩
    · exact ⟨_, _, _, rfl, rfl⟩
  refine ⟨_, List.Perm.swap .., ?_⟩
  refine wk_f rfl (f_extract rfl rfl) ?_
  refine wk_f rfl (f_extract rfl rfl) ?_
  refine wk_f rfl (f_assign rfl) ?_
  refine wk_f rfl (f_assign rfl) ?_
  refine wk_endp [(4, _), (5, _)] [1] ⟨rfl, rfl, trivial⟩ rfl ?_
  refine w_ret ?_
  refine ⟨_, _, fun a ha hh => results_tmps Tryz.results111 rfl a ha _, List.Sublist.refl _, ?_⟩
  exact hH

/-- What a node behind another one leaves. -/
def BehindG {α : Type} (R : List (Nat × α) → Res → Prop) (n : Nat) (l : List (Nat × α)) (node : Int) (v : α) (r : Res) (u : Value) (H : List Res) : Prop :=
  (isAt node (nodes l) = false ∧ u = .tuple #[.int .i64 0, .int .i64 8] ∧ H = [r]) ∨ ∃ A y a B, l = A ++ (y, a) :: B ∧ node = (y : Nat) ∧ NewG R n (A ++ [(y, a)]) B v r u H
abbrev NewBehind {α : Type} (K : VK α) (b n : Nat) (l : List (Nat × α)) (node : Int) (v : α) (r : Res) (u : Value) (H : List Res) : Prop := BehindG (ChR K b n) n l node v r u H
theorem nodes_snoc_rev {α : Type} (A : List (Nat × α)) (y : Nat) (a : α) : hdE (-1) (nodes (A ++ [(y, a)])).reverse = y := by simp [nodes, hdE]


set_option maxHeartbeats 1000000 in
theorem bInsertAfter_spec (b n : Nat) (l : List (Nat × (Nat × Option Nat))) (node : Int) (v : Nat × Option Nat) (r : Res) (w : World) (hn : n ≤ 8192) (hr : ChR kBuc b n l r) (hs : Holds w r.foot [r] w) :
    Spec Tryz.prog 112 [.pointer (some ⟨b, 0, .none⟩), .int .i64 node, kBuc.val v] w r.foot fun u H => NewBehind kBuc b n l node v r u H := by
  refine enter (n := 25) Tryz.func112 rfl rfl [(0, _), (1, _), (2, _)] rfl ⟨rfl, rfl, rfl, trivial⟩ hs ?_
  refine w_seq ?_
  refine w_reg ?_
  refine wl_e (e_box (cs := [_, _]) rfl rfl) ?_
  rintro _ _ w0_0 ⟨b0_0, rfl, rfl⟩
  refine wl_f (f_assign rfl) ?_
  refine wl_f (f_assign rfl) ?_
  refine wl_end [(0, _), (1, _), (5, _)] ⟨rfl, rfl, rfl, trivial⟩ ?_
  refine w_seq ?_
  refine w_seq ?_
  refine w_reg ?_
  refine wl_f (f_move rfl) ?_
  refine wl_f (f_move rfl) ?_
  refine wl_e (e_call1 r [_] rfl Tryz.func120 (by kernel_rfl) (List.Perm.swap ..) (fun w hh hs => bhas_spec b n l r node w hr hs)) ?_
  rintro _ _ w1 ⟨_, rfl, rfl, rfl⟩
  refine wl_f (f_not rfl rfl) ?_
  refine wl_end [(0, _), (1, _), (5, _), (11, _)] ⟨rfl, rfl, rfl, rfl, trivial⟩ ?_
  refine w_ifb rfl (fun hc1 => ?_) (fun hc1 => ?_)
  · skip
    refine w_seq ?_
    refine w_reg ?_
    refine wl_f (f_assign rfl) ?_
    refine wl_f (f_assign rfl) ?_
    refine wl_end [(6, _), (7, _)] ⟨rfl, rfl, trivial⟩ ?_
    refine w_pick [0] rfl ?_
    refine w_ret ?_
    refine ⟨_, _, fun a ha hh => results_tmps Tryz.results112 rfl a ha _, List.Sublist.refl _, ?_⟩
    exact .inl ⟨not_isAt hc1, rfl, rfl⟩
  · skip
    obtain ⟨x, rfl, hx⟩ := isAt_some (is_isAt hc1)
    obtain ⟨A, a, B, rfl⟩ := split_node hx
    have hr' : ChR kBuc b n ((A ++ [(x, a)]) ++ B) r := by simpa using hr
    obtain ⟨uV, nV, pV, vV, used, nx, pv, vs, rfl, hc⟩ := id hr
    have hlt := hc.atlt
    refine w_with fun hh => ?_
    obtain ⟨g, cap, e⟩ := rowB_form hh (i := 0) (j := 2) rfl rfl (by omega)
    subst e
    clear hh
    refine w_skip ?_
    refine w_seq ?_
    refine w_drawk [(0, true), (1, true), (2, true), (3, true), (4, true), (5, true), (6, true), (7, true), (8, true), (9, true), (10, false), (11, true), (12, true), (13, true), (14, true)] ([(_, some 10), (_, none)]) ([]) mixed (by kernel_rfl) (by kernel_rfl) rfl rfl (perm_all _) (fun w3_ => ?_)
    refine wk_f rfl (f_move rfl) ?_
    refine wk_f rfl (f_move rfl) ?_
    refine wk_f rfl (f_move rfl) ?_
    refine wk_f rfl (f_nilCheck rfl) ?_
    refine wk_f rfl (f_fieldAddr 5 rfl Tryz.underlying131 rfl rfl (by kernel_rfl)) ?_
    refine wk_f rfl (f_loadB 0 0 rfl rfl rfl Tryz.underlying22 rfl rfl) ?_
    refine wk_f rfl (f_move rfl) ?_
    refine wk_f rfl (f_indexAddr 1 (i := x) rfl rfl Tryz.underlying22 (by kernel_rfl) rfl hlt) ?_
    refine wk_f rfl (f_loadBr (v := .int .i64 (hdE (-1) (nodes B))) 0 2 rfl rfl rfl Tryz.underlying3 rfl (map_get (Value.int .i64) hc.next)) ?_
    (first | refine wk_f rfl (f_loadsb (cs := [_, _]) 0 rfl Tryz.underlying116 rfl (by kernel_rfl) rfl rfl) ?_ | refine wk_f rfl (f_loadsb (cs := [_, _]) 1 rfl Tryz.underlying116 rfl (by kernel_rfl) rfl rfl) ?_ | refine wk_f rfl (f_loadsb (cs := [_, _]) 2 rfl Tryz.underlying116 rfl (by kernel_rfl) rfl rfl) ?_ | refine wk_f rfl (f_loadsb (cs := [_, _]) 3 rfl Tryz.underlying116 rfl (by kernel_rfl) rfl rfl) ?_ | refine wk_f rfl (f_loadsb (cs := [_, _]) 4 rfl Tryz.underlying116 rfl (by kernel_rfl) rfl rfl) ?_ | refine wk_f rfl (f_loadsb (cs := [_, _]) 5 rfl Tryz.underlying116 rfl (by kernel_rfl) rfl rfl) ?_ | refine wk_f rfl (f_loadsb (cs := [_, _]) 6 rfl Tryz.underlying116 rfl (by kernel_rfl) rfl rfl) ?_)
    refine wk_e rfl (e_call1 _ [_] rfl Tryz.func122 (by kernel_rfl) (List.Perm.refl _) (fun w hh hs => by have h := binsert_spec b n (A ++ [(x, a)]) B v _ w hn hr' hs; rw [nodes_snoc_rev] at h; exact h)) ?_
    rintro u _ w1 ⟨H1, rfl, hH⟩
    obtain ⟨u1, u2, r2, rfl, rfl⟩ : ∃ u1 u2 r2, u = .tuple [u1, u2].toArray ∧ H1 = [r2] := by
      rcases hH with ⟨_, rfl, rfl⟩ | ⟨_, x, r', _, rfl, rfl, _⟩
      · exact ⟨_, _, _, rfl, rfl⟩
      · exact ⟨_, _, _, rfl, rfl⟩
    refine ⟨_, List.Perm.swap .., ?_⟩
    refine wk_f rfl (f_extract rfl rfl) ?_
    refine wk_f rfl (f_extract rfl rfl) ?_
    refine wk_f rfl (f_assign rfl) ?_
    refine wk_f rfl (f_assign rfl) ?_
    refine wk_endp [(6, _), (7, _)] [1] ⟨rfl, rfl, trivial⟩ rfl ?_
    refine w_ret ?_
    refine ⟨_, _, fun a ha hh => results_tmps Tryz.results112 rfl a ha _, List.Sublist.refl _, ?_⟩
    exact .inr ⟨A, x, a, B, rfl, rfl, hH⟩

/-- The value of a node. -/
def ValAt {α : Type} (K : VK α) (l : List (Nat × α)) (node : Int) (u : Value) : Prop :=
  (isAt node (nodes l) = false ∧ u = .tuple #[K.val K.zero, .int .i64 8]) ∨ ∃ A y a B, l = A ++ (y, a) :: B ∧ node = (y : Nat) ∧ u = .tuple #[K.val a, .int .i64 0]

set_option maxHeartbeats 1000000 in
theorem iValue_spec (b n : Nat) (l : List (Nat × Int)) (node : Int) (r : Res) (w : World) (hr : ChR kInt b n l r) (hs : Holds w r.foot [r] w) :
    Spec Tryz.prog 114 [.pointer (some ⟨b, 0, .none⟩), .int .i64 node] w r.foot fun u H => H = [r] ∧ ValAt kInt l node u := by
  refine enter (n := 19) Tryz.func114 rfl rfl [(0, _), (1, _)] rfl ⟨rfl, rfl, trivial⟩ hs ?_
  refine w_seq ?_
  refine w_reg ?_
  refine wl_f (f_assign rfl) ?_
  refine wl_f (f_assign rfl) ?_
  refine wl_end [(0, _), (1, _)] ⟨rfl, rfl, trivial⟩ ?_
  refine w_seq ?_
  refine w_seq ?_
  refine w_reg ?_
  refine wl_f (f_move rfl) ?_
  refine wl_f (f_move rfl) ?_
  refine wl_e (e_call1 r [] rfl Tryz.func121 (by kernel_rfl) (List.Perm.refl _) (fun w hh hs => ihas_spec b n l r node w hr hs)) ?_
  rintro _ _ w1 ⟨_, rfl, rfl, rfl⟩
  refine wl_f (f_not rfl rfl) ?_
  refine wl_end [(0, _), (1, _), (10, _)] ⟨rfl, rfl, rfl, trivial⟩ ?_
  refine w_ifb rfl (fun hc1 => ?_) (fun hc1 => ?_)
  · skip
    refine w_seq ?_
    refine w_reg ?_
    refine wl_f (f_assign rfl) ?_
    refine wl_end [(6, _)] ⟨rfl, trivial⟩ ?_
    refine w_seq ?_
    refine w_reg ?_
    refine wl_f (f_move rfl) ?_
    refine wl_f (f_assign rfl) ?_
    refine wl_f (f_assign rfl) ?_
    refine wl_end [(4, _), (5, _)] ⟨rfl, rfl, trivial⟩ ?_
    refine w_ret ?_
    refine ⟨_, _, fun a ha hh => results_tmps Tryz.results114 rfl a ha _, List.Sublist.refl _, ?_⟩
    exact ⟨rfl, .inl ⟨not_isAt hc1, rfl⟩⟩
  · skip
    obtain ⟨x, rfl, hx⟩ := isAt_some (is_isAt hc1)
    obtain ⟨A, a, B, rfl⟩ := split_node hx
    obtain ⟨uV, nV, pV, vV, used, nx, pv, vs, rfl, hc⟩ := id hr
    have hlt := hc.atlt
    refine w_with fun hh => ?_
    obtain ⟨g, cap, e⟩ := rowB_form hh (i := 0) (j := 4) rfl rfl (by omega)
    subst e
    clear hh
    refine w_skip ?_
    refine w_seq ?_
    refine w_reg ?_
    refine wl_f (f_move rfl) ?_
    refine wl_f (f_nilCheck rfl) ?_
    refine wl_f (f_fieldAddr 7 rfl Tryz.underlying182 rfl rfl (by kernel_rfl)) ?_
    refine wl_f (f_loadB 0 0 rfl rfl rfl Tryz.underlying22 rfl rfl) ?_
    refine wl_f (f_move rfl) ?_
    refine wl_f (f_indexAddr 1 (i := x) rfl rfl Tryz.underlying22 (by kernel_rfl) rfl hlt) ?_
    refine wl_f (f_loadBr1 (v := .int .i64 a) 0 4 rfl rfl rfl Tryz.underlying3 rfl (vcells_get kInt kInt_len hc.at)) ?_
    refine wl_f (f_assign rfl) ?_
    refine wl_f (f_assign rfl) ?_
    refine wl_end [(4, _), (5, _)] ⟨rfl, rfl, trivial⟩ ?_
    refine w_ret ?_
    refine ⟨_, _, fun a ha hh => results_tmps Tryz.results114 rfl a ha _, List.Sublist.refl _, ?_⟩
    exact ⟨rfl, .inr ⟨A, x, a, B, rfl, rfl, rfl⟩⟩

set_option maxHeartbeats 1000000 in
theorem bValue_spec (b n : Nat) (l : List (Nat × (Nat × Option Nat))) (node : Int) (r : Res) (w : World) (hr : ChR kBuc b n l r) (hs : Holds w r.foot [r] w) :
    Spec Tryz.prog 103 [.pointer (some ⟨b, 0, .none⟩), .int .i64 node] w r.foot fun u H => H = [r] ∧ ValAt kBuc l node u := by
  refine enter (n := 19) Tryz.func103 rfl rfl [(0, _), (1, _)] rfl ⟨rfl, rfl, trivial⟩ hs ?_
  refine w_seq ?_
  refine w_reg ?_
  refine wl_e (e_allocs [.int .u64 0, .pointer .none] (by kernel_rfl)) ?_
  rintro _ _ w0_0 ⟨b0_0, rfl, rfl⟩
  refine wl_f (f_assign rfl) ?_
  refine wl_end [(0, _), (1, _), (4, _)] ⟨rfl, rfl, rfl, trivial⟩ ?_
  refine w_seq ?_
  refine w_seq ?_
  refine w_reg ?_
  refine wl_f (f_move rfl) ?_
  refine wl_f (f_move rfl) ?_
  refine wl_e (e_call1 r [_] rfl Tryz.func120 (by kernel_rfl) (List.Perm.swap ..) (fun w hh hs => bhas_spec b n l r node w hr hs)) ?_
  rintro _ _ w1 ⟨_, rfl, rfl, rfl⟩
  refine wl_f (f_not rfl rfl) ?_
  refine wl_end [(0, _), (1, _), (4, _), (10, _)] ⟨rfl, rfl, rfl, rfl, trivial⟩ ?_
  refine w_ifb rfl (fun hc1 => ?_) (fun hc1 => ?_)
  · skip
    refine w_seq ?_
    refine w_reg ?_
    refine wl_e (e_allocs [.int .u64 0, .pointer .none] (by kernel_rfl)) ?_
    rintro _ _ w2_0 ⟨b2_0, rfl, rfl⟩
    refine wl_end [(4, _), (6, _)] ⟨rfl, rfl, trivial⟩ ?_
    refine w_seq ?_
    refine w_reg ?_
    (first | refine wl_f (f_loadsb (cs := [_, _]) 0 rfl Tryz.underlying116 rfl (by kernel_rfl) rfl rfl) ?_ | refine wl_f (f_loadsb (cs := [_, _]) 1 rfl Tryz.underlying116 rfl (by kernel_rfl) rfl rfl) ?_ | refine wl_f (f_loadsb (cs := [_, _]) 2 rfl Tryz.underlying116 rfl (by kernel_rfl) rfl rfl) ?_ | refine wl_f (f_loadsb (cs := [_, _]) 3 rfl Tryz.underlying116 rfl (by kernel_rfl) rfl rfl) ?_ | refine wl_f (f_loadsb (cs := [_, _]) 4 rfl Tryz.underlying116 rfl (by kernel_rfl) rfl rfl) ?_ | refine wl_f (f_loadsb (cs := [_, _]) 5 rfl Tryz.underlying116 rfl (by kernel_rfl) rfl rfl) ?_ | refine wl_f (f_loadsb (cs := [_, _]) 6 rfl Tryz.underlying116 rfl (by kernel_rfl) rfl rfl) ?_)
    (first | refine wl_e0 (e_store0 (us := [_, _]) rfl rfl rfl (by kernel_rfl) (by simp [Value.oneCell']) rfl rfl) ?_ | refine wl_e0 (e_store1 (us := [_, _]) rfl rfl rfl (by kernel_rfl) (by simp [Value.oneCell']) rfl rfl) ?_ | refine wl_e0 (e_store2 (us := [_, _]) rfl rfl rfl (by kernel_rfl) (by simp [Value.oneCell']) rfl rfl) ?_ | refine wl_e0 (e_store3 (us := [_, _]) rfl rfl rfl (by kernel_rfl) (by simp [Value.oneCell']) rfl rfl) ?_)
    rintro _ _ w3_1 rfl
    refine wl_f (f_assign rfl) ?_
    refine wl_end [(4, _), (5, _)] ⟨rfl, rfl, trivial⟩ ?_
    refine w_ret ?_
    refine ⟨_, _, fun a ha hh => results_mix Tryz.results103 (rm_cell (cell_agg 2 rfl Tryz.underlying116 rfl (by kernel_rfl) rfl) (rm_tmp rfl rm_nil)) a ha _ hh, (List.Sublist.refl [_]).cons _ |>.trans (List.sublist_append_left [_, _] [_]), ?_⟩
    exact ⟨rfl, .inl ⟨not_isAt hc1, rfl⟩⟩
  · skip
    obtain ⟨x, rfl, hx⟩ := isAt_some (is_isAt hc1)
    obtain ⟨A, a, B, rfl⟩ := split_node hx
    obtain ⟨uV, nV, pV, vV, used, nx, pv, vs, rfl, hc⟩ := id hr
    have hlt := hc.atlt
    refine w_with fun hh => ?_
    obtain ⟨g, cap, e⟩ := rowB_form hh (i := 0) (j := 4) rfl rfl (by omega)
    subst e
    clear hh
    refine w_skip ?_
    refine w_seq ?_
    refine w_reg ?_
    refine wl_f (f_move rfl) ?_
    refine wl_f (f_nilCheck rfl) ?_
    refine wl_f (f_fieldAddr 7 rfl Tryz.underlying131 rfl rfl (by kernel_rfl)) ?_
    refine wl_f (f_loadB 0 0 rfl rfl rfl Tryz.underlying129 rfl rfl) ?_
    refine wl_f (f_move rfl) ?_
    refine wl_f (f_indexAddr 2 (i := x) rfl rfl Tryz.underlying129 (by kernel_rfl) rfl hlt) ?_
    refine wl_f (f_loadsBr (cs := kBuc.cells a) 0 4 rfl rfl rfl Tryz.underlying116 rfl (by kernel_rfl) (vcells_get kBuc kBuc_len hc.at)) ?_
    (first | refine wl_e0 (e_store0 (us := [_, _]) rfl rfl rfl (by kernel_rfl) (by simp [Value.oneCell']) rfl rfl) ?_ | refine wl_e0 (e_store1 (us := [_, _]) rfl rfl rfl (by kernel_rfl) (by simp [Value.oneCell']) rfl rfl) ?_ | refine wl_e0 (e_store2 (us := [_, _]) rfl rfl rfl (by kernel_rfl) (by simp [Value.oneCell']) rfl rfl) ?_ | refine wl_e0 (e_store3 (us := [_, _]) rfl rfl rfl (by kernel_rfl) (by simp [Value.oneCell']) rfl rfl) ?_)
    rintro _ _ w4_7 rfl
    refine wl_f (f_assign rfl) ?_
    refine wl_end [(4, _), (5, _)] ⟨rfl, rfl, trivial⟩ ?_
    refine w_ret ?_
    refine ⟨_, _, fun a ha hh => results_mix Tryz.results103 (rm_cell (cell_agg 1 rfl Tryz.underlying116 rfl (by kernel_rfl) rfl) (rm_tmp rfl rm_nil)) a ha _ hh, List.sublist_append_left [_] [_], ?_⟩
    exact ⟨rfl, .inr ⟨A, x, a, B, rfl, rfl, rfl⟩⟩
end Go.Proofs.YtmagdjlcckgkpaaGreat

/- Linked lists: a node is taken out; all values. -/
namespace Go.Proofs.YtmagdjlcckgkpaaGreat
open Go.RowKit

/-- What is left where a node is taken out. -/
def RemG {α : Type} (K : VK α) (R : List (Nat × α) → Res → Prop) (l : List (Nat × α)) (node : Int) (r : Res) (u : Value) (H : List Res) : Prop :=
  (isAt node (nodes l) = false ∧ u = .tuple #[K.val K.zero, .int .i64 8] ∧ H = [r]) ∨ ∃ A y a B r', l = A ++ (y, a) :: B ∧ node = (y : Nat) ∧ u = .tuple #[K.val a, .int .i64 0] ∧ H = [r'] ∧ R (A ++ B) r'
abbrev RemAt {α : Type} (K : VK α) (b n : Nat) (l : List (Nat × α)) (node : Int) (r : Res) (u : Value) (H : List Res) : Prop := RemG K (ChR K b n) l node r u H

theorem vcells_set' {α : Type} (K : VK α) (hK : ∀ a, (K.cells a).length = K.sz) {l : List α} {x : Nat} (a : α) (hx : x < l.length) :
    (vcells K l).take (0 + x * K.sz) ++ K.cells a ++ (vcells K l).drop (0 + x * K.sz + (K.cells a).length) = vcells K (l.set x a) := by
  rw [hK]; exact vcells_set K hK a hx

set_option maxHeartbeats 4000000 in
theorem iRemove_spec (b n : Nat) (l : List (Nat × Int)) (node : Int) (r : Res) (w : World) (hn : n ≤ 8192) (hr : ChR kInt b n l r) (hs : Holds w r.foot [r] w) :
    Spec Tryz.prog 105 [.pointer (some ⟨b, 0, .none⟩), .int .i64 node] w r.foot fun u H => RemAt kInt b n l node r u H := by
  refine enter (n := 83) Tryz.func105 rfl rfl [(0, _), (1, _)] rfl ⟨rfl, rfl, trivial⟩ hs ?_
  refine w_seq ?_
  refine w_reg ?_
  refine wl_f (f_assign rfl) ?_
  refine wl_f (f_assign rfl) ?_
  refine wl_end [(0, _), (1, _)] ⟨rfl, rfl, trivial⟩ ?_
  refine w_seq ?_
  refine w_reg ?_
  refine wl_f (f_assign rfl) ?_
  refine wl_end [(0, _), (1, _), (6, _)] ⟨rfl, rfl, rfl, trivial⟩ ?_
  refine w_seq ?_
  refine w_seq ?_
  refine w_reg ?_
  refine wl_f (f_move rfl) ?_
  refine wl_f (f_move rfl) ?_
  refine wl_e (e_call1 r [] rfl Tryz.func121 (by kernel_rfl) (List.Perm.refl _) (fun w hh hs => ihas_spec b n l r node w hr hs)) ?_
  rintro _ _ w1 ⟨_, rfl, rfl, rfl⟩
  refine wl_f (f_not rfl rfl) ?_
  refine wl_end [(0, _), (1, _), (6, _), (13, _)] ⟨rfl, rfl, rfl, rfl, trivial⟩ ?_
  refine w_ifb rfl (fun hc1 => ?_) (fun hc1 => ?_)
  · skip
    refine w_seq ?_
    refine w_reg ?_
    refine wl_f (f_move rfl) ?_
    refine wl_f (f_assign rfl) ?_
    refine wl_f (f_assign rfl) ?_
    refine wl_end [(4, _), (5, _)] ⟨rfl, rfl, trivial⟩ ?_
    refine w_ret ?_
    refine ⟨_, _, fun a ha hh => results_tmps Tryz.results105 rfl a ha _, List.Sublist.refl _, ?_⟩
    exact .inl ⟨not_isAt hc1, rfl, rfl⟩
  · skip
    obtain ⟨x, rfl, hx⟩ := isAt_some (is_isAt hc1)
    obtain ⟨A, a, B, rfl⟩ := split_node hx
    obtain ⟨uV, nV, pV, vV, used, nx, pv, vs, rfl, hc⟩ := id hr
    have hlt := hc.atlt
    have hle := hc.le
    have hlx := hc.lx
    have hlp := hc.lp
    have hlv := hc.lv
    have hvl := vcells_len kInt kInt_len vs
    have hln := hc.len
    have hxn := hc.next
    have hxp := hc.prev
    have hnd := hc.nd
    have hl1 : (A ++ (x, a) :: B).length = A.length + B.length + 1 := by simp; omega
    refine w_unb (H := []) (chs kInt b n _ uV nV pV vV used nx pv vs) ?_
    refine w_with fun hh => ?_
    obtain ⟨g1, c1, rfl⟩ := row_form hh (i := 1) rfl (by omega)
    obtain ⟨g2, c2, rfl⟩ := row_form hh (i := 2) rfl (by omega)
    obtain ⟨g3, c3, rfl⟩ := row_form hh (i := 3) rfl (by omega)
    obtain ⟨g4, c4, rfl⟩ := row_form hh (i := 4) rfl (by omega)
    clear hh
    refine w_skip ?_
    refine w_seq ?_
    refine w_draw [(0, true), (1, true), (2, true), (3, true), (4, true), (5, true), (6, true), (7, true), (8, true), (9, true), (10, true), (11, true), (12, true), (13, true), (14, true), (15, true), (16, true), (17, true), (18, true), (19, true), (20, true), (21, true), (22, true), (23, true)] (_) ([]) mixed (by kernel_rfl) (by kernel_rfl) rfl (perm_all _) (fun w4_ => ?_)
    refine wd_f rfl (f_move rfl) ?_
    refine wd_f rfl (f_nilCheck rfl) ?_
    refine wd_f rfl (f_fieldAddr 7 rfl Tryz.underlying182 rfl rfl (by kernel_rfl)) ?_
    (first | refine wd_f rfl (f_loadb 0 rfl Tryz.underlying22 rfl rfl rfl) ?_ | refine wd_f rfl (f_loadb 1 rfl Tryz.underlying22 rfl rfl rfl) ?_ | refine wd_f rfl (f_loadb 2 rfl Tryz.underlying22 rfl rfl rfl) ?_ | refine wd_f rfl (f_loadb 3 rfl Tryz.underlying22 rfl rfl rfl) ?_ | refine wd_f rfl (f_loadb 4 rfl Tryz.underlying22 rfl rfl rfl) ?_ | refine wd_f rfl (f_loadb 5 rfl Tryz.underlying22 rfl rfl rfl) ?_ | refine wd_f rfl (f_loadb 6 rfl Tryz.underlying22 rfl rfl rfl) ?_)
    refine wd_f rfl (f_move rfl) ?_
    refine wd_f rfl (f_indexAddr 1 (i := x) rfl rfl Tryz.underlying22 (by kernel_rfl) rfl hlt) ?_
    refine wd_f rfl (f_loadr1 (v := .int .i64 a) 4 rfl Tryz.underlying3 rfl rfl (vcells_get kInt kInt_len hc.at)) ?_
    refine wd_f rfl (f_move rfl) ?_
    refine wd_f rfl (f_nilCheck rfl) ?_
    refine wd_f rfl (f_fieldAddr 6 rfl Tryz.underlying182 rfl rfl (by kernel_rfl)) ?_
    (first | refine wd_f rfl (f_loadb 0 rfl Tryz.underlying22 rfl rfl rfl) ?_ | refine wd_f rfl (f_loadb 1 rfl Tryz.underlying22 rfl rfl rfl) ?_ | refine wd_f rfl (f_loadb 2 rfl Tryz.underlying22 rfl rfl rfl) ?_ | refine wd_f rfl (f_loadb 3 rfl Tryz.underlying22 rfl rfl rfl) ?_ | refine wd_f rfl (f_loadb 4 rfl Tryz.underlying22 rfl rfl rfl) ?_ | refine wd_f rfl (f_loadb 5 rfl Tryz.underlying22 rfl rfl rfl) ?_ | refine wd_f rfl (f_loadb 6 rfl Tryz.underlying22 rfl rfl rfl) ?_)
    refine wd_f rfl (f_move rfl) ?_
    refine wd_f rfl (f_indexAddr 1 (i := x) rfl rfl Tryz.underlying22 (by kernel_rfl) rfl hlt) ?_
    refine wd_f rfl (f_loadr (v := .int .i64 (hdE (-1) (nodes A).reverse)) 3 rfl Tryz.underlying3 rfl rfl (map_get (Value.int .i64) hxp)) ?_
    refine wd_f rfl (f_move rfl) ?_
    refine wd_f rfl (f_nilCheck rfl) ?_
    refine wd_f rfl (f_fieldAddr 5 rfl Tryz.underlying182 rfl rfl (by kernel_rfl)) ?_
    (first | refine wd_f rfl (f_loadb 0 rfl Tryz.underlying22 rfl rfl rfl) ?_ | refine wd_f rfl (f_loadb 1 rfl Tryz.underlying22 rfl rfl rfl) ?_ | refine wd_f rfl (f_loadb 2 rfl Tryz.underlying22 rfl rfl rfl) ?_ | refine wd_f rfl (f_loadb 3 rfl Tryz.underlying22 rfl rfl rfl) ?_ | refine wd_f rfl (f_loadb 4 rfl Tryz.underlying22 rfl rfl rfl) ?_ | refine wd_f rfl (f_loadb 5 rfl Tryz.underlying22 rfl rfl rfl) ?_ | refine wd_f rfl (f_loadb 6 rfl Tryz.underlying22 rfl rfl rfl) ?_)
    refine wd_f rfl (f_move rfl) ?_
    refine wd_f rfl (f_indexAddr 1 (i := x) rfl rfl Tryz.underlying22 (by kernel_rfl) rfl hlt) ?_
    refine wd_f rfl (f_loadr (v := .int .i64 (hdE (-1) (nodes B))) 2 rfl Tryz.underlying3 rfl rfl (map_get (Value.int .i64) hxn)) ?_
    refine wd_f rfl (f_assign rfl) ?_
    refine wd_f rfl (f_assign rfl) ?_
    refine wd_f rfl (f_assign rfl) ?_
    refine wd_end [(0, _), (1, _), (6, _), (7, _), (8, _), (9, _)] ⟨rfl, rfl, rfl, rfl, rfl, rfl, trivial⟩ ?_
    refine w_seq ?_
    refine w_seq ?_
    refine w_reg ?_
    refine wl_f (f_move rfl) ?_
    refine wl_f (f_eql rfl rfl) ?_
    refine wl_end [(0, _), (1, _), (6, _), (7, _), (8, _), (9, _), (37, _)] ⟨rfl, rfl, rfl, rfl, rfl, rfl, rfl, trivial⟩ ?_
    refine w_post (fun m H w' => m = [(0, .pointer (some ⟨b, 0, .none⟩)), (1, .int .i64 x), (6, .int .i64 0), (7, .int .i64 a), (8, .int .i64 (hdE (-1) (nodes A).reverse)), (9, .int .i64 (hdE (-1) (nodes B)))] ∧
      H = [blk b [.int .i64 (n : Int), .int .i64 ((A ++ (x, a) :: B).length : Int), .int .i64 (hdE (-1) (nodes (A ++ B))), .int .i64 (hdE (-1) (nodes (A ++ (x, a) :: B)).reverse), .slice (some ⟨g1, 0, .none⟩) used.length c1, .slice (some ⟨g2, 0, .none⟩) used.length c2, .slice (some ⟨g3, 0, .none⟩) used.length c3, .slice (some ⟨g4, 0, .none⟩) used.length c4] kInt.list,
        row (.slice (some ⟨g1, 0, .none⟩) used.length c1) 4 1 used.length (bov used), row (.slice (some ⟨g2, 0, .none⟩) used.length c2) 3 1 used.length (iv (setLast nx (nodes A) (hdE (-1) (nodes B)))),
        row (.slice (some ⟨g3, 0, .none⟩) used.length c3) 3 1 used.length (iv pv), row (.slice (some ⟨g4, 0, .none⟩) used.length c4) kInt.elem kInt.sz used.length (vcells kInt vs)]) ?_ ?_
    · skip
      refine w_ifd rfl (fun hc2 => ?_) (fun hc2 => ?_)
      · skip
        have hA : A = [] := by simpa using hdE_nil hc2
        subst hA
        refine w_reg ?_
        refine wl_f (f_move rfl) ?_
        refine wl_f (f_move rfl) ?_
        refine wl_f (f_nilCheck rfl) ?_
        refine wl_f (f_fieldAddr 2 rfl Tryz.underlying182 rfl rfl (by kernel_rfl)) ?_
        (first | refine wl_e0 (e_store0 (us := [_]) rfl rfl rfl (by kernel_rfl) (by simp [Value.oneCell']) rfl rfl) ?_ | refine wl_e0 (e_store1 (us := [_]) rfl rfl rfl (by kernel_rfl) (by simp [Value.oneCell']) rfl rfl) ?_ | refine wl_e0 (e_store2 (us := [_]) rfl rfl rfl (by kernel_rfl) (by simp [Value.oneCell']) rfl rfl) ?_ | refine wl_e0 (e_store3 (us := [_]) rfl rfl rfl (by kernel_rfl) (by simp [Value.oneCell']) rfl rfl) ?_)
        rintro _ _ w6_4 rfl
        refine wl_end [(0, _), (1, _), (6, _), (7, _), (8, _), (9, _)] ⟨rfl, rfl, rfl, rfl, rfl, rfl, trivial⟩ ?_
        exact ⟨rfl, rfl⟩
      · skip
        obtain ⟨y, t, hA⟩ := hdE_cons hc2
        have hal : y < used.length := hc.lt y (by
          have : y ∈ (nodes A).reverse := by rw [hA]; simp
          rw [nodes, List.map_append]
          exact List.mem_append_left _ (List.mem_reverse.1 this))
        have hA2 : hdE (-1) (nodes (A ++ (x, a) :: B)) = hdE (-1) (nodes (A ++ B)) := by
          cases A with
          | nil => simp at hA
          | cons p A => rfl
        refine w_reg ?_
        refine wl_f (f_move rfl) ?_
        refine wl_f (f_nilCheck rfl) ?_
        refine wl_f (f_fieldAddr 5 rfl Tryz.underlying182 rfl rfl (by kernel_rfl)) ?_
        (first | refine wl_f (f_loadb 0 rfl Tryz.underlying22 rfl rfl rfl) ?_ | refine wl_f (f_loadb 1 rfl Tryz.underlying22 rfl rfl rfl) ?_ | refine wl_f (f_loadb 2 rfl Tryz.underlying22 rfl rfl rfl) ?_ | refine wl_f (f_loadb 3 rfl Tryz.underlying22 rfl rfl rfl) ?_ | refine wl_f (f_loadb 4 rfl Tryz.underlying22 rfl rfl rfl) ?_ | refine wl_f (f_loadb 5 rfl Tryz.underlying22 rfl rfl rfl) ?_ | refine wl_f (f_loadb 6 rfl Tryz.underlying22 rfl rfl rfl) ?_)
        refine wl_f (f_move rfl) ?_
        refine wl_f (f_move rfl) ?_
        refine wl_f (f_indexAddr 1 (i := y) rfl rfl Tryz.underlying22 (by kernel_rfl) (by rw [hA]; rfl) hal) ?_
        refine wl_e0 (e_storerN 2 (us := [_]) (xs' := iv (nx.set y (hdE (-1) (nodes B)))) rfl rfl rfl rfl (by kernel_rfl) (by simp [Value.oneCell']) (by simp [iv]; omega) (map_set (Value.int .i64) _ (by omega))) ?_
        rintro _ _ w7_7 rfl
        refine wl_end [(0, _), (1, _), (6, _), (7, _), (8, _), (9, _)] ⟨rfl, rfl, rfl, rfl, rfl, rfl, trivial⟩ ?_
        exact ⟨rfl, by rw [setLast_cons hA, ← hA2]; rfl⟩
    · rintro _ _ w ⟨rfl, rfl⟩
      refine w_seq ?_
      refine w_seq ?_
      refine w_reg ?_
      refine wl_f (f_move rfl) ?_
      refine wl_f (f_eql rfl rfl) ?_
      refine wl_end [(0, _), (1, _), (6, _), (7, _), (8, _), (9, _), (50, _)] ⟨rfl, rfl, rfl, rfl, rfl, rfl, rfl, trivial⟩ ?_
      refine w_post (fun m H w' => m = [(0, .pointer (some ⟨b, 0, .none⟩)), (1, .int .i64 x), (6, .int .i64 0), (7, .int .i64 a)] ∧
        H = [blk b [.int .i64 (n : Int), .int .i64 ((A ++ (x, a) :: B).length : Int), .int .i64 (hdE (-1) (nodes (A ++ B))), .int .i64 (hdE (-1) (nodes (A ++ B)).reverse), .slice (some ⟨g1, 0, .none⟩) used.length c1, .slice (some ⟨g2, 0, .none⟩) used.length c2, .slice (some ⟨g3, 0, .none⟩) used.length c3, .slice (some ⟨g4, 0, .none⟩) used.length c4] kInt.list,
          row (.slice (some ⟨g1, 0, .none⟩) used.length c1) 4 1 used.length (bov used), row (.slice (some ⟨g2, 0, .none⟩) used.length c2) 3 1 used.length (iv (setLast nx (nodes A) (hdE (-1) (nodes B)))),
          row (.slice (some ⟨g3, 0, .none⟩) used.length c3) 3 1 used.length (iv (setLast pv (nodes B).reverse (hdE (-1) (nodes A).reverse))), row (.slice (some ⟨g4, 0, .none⟩) used.length c4) kInt.elem kInt.sz used.length (vcells kInt vs)]) ?_ ?_
      · skip
        refine w_ifd rfl (fun hc3 => ?_) (fun hc3 => ?_)
        · skip
          have hB : B = [] := by simpa using hdE_nil hc3
          subst hB
          refine w_reg ?_
          refine wl_f (f_move rfl) ?_
          refine wl_f (f_move rfl) ?_
          refine wl_f (f_nilCheck rfl) ?_
          refine wl_f (f_fieldAddr 3 rfl Tryz.underlying182 rfl rfl (by kernel_rfl)) ?_
          (first | refine wl_e0 (e_store0 (us := [_]) rfl rfl rfl (by kernel_rfl) (by simp [Value.oneCell']) rfl rfl) ?_ | refine wl_e0 (e_store1 (us := [_]) rfl rfl rfl (by kernel_rfl) (by simp [Value.oneCell']) rfl rfl) ?_ | refine wl_e0 (e_store2 (us := [_]) rfl rfl rfl (by kernel_rfl) (by simp [Value.oneCell']) rfl rfl) ?_ | refine wl_e0 (e_store3 (us := [_]) rfl rfl rfl (by kernel_rfl) (by simp [Value.oneCell']) rfl rfl) ?_)
          rintro _ _ w9_4 rfl
          refine wl_end [(0, _), (1, _), (6, _), (7, _)] ⟨rfl, rfl, rfl, rfl, trivial⟩ ?_
          have e : hdE (-1) (nodes A).reverse = hdE (-1) (nodes (A ++ [])).reverse := by rw [List.append_nil]
          exact ⟨rfl, by rw [← e]; rfl⟩
        · skip
          obtain ⟨y, t, hB⟩ := hdE_cons hc3
          have hal : y < used.length := hc.lt y (by
            have : y ∈ nodes B := by rw [hB]; simp
            rw [nodes_split]
            exact List.mem_append_right _ (List.mem_cons_of_mem _ this))
          have hB2 : hdE (-1) (nodes (A ++ (x, a) :: B)).reverse = hdE (-1) (nodes (A ++ B)).reverse := by
            rcases List.eq_nil_or_concat B with rfl | ⟨B', p, rfl⟩
            · simp at hB
            · simp [hdE]
          refine w_reg ?_
          refine wl_f (f_move rfl) ?_
          refine wl_f (f_nilCheck rfl) ?_
          refine wl_f (f_fieldAddr 6 rfl Tryz.underlying182 rfl rfl (by kernel_rfl)) ?_
          (first | refine wl_f (f_loadb 0 rfl Tryz.underlying22 rfl rfl rfl) ?_ | refine wl_f (f_loadb 1 rfl Tryz.underlying22 rfl rfl rfl) ?_ | refine wl_f (f_loadb 2 rfl Tryz.underlying22 rfl rfl rfl) ?_ | refine wl_f (f_loadb 3 rfl Tryz.underlying22 rfl rfl rfl) ?_ | refine wl_f (f_loadb 4 rfl Tryz.underlying22 rfl rfl rfl) ?_ | refine wl_f (f_loadb 5 rfl Tryz.underlying22 rfl rfl rfl) ?_ | refine wl_f (f_loadb 6 rfl Tryz.underlying22 rfl rfl rfl) ?_)
          refine wl_f (f_move rfl) ?_
          refine wl_f (f_move rfl) ?_
          refine wl_f (f_indexAddr 1 (i := y) rfl rfl Tryz.underlying22 (by kernel_rfl) (by rw [hB]; rfl) hal) ?_
          refine wl_e0 (e_storerN 3 (us := [_]) (xs' := iv (pv.set y (hdE (-1) (nodes A).reverse))) rfl rfl rfl rfl (by kernel_rfl) (by simp [Value.oneCell']) (by simp [iv]; omega) (map_set (Value.int .i64) _ (by omega))) ?_
          rintro _ _ w10_7 rfl
          refine wl_end [(0, _), (1, _), (6, _), (7, _)] ⟨rfl, rfl, rfl, rfl, trivial⟩ ?_
          exact ⟨rfl, by rw [setLast_cons (N := (nodes B).reverse) (by rw [List.reverse_reverse]; exact hB), ← hB2]; rfl⟩
      · rintro _ _ w ⟨rfl, rfl⟩
        refine w_seq ?_
        refine w_draw [(0, true), (1, true), (2, true), (3, true), (4, true), (5, true), (6, true), (7, true), (8, true), (9, true), (10, true), (11, true), (12, false), (13, true), (14, false)] ([_]) ([_, _, _, _]) mixed (by kernel_rfl) (by kernel_rfl) rfl (List.Perm.refl _) (fun w11_ => ?_)
        refine wd_f rfl (f_move rfl) ?_
        refine wd_f rfl (f_nilCheck rfl) ?_
        refine wd_f rfl (f_fieldAddr 4 rfl Tryz.underlying182 rfl rfl (by kernel_rfl)) ?_
        (first | refine wd_f rfl (f_loadb 0 rfl Tryz.underlying128 rfl rfl rfl) ?_ | refine wd_f rfl (f_loadb 1 rfl Tryz.underlying128 rfl rfl rfl) ?_ | refine wd_f rfl (f_loadb 2 rfl Tryz.underlying128 rfl rfl rfl) ?_ | refine wd_f rfl (f_loadb 3 rfl Tryz.underlying128 rfl rfl rfl) ?_ | refine wd_f rfl (f_loadb 4 rfl Tryz.underlying128 rfl rfl rfl) ?_ | refine wd_f rfl (f_loadb 5 rfl Tryz.underlying128 rfl rfl rfl) ?_ | refine wd_f rfl (f_loadb 6 rfl Tryz.underlying128 rfl rfl rfl) ?_)
        refine wd_f rfl (f_move rfl) ?_
        refine wd_f rfl (f_move rfl) ?_
        refine wd_f rfl (f_nilCheck rfl) ?_
        refine wd_f rfl (f_fieldAddr 7 rfl Tryz.underlying182 rfl rfl (by kernel_rfl)) ?_
        (first | refine wd_f rfl (f_loadb 0 rfl Tryz.underlying22 rfl rfl rfl) ?_ | refine wd_f rfl (f_loadb 1 rfl Tryz.underlying22 rfl rfl rfl) ?_ | refine wd_f rfl (f_loadb 2 rfl Tryz.underlying22 rfl rfl rfl) ?_ | refine wd_f rfl (f_loadb 3 rfl Tryz.underlying22 rfl rfl rfl) ?_ | refine wd_f rfl (f_loadb 4 rfl Tryz.underlying22 rfl rfl rfl) ?_ | refine wd_f rfl (f_loadb 5 rfl Tryz.underlying22 rfl rfl rfl) ?_ | refine wd_f rfl (f_loadb 6 rfl Tryz.underlying22 rfl rfl rfl) ?_)
        refine wd_f rfl (f_move rfl) ?_
        refine wd_f rfl (f_move rfl) ?_
        refine wd_f rfl (f_indexAddr 1 (i := x) rfl rfl Tryz.underlying128 (by kernel_rfl) rfl hlt) ?_
        refine wd_e0 rfl (e_storerN 1 (us := [_]) (xs' := bov (used.set x false)) rfl rfl rfl rfl (by kernel_rfl) (by simp [Value.oneCell']) (by simp [bov]; omega) (map_set Value.bool false hlt)) ?_
        rintro _ _ w11_12 rfl
        refine ⟨_, List.Perm.refl _, ?_⟩
        refine wd_f rfl (f_indexAddr 1 (i := x) rfl rfl Tryz.underlying22 (by kernel_rfl) rfl hlt) ?_
        refine wd_e0 rfl (e_storerN 4 (us := [_]) (xs' := vcells kInt (vs.set x 0)) rfl rfl rfl rfl (by kernel_rfl) (by simp [Value.oneCell']) (by rw [hvl]; show 0 + x * 1 + 1 ≤ vs.length * 1; omega) (vcells_set kInt kInt_len 0 (by omega))) ?_
        rintro _ _ w11_14 rfl
        refine ⟨_, List.Perm.refl _, ?_⟩
        refine wd_end [(0, _), (7, _)] ⟨rfl, rfl, trivial⟩ ?_
        refine w_seq ?_
        refine w_reg ?_
        refine wl_f (f_move rfl) ?_
        refine wl_f (f_nilCheck rfl) ?_
        refine wl_f (f_fieldAddr 1 rfl Tryz.underlying182 rfl rfl (by kernel_rfl)) ?_
        (first | refine wl_f (f_loadb 0 rfl Tryz.underlying3 rfl rfl rfl) ?_ | refine wl_f (f_loadb 1 rfl Tryz.underlying3 rfl rfl rfl) ?_ | refine wl_f (f_loadb 2 rfl Tryz.underlying3 rfl rfl rfl) ?_ | refine wl_f (f_loadb 3 rfl Tryz.underlying3 rfl rfl rfl) ?_ | refine wl_f (f_loadb 4 rfl Tryz.underlying3 rfl rfl rfl) ?_ | refine wl_f (f_loadb 5 rfl Tryz.underlying3 rfl rfl rfl) ?_ | refine wl_f (f_loadb 6 rfl Tryz.underlying3 rfl rfl rfl) ?_)
        refine wl_f (f_sub rfl rfl (by omega)) ?_
        refine wl_f (f_nilCheck rfl) ?_
        refine wl_f (f_fieldAddr 1 rfl Tryz.underlying182 rfl rfl (by kernel_rfl)) ?_
        (first | refine wl_e0 (e_store0 (us := [_]) rfl rfl rfl (by kernel_rfl) (by simp [Value.oneCell']) rfl rfl) ?_ | refine wl_e0 (e_store1 (us := [_]) rfl rfl rfl (by kernel_rfl) (by simp [Value.oneCell']) rfl rfl) ?_ | refine wl_e0 (e_store2 (us := [_]) rfl rfl rfl (by kernel_rfl) (by simp [Value.oneCell']) rfl rfl) ?_ | refine wl_e0 (e_store3 (us := [_]) rfl rfl rfl (by kernel_rfl) (by simp [Value.oneCell']) rfl rfl) ?_)
        rintro _ _ w12_7 rfl
        refine wl_end [(7, _)] ⟨rfl, trivial⟩ ?_
        refine w_seq ?_
        refine w_reg ?_
        refine wl_f (f_move rfl) ?_
        refine wl_f (f_assign rfl) ?_
        refine wl_f (f_assign rfl) ?_
        refine wl_end [(4, _), (5, _)] ⟨rfl, rfl, trivial⟩ ?_
        refine w_bun (H := []) [_, _, _, _, _] ?_
        refine w_ret ?_
        refine ⟨_, _, fun a ha hh => results_tmps Tryz.results105 rfl a ha _, List.Sublist.refl _, ?_⟩
        refine .inr ⟨A, x, a, B, _, rfl, rfl, rfl, rfl, .slice (some ⟨g1, 0, .none⟩) used.length c1, .slice (some ⟨g2, 0, .none⟩) used.length c2, .slice (some ⟨g3, 0, .none⟩) used.length c3, .slice (some ⟨g4, 0, .none⟩) used.length c4, _, _, _, _, ?_, hc.remove (z := 0)⟩
        have e1 : ((A ++ B).length : Int) = ((A ++ (x, a) :: B).length : Int) - 1 := by rw [hl1, List.length_append]; omega
        rw [chs, List.length_set, e1]
        rfl
set_option maxHeartbeats 4000000 in
theorem bRemove_spec (b n : Nat) (l : List (Nat × (Nat × Option Nat))) (node : Int) (r : Res) (w : World) (hn : n ≤ 8192) (hr : ChR kBuc b n l r) (hs : Holds w r.foot [r] w) :
    Spec Tryz.prog 107 [.pointer (some ⟨b, 0, .none⟩), .int .i64 node] w r.foot fun u H => RemAt kBuc b n l node r u H := by
  refine enter (n := 83) Tryz.func107 rfl rfl [(0, _), (1, _)] rfl ⟨rfl, rfl, trivial⟩ hs ?_
  refine w_seq ?_
  refine w_reg ?_
  refine wl_e (e_allocs [.int .u64 0, .pointer .none] (by kernel_rfl)) ?_
  rintro _ _ w0_0 ⟨b0_0, rfl, rfl⟩
  refine wl_f (f_assign rfl) ?_
  refine wl_end [(0, _), (1, _), (4, _)] ⟨rfl, rfl, rfl, trivial⟩ ?_
  refine w_seq ?_
  refine w_reg ?_
  refine wl_e (e_allocs [.int .u64 0, .pointer .none] (by kernel_rfl)) ?_
  rintro _ _ w1_0 ⟨b1_0, rfl, rfl⟩
  refine wl_end [(0, _), (1, _), (4, _), (6, _)] ⟨rfl, rfl, rfl, rfl, trivial⟩ ?_
  refine w_seq ?_
  refine w_seq ?_
  refine w_reg ?_
  refine wl_f (f_move rfl) ?_
  refine wl_f (f_move rfl) ?_
  refine wl_e (e_call1 r [_, _] rfl Tryz.func120 (by kernel_rfl) (pk1 2 rfl) (fun w hh hs => bhas_spec b n l r node w hr hs)) ?_
  rintro _ _ w1 ⟨_, rfl, rfl, rfl⟩
  refine wl_f (f_not rfl rfl) ?_
  refine wl_end [(0, _), (1, _), (4, _), (6, _), (13, _)] ⟨rfl, rfl, rfl, rfl, rfl, trivial⟩ ?_
  refine w_ifb rfl (fun hc1 => ?_) (fun hc1 => ?_)
  · skip
    refine w_seq ?_
    refine w_reg ?_
    (first | refine wl_f (f_loadsb (cs := [_, _]) 0 rfl Tryz.underlying116 rfl (by kernel_rfl) rfl rfl) ?_ | refine wl_f (f_loadsb (cs := [_, _]) 1 rfl Tryz.underlying116 rfl (by kernel_rfl) rfl rfl) ?_ | refine wl_f (f_loadsb (cs := [_, _]) 2 rfl Tryz.underlying116 rfl (by kernel_rfl) rfl rfl) ?_ | refine wl_f (f_loadsb (cs := [_, _]) 3 rfl Tryz.underlying116 rfl (by kernel_rfl) rfl rfl) ?_ | refine wl_f (f_loadsb (cs := [_, _]) 4 rfl Tryz.underlying116 rfl (by kernel_rfl) rfl rfl) ?_ | refine wl_f (f_loadsb (cs := [_, _]) 5 rfl Tryz.underlying116 rfl (by kernel_rfl) rfl rfl) ?_ | refine wl_f (f_loadsb (cs := [_, _]) 6 rfl Tryz.underlying116 rfl (by kernel_rfl) rfl rfl) ?_)
    (first | refine wl_e0 (e_store0 (us := [_, _]) rfl rfl rfl (by kernel_rfl) (by simp [Value.oneCell']) rfl rfl) ?_ | refine wl_e0 (e_store1 (us := [_, _]) rfl rfl rfl (by kernel_rfl) (by simp [Value.oneCell']) rfl rfl) ?_ | refine wl_e0 (e_store2 (us := [_, _]) rfl rfl rfl (by kernel_rfl) (by simp [Value.oneCell']) rfl rfl) ?_ | refine wl_e0 (e_store3 (us := [_, _]) rfl rfl rfl (by kernel_rfl) (by simp [Value.oneCell']) rfl rfl) ?_)
    rintro _ _ w3_1 rfl
    refine wl_f (f_assign rfl) ?_
    refine wl_end [(4, _), (5, _)] ⟨rfl, rfl, trivial⟩ ?_
    refine w_ret ?_
    refine ⟨_, _, fun a ha hh => results_mix Tryz.results107 (rm_cell (cell_agg 2 rfl Tryz.underlying116 rfl (by kernel_rfl) rfl) (rm_tmp rfl rm_nil)) a ha _ hh, List.sublist_append_left [_] [_, _], ?_⟩
    exact .inl ⟨not_isAt hc1, rfl, rfl⟩
  · skip
    obtain ⟨x, rfl, hx⟩ := isAt_some (is_isAt hc1)
    obtain ⟨A, a, B, rfl⟩ := split_node hx
    obtain ⟨uV, nV, pV, vV, used, nx, pv, vs, rfl, hc⟩ := id hr
    have hlt := hc.atlt
    have hle := hc.le
    have hlx := hc.lx
    have hlp := hc.lp
    have hlv := hc.lv
    have hvl := vcells_len kBuc kBuc_len vs
    have hln := hc.len
    have hxn := hc.next
    have hxp := hc.prev
    have hnd := hc.nd
    have hl1 : (A ++ (x, a) :: B).length = A.length + B.length + 1 := by simp; omega
    refine w_unb (H := [_, _]) (chs kBuc b n _ uV nV pV vV used nx pv vs) ?_
    refine w_with fun hh => ?_
    obtain ⟨g1, c1, rfl⟩ := row_form hh (i := 1) rfl (by omega)
    obtain ⟨g2, c2, rfl⟩ := row_form hh (i := 2) rfl (by omega)
    obtain ⟨g3, c3, rfl⟩ := row_form hh (i := 3) rfl (by omega)
    obtain ⟨g4, c4, rfl⟩ := row_form hh (i := 4) rfl (by omega)
    clear hh
    refine w_skip ?_
    refine w_seq ?_
    refine w_draw [(0, true), (1, true), (2, true), (3, true), (4, true), (5, true), (6, true), (7, true), (8, true), (9, true), (10, true), (11, true), (12, true), (13, true), (14, true), (15, true), (16, true), (17, true), (18, true), (19, true), (20, true), (21, false), (22, false), (23, true), (24, true)] ([_, _, _, _, _, _, _]) ([]) mixed (by kernel_rfl) (by kernel_rfl) rfl (perm_all _) (fun w4_ => ?_)
    refine wd_f rfl (f_move rfl) ?_
    refine wd_f rfl (f_nilCheck rfl) ?_
    refine wd_f rfl (f_fieldAddr 7 rfl Tryz.underlying131 rfl rfl (by kernel_rfl)) ?_
    (first | refine wd_f rfl (f_loadb 0 rfl Tryz.underlying129 rfl rfl rfl) ?_ | refine wd_f rfl (f_loadb 1 rfl Tryz.underlying129 rfl rfl rfl) ?_ | refine wd_f rfl (f_loadb 2 rfl Tryz.underlying129 rfl rfl rfl) ?_ | refine wd_f rfl (f_loadb 3 rfl Tryz.underlying129 rfl rfl rfl) ?_ | refine wd_f rfl (f_loadb 4 rfl Tryz.underlying129 rfl rfl rfl) ?_ | refine wd_f rfl (f_loadb 5 rfl Tryz.underlying129 rfl rfl rfl) ?_ | refine wd_f rfl (f_loadb 6 rfl Tryz.underlying129 rfl rfl rfl) ?_)
    refine wd_f rfl (f_move rfl) ?_
    refine wd_f rfl (f_indexAddr 2 (i := x) rfl rfl Tryz.underlying129 (by kernel_rfl) rfl hlt) ?_
    refine wd_f rfl (f_loadsr (cs := kBuc.cells a) 4 rfl Tryz.underlying116 rfl (by kernel_rfl) rfl (vcells_get kBuc kBuc_len hc.at)) ?_
    refine wd_f rfl (f_move rfl) ?_
    refine wd_f rfl (f_nilCheck rfl) ?_
    refine wd_f rfl (f_fieldAddr 6 rfl Tryz.underlying131 rfl rfl (by kernel_rfl)) ?_
    (first | refine wd_f rfl (f_loadb 0 rfl Tryz.underlying22 rfl rfl rfl) ?_ | refine wd_f rfl (f_loadb 1 rfl Tryz.underlying22 rfl rfl rfl) ?_ | refine wd_f rfl (f_loadb 2 rfl Tryz.underlying22 rfl rfl rfl) ?_ | refine wd_f rfl (f_loadb 3 rfl Tryz.underlying22 rfl rfl rfl) ?_ | refine wd_f rfl (f_loadb 4 rfl Tryz.underlying22 rfl rfl rfl) ?_ | refine wd_f rfl (f_loadb 5 rfl Tryz.underlying22 rfl rfl rfl) ?_ | refine wd_f rfl (f_loadb 6 rfl Tryz.underlying22 rfl rfl rfl) ?_)
    refine wd_f rfl (f_move rfl) ?_
    refine wd_f rfl (f_indexAddr 1 (i := x) rfl rfl Tryz.underlying22 (by kernel_rfl) rfl hlt) ?_
    refine wd_f rfl (f_loadr (v := .int .i64 (hdE (-1) (nodes A).reverse)) 3 rfl Tryz.underlying3 rfl rfl (map_get (Value.int .i64) hxp)) ?_
    refine wd_f rfl (f_move rfl) ?_
    refine wd_f rfl (f_nilCheck rfl) ?_
    refine wd_f rfl (f_fieldAddr 5 rfl Tryz.underlying131 rfl rfl (by kernel_rfl)) ?_
    (first | refine wd_f rfl (f_loadb 0 rfl Tryz.underlying22 rfl rfl rfl) ?_ | refine wd_f rfl (f_loadb 1 rfl Tryz.underlying22 rfl rfl rfl) ?_ | refine wd_f rfl (f_loadb 2 rfl Tryz.underlying22 rfl rfl rfl) ?_ | refine wd_f rfl (f_loadb 3 rfl Tryz.underlying22 rfl rfl rfl) ?_ | refine wd_f rfl (f_loadb 4 rfl Tryz.underlying22 rfl rfl rfl) ?_ | refine wd_f rfl (f_loadb 5 rfl Tryz.underlying22 rfl rfl rfl) ?_ | refine wd_f rfl (f_loadb 6 rfl Tryz.underlying22 rfl rfl rfl) ?_)
    refine wd_f rfl (f_move rfl) ?_
    refine wd_f rfl (f_indexAddr 1 (i := x) rfl rfl Tryz.underlying22 (by kernel_rfl) rfl hlt) ?_
    refine wd_f rfl (f_loadr (v := .int .i64 (hdE (-1) (nodes B))) 2 rfl Tryz.underlying3 rfl rfl (map_get (Value.int .i64) hxn)) ?_
    refine wd_e rfl (e_allocs [.int .u64 0, .pointer .none] (by kernel_rfl)) ?_
    rintro _ _ w4_21 ⟨b4_21, rfl, rfl⟩
    refine ⟨_, List.perm_middle.symm, ?_⟩
    refine wd_e0 rfl (e_storeN 7 (us := [_, _]) rfl rfl rfl rfl (by kernel_rfl) (by simp [Value.oneCell']) rfl rfl) ?_
    rintro _ _ w4_22 rfl
    refine ⟨_, List.Perm.refl _, ?_⟩
    refine wd_f rfl (f_assign rfl) ?_
    refine wd_f rfl (f_assign rfl) ?_
    refine wd_end [(0, _), (1, _), (4, _), (6, _), (7, _), (8, _), (9, _)] ⟨rfl, rfl, rfl, rfl, rfl, rfl, rfl, trivial⟩ ?_
    refine w_seq ?_
    refine w_seq ?_
    refine w_reg ?_
    refine wl_f (f_move rfl) ?_
    refine wl_f (f_eql rfl rfl) ?_
    refine wl_end [(0, _), (1, _), (4, _), (6, _), (7, _), (8, _), (9, _), (37, _)] ⟨rfl, rfl, rfl, rfl, rfl, rfl, rfl, rfl, trivial⟩ ?_
    refine w_post (fun m H w' => m = [(0, .pointer (some ⟨b, 0, .none⟩)), (1, .int .i64 x), (4, .pointer (some ⟨b0_0, 0, .none⟩)), (6, .pointer (some ⟨b1_0, 0, .none⟩)), (7, .pointer (some ⟨b4_21, 0, .none⟩)), (8, .int .i64 (hdE (-1) (nodes A).reverse)), (9, .int .i64 (hdE (-1) (nodes B)))] ∧
      H = [blk b [.int .i64 (n : Int), .int .i64 ((A ++ (x, a) :: B).length : Int), .int .i64 (hdE (-1) (nodes (A ++ B))), .int .i64 (hdE (-1) (nodes (A ++ (x, a) :: B)).reverse), .slice (some ⟨g1, 0, .none⟩) used.length c1, .slice (some ⟨g2, 0, .none⟩) used.length c2, .slice (some ⟨g3, 0, .none⟩) used.length c3, .slice (some ⟨g4, 0, .none⟩) used.length c4] kBuc.list,
        row (.slice (some ⟨g1, 0, .none⟩) used.length c1) 4 1 used.length (bov used), row (.slice (some ⟨g2, 0, .none⟩) used.length c2) 3 1 used.length (iv (setLast nx (nodes A) (hdE (-1) (nodes B)))),
        row (.slice (some ⟨g3, 0, .none⟩) used.length c3) 3 1 used.length (iv pv), row (.slice (some ⟨g4, 0, .none⟩) used.length c4) kBuc.elem kBuc.sz used.length (vcells kBuc vs), blk b1_0 [.int .u64 0, .pointer .none] 116, blk b0_0 [.int .u64 0, .pointer .none] 116, blk b4_21 (kBuc.cells a) 116]) ?_ ?_
    · skip
      refine w_ifd rfl (fun hc2 => ?_) (fun hc2 => ?_)
      · skip
        have hA : A = [] := by simpa using hdE_nil hc2
        subst hA
        refine w_reg ?_
        refine wl_f (f_move rfl) ?_
        refine wl_f (f_move rfl) ?_
        refine wl_f (f_nilCheck rfl) ?_
        refine wl_f (f_fieldAddr 2 rfl Tryz.underlying131 rfl rfl (by kernel_rfl)) ?_
        (first | refine wl_e0 (e_store0 (us := [_]) rfl rfl rfl (by kernel_rfl) (by simp [Value.oneCell']) rfl rfl) ?_ | refine wl_e0 (e_store1 (us := [_]) rfl rfl rfl (by kernel_rfl) (by simp [Value.oneCell']) rfl rfl) ?_ | refine wl_e0 (e_store2 (us := [_]) rfl rfl rfl (by kernel_rfl) (by simp [Value.oneCell']) rfl rfl) ?_ | refine wl_e0 (e_store3 (us := [_]) rfl rfl rfl (by kernel_rfl) (by simp [Value.oneCell']) rfl rfl) ?_)
        rintro _ _ w6_4 rfl
        refine wl_end [(0, _), (1, _), (4, _), (6, _), (7, _), (8, _), (9, _)] ⟨rfl, rfl, rfl, rfl, rfl, rfl, rfl, trivial⟩ ?_
        exact ⟨rfl, rfl⟩
      · skip
        obtain ⟨y, t, hA⟩ := hdE_cons hc2
        have hal : y < used.length := hc.lt y (by
          have : y ∈ (nodes A).reverse := by rw [hA]; simp
          rw [nodes, List.map_append]
          exact List.mem_append_left _ (List.mem_reverse.1 this))
        have hA2 : hdE (-1) (nodes (A ++ (x, a) :: B)) = hdE (-1) (nodes (A ++ B)) := by
          cases A with
          | nil => simp at hA
          | cons p A => rfl
        refine w_reg ?_
        refine wl_f (f_move rfl) ?_
        refine wl_f (f_nilCheck rfl) ?_
        refine wl_f (f_fieldAddr 5 rfl Tryz.underlying131 rfl rfl (by kernel_rfl)) ?_
        (first | refine wl_f (f_loadb 0 rfl Tryz.underlying22 rfl rfl rfl) ?_ | refine wl_f (f_loadb 1 rfl Tryz.underlying22 rfl rfl rfl) ?_ | refine wl_f (f_loadb 2 rfl Tryz.underlying22 rfl rfl rfl) ?_ | refine wl_f (f_loadb 3 rfl Tryz.underlying22 rfl rfl rfl) ?_ | refine wl_f (f_loadb 4 rfl Tryz.underlying22 rfl rfl rfl) ?_ | refine wl_f (f_loadb 5 rfl Tryz.underlying22 rfl rfl rfl) ?_ | refine wl_f (f_loadb 6 rfl Tryz.underlying22 rfl rfl rfl) ?_)
        refine wl_f (f_move rfl) ?_
        refine wl_f (f_move rfl) ?_
        refine wl_f (f_indexAddr 1 (i := y) rfl rfl Tryz.underlying22 (by kernel_rfl) (by rw [hA]; rfl) hal) ?_
        refine wl_e0 (e_storerN 2 (us := [_]) (xs' := iv (nx.set y (hdE (-1) (nodes B)))) rfl rfl rfl rfl (by kernel_rfl) (by simp [Value.oneCell']) (by simp [iv]; omega) (map_set (Value.int .i64) _ (by omega))) ?_
        rintro _ _ w7_7 rfl
        refine wl_end [(0, _), (1, _), (4, _), (6, _), (7, _), (8, _), (9, _)] ⟨rfl, rfl, rfl, rfl, rfl, rfl, rfl, trivial⟩ ?_
        exact ⟨rfl, by rw [setLast_cons hA, ← hA2]; rfl⟩
    · rintro _ _ w ⟨rfl, rfl⟩
      refine w_seq ?_
      refine w_seq ?_
      refine w_reg ?_
      refine wl_f (f_move rfl) ?_
      refine wl_f (f_eql rfl rfl) ?_
      refine wl_end [(0, _), (1, _), (4, _), (6, _), (7, _), (8, _), (9, _), (50, _)] ⟨rfl, rfl, rfl, rfl, rfl, rfl, rfl, rfl, trivial⟩ ?_
      refine w_post (fun m H w' => m = [(0, .pointer (some ⟨b, 0, .none⟩)), (1, .int .i64 x), (4, .pointer (some ⟨b0_0, 0, .none⟩)), (6, .pointer (some ⟨b1_0, 0, .none⟩)), (7, .pointer (some ⟨b4_21, 0, .none⟩))] ∧
        H = [blk b [.int .i64 (n : Int), .int .i64 ((A ++ (x, a) :: B).length : Int), .int .i64 (hdE (-1) (nodes (A ++ B))), .int .i64 (hdE (-1) (nodes (A ++ B)).reverse), .slice (some ⟨g1, 0, .none⟩) used.length c1, .slice (some ⟨g2, 0, .none⟩) used.length c2, .slice (some ⟨g3, 0, .none⟩) used.length c3, .slice (some ⟨g4, 0, .none⟩) used.length c4] kBuc.list,
          row (.slice (some ⟨g1, 0, .none⟩) used.length c1) 4 1 used.length (bov used), row (.slice (some ⟨g2, 0, .none⟩) used.length c2) 3 1 used.length (iv (setLast nx (nodes A) (hdE (-1) (nodes B)))),
          row (.slice (some ⟨g3, 0, .none⟩) used.length c3) 3 1 used.length (iv (setLast pv (nodes B).reverse (hdE (-1) (nodes A).reverse))), row (.slice (some ⟨g4, 0, .none⟩) used.length c4) kBuc.elem kBuc.sz used.length (vcells kBuc vs), blk b1_0 [.int .u64 0, .pointer .none] 116, blk b0_0 [.int .u64 0, .pointer .none] 116, blk b4_21 (kBuc.cells a) 116]) ?_ ?_
      · skip
        refine w_ifd rfl (fun hc3 => ?_) (fun hc3 => ?_)
        · skip
          have hB : B = [] := by simpa using hdE_nil hc3
          subst hB
          refine w_reg ?_
          refine wl_f (f_move rfl) ?_
          refine wl_f (f_move rfl) ?_
          refine wl_f (f_nilCheck rfl) ?_
          refine wl_f (f_fieldAddr 3 rfl Tryz.underlying131 rfl rfl (by kernel_rfl)) ?_
          (first | refine wl_e0 (e_store0 (us := [_]) rfl rfl rfl (by kernel_rfl) (by simp [Value.oneCell']) rfl rfl) ?_ | refine wl_e0 (e_store1 (us := [_]) rfl rfl rfl (by kernel_rfl) (by simp [Value.oneCell']) rfl rfl) ?_ | refine wl_e0 (e_store2 (us := [_]) rfl rfl rfl (by kernel_rfl) (by simp [Value.oneCell']) rfl rfl) ?_ | refine wl_e0 (e_store3 (us := [_]) rfl rfl rfl (by kernel_rfl) (by simp [Value.oneCell']) rfl rfl) ?_)
          rintro _ _ w9_4 rfl
          refine wl_end [(0, _), (1, _), (4, _), (6, _), (7, _)] ⟨rfl, rfl, rfl, rfl, rfl, trivial⟩ ?_
          have e : hdE (-1) (nodes A).reverse = hdE (-1) (nodes (A ++ [])).reverse := by rw [List.append_nil]
          exact ⟨rfl, by rw [← e]; rfl⟩
        · skip
          obtain ⟨y, t, hB⟩ := hdE_cons hc3
          have hal : y < used.length := hc.lt y (by
            have : y ∈ nodes B := by rw [hB]; simp
            rw [nodes_split]
            exact List.mem_append_right _ (List.mem_cons_of_mem _ this))
          have hB2 : hdE (-1) (nodes (A ++ (x, a) :: B)).reverse = hdE (-1) (nodes (A ++ B)).reverse := by
            rcases List.eq_nil_or_concat B with rfl | ⟨B', p, rfl⟩
            · simp at hB
            · simp [hdE]
          refine w_reg ?_
          refine wl_f (f_move rfl) ?_
          refine wl_f (f_nilCheck rfl) ?_
          refine wl_f (f_fieldAddr 6 rfl Tryz.underlying131 rfl rfl (by kernel_rfl)) ?_
          (first | refine wl_f (f_loadb 0 rfl Tryz.underlying22 rfl rfl rfl) ?_ | refine wl_f (f_loadb 1 rfl Tryz.underlying22 rfl rfl rfl) ?_ | refine wl_f (f_loadb 2 rfl Tryz.underlying22 rfl rfl rfl) ?_ | refine wl_f (f_loadb 3 rfl Tryz.underlying22 rfl rfl rfl) ?_ | refine wl_f (f_loadb 4 rfl Tryz.underlying22 rfl rfl rfl) ?_ | refine wl_f (f_loadb 5 rfl Tryz.underlying22 rfl rfl rfl) ?_ | refine wl_f (f_loadb 6 rfl Tryz.underlying22 rfl rfl rfl) ?_)
          refine wl_f (f_move rfl) ?_
          refine wl_f (f_move rfl) ?_
          refine wl_f (f_indexAddr 1 (i := y) rfl rfl Tryz.underlying22 (by kernel_rfl) (by rw [hB]; rfl) hal) ?_
          refine wl_e0 (e_storerN 3 (us := [_]) (xs' := iv (pv.set y (hdE (-1) (nodes A).reverse))) rfl rfl rfl rfl (by kernel_rfl) (by simp [Value.oneCell']) (by simp [iv]; omega) (map_set (Value.int .i64) _ (by omega))) ?_
          rintro _ _ w10_7 rfl
          refine wl_end [(0, _), (1, _), (4, _), (6, _), (7, _)] ⟨rfl, rfl, rfl, rfl, rfl, trivial⟩ ?_
          exact ⟨rfl, by rw [setLast_cons (N := (nodes B).reverse) (by rw [List.reverse_reverse]; exact hB), ← hB2]; rfl⟩
      · rintro _ _ w ⟨rfl, rfl⟩
        refine w_seq ?_
        refine w_draw [(0, true), (1, true), (2, true), (3, true), (4, true), (5, true), (6, true), (7, true), (8, true), (9, true), (10, true), (11, true), (12, false), (13, true), (14, false)] ([_, _]) ([_, _, _, _, _, _]) mixed (by kernel_rfl) (by kernel_rfl) rfl (pick_perm [0, 4] _ rfl) (fun w11_ => ?_)
        refine wd_f rfl (f_move rfl) ?_
        refine wd_f rfl (f_nilCheck rfl) ?_
        refine wd_f rfl (f_fieldAddr 4 rfl Tryz.underlying131 rfl rfl (by kernel_rfl)) ?_
        (first | refine wd_f rfl (f_loadb 0 rfl Tryz.underlying128 rfl rfl rfl) ?_ | refine wd_f rfl (f_loadb 1 rfl Tryz.underlying128 rfl rfl rfl) ?_ | refine wd_f rfl (f_loadb 2 rfl Tryz.underlying128 rfl rfl rfl) ?_ | refine wd_f rfl (f_loadb 3 rfl Tryz.underlying128 rfl rfl rfl) ?_ | refine wd_f rfl (f_loadb 4 rfl Tryz.underlying128 rfl rfl rfl) ?_ | refine wd_f rfl (f_loadb 5 rfl Tryz.underlying128 rfl rfl rfl) ?_ | refine wd_f rfl (f_loadb 6 rfl Tryz.underlying128 rfl rfl rfl) ?_)
        refine wd_f rfl (f_move rfl) ?_
        refine wd_f rfl (f_move rfl) ?_
        refine wd_f rfl (f_nilCheck rfl) ?_
        refine wd_f rfl (f_fieldAddr 7 rfl Tryz.underlying131 rfl rfl (by kernel_rfl)) ?_
        (first | refine wd_f rfl (f_loadb 0 rfl Tryz.underlying129 rfl rfl rfl) ?_ | refine wd_f rfl (f_loadb 1 rfl Tryz.underlying129 rfl rfl rfl) ?_ | refine wd_f rfl (f_loadb 2 rfl Tryz.underlying129 rfl rfl rfl) ?_ | refine wd_f rfl (f_loadb 3 rfl Tryz.underlying129 rfl rfl rfl) ?_ | refine wd_f rfl (f_loadb 4 rfl Tryz.underlying129 rfl rfl rfl) ?_ | refine wd_f rfl (f_loadb 5 rfl Tryz.underlying129 rfl rfl rfl) ?_ | refine wd_f rfl (f_loadb 6 rfl Tryz.underlying129 rfl rfl rfl) ?_)
        refine wd_f rfl (f_move rfl) ?_
        (first | refine wd_f rfl (f_loadsb (cs := [_, _]) 0 rfl Tryz.underlying116 rfl (by kernel_rfl) rfl rfl) ?_ | refine wd_f rfl (f_loadsb (cs := [_, _]) 1 rfl Tryz.underlying116 rfl (by kernel_rfl) rfl rfl) ?_ | refine wd_f rfl (f_loadsb (cs := [_, _]) 2 rfl Tryz.underlying116 rfl (by kernel_rfl) rfl rfl) ?_ | refine wd_f rfl (f_loadsb (cs := [_, _]) 3 rfl Tryz.underlying116 rfl (by kernel_rfl) rfl rfl) ?_ | refine wd_f rfl (f_loadsb (cs := [_, _]) 4 rfl Tryz.underlying116 rfl (by kernel_rfl) rfl rfl) ?_ | refine wd_f rfl (f_loadsb (cs := [_, _]) 5 rfl Tryz.underlying116 rfl (by kernel_rfl) rfl rfl) ?_ | refine wd_f rfl (f_loadsb (cs := [_, _]) 6 rfl Tryz.underlying116 rfl (by kernel_rfl) rfl rfl) ?_)
        refine wd_f rfl (f_indexAddr 1 (i := x) rfl rfl Tryz.underlying128 (by kernel_rfl) rfl hlt) ?_
        refine wd_e0 rfl (e_storerN 2 (us := [_]) (xs' := bov (used.set x false)) rfl rfl rfl rfl (by kernel_rfl) (by simp [Value.oneCell']) (by simp [bov]; omega) (map_set Value.bool false hlt)) ?_
        rintro _ _ w11_12 rfl
        refine ⟨_, List.Perm.refl _, ?_⟩
        refine wd_f rfl (f_indexAddr 2 (i := x) rfl rfl Tryz.underlying129 (by kernel_rfl) rfl hlt) ?_
        refine wd_e0 rfl (e_storerN 5 (us := [_, _]) (xs' := vcells kBuc (vs.set x kBuc.zero)) rfl rfl rfl rfl (by kernel_rfl) (by simp [Value.oneCell']) (by rw [hvl]; show 0 + x * 2 + 2 ≤ vs.length * 2; omega) (vcells_set kBuc kBuc_len kBuc.zero (by omega))) ?_
        rintro _ _ w11_14 rfl
        refine ⟨_, List.Perm.refl _, ?_⟩
        refine wd_endp [(0, _), (4, _), (7, _)] [0, 1, 1, 1, 1, 1, 1] ⟨rfl, rfl, rfl, trivial⟩ rfl ?_
        refine w_seq ?_
        refine w_reg ?_
        refine wl_f (f_move rfl) ?_
        refine wl_f (f_nilCheck rfl) ?_
        refine wl_f (f_fieldAddr 1 rfl Tryz.underlying131 rfl rfl (by kernel_rfl)) ?_
        (first | refine wl_f (f_loadb 0 rfl Tryz.underlying3 rfl rfl rfl) ?_ | refine wl_f (f_loadb 1 rfl Tryz.underlying3 rfl rfl rfl) ?_ | refine wl_f (f_loadb 2 rfl Tryz.underlying3 rfl rfl rfl) ?_ | refine wl_f (f_loadb 3 rfl Tryz.underlying3 rfl rfl rfl) ?_ | refine wl_f (f_loadb 4 rfl Tryz.underlying3 rfl rfl rfl) ?_ | refine wl_f (f_loadb 5 rfl Tryz.underlying3 rfl rfl rfl) ?_ | refine wl_f (f_loadb 6 rfl Tryz.underlying3 rfl rfl rfl) ?_)
        refine wl_f (f_sub rfl rfl (by omega)) ?_
        refine wl_f (f_nilCheck rfl) ?_
        refine wl_f (f_fieldAddr 1 rfl Tryz.underlying131 rfl rfl (by kernel_rfl)) ?_
        (first | refine wl_e0 (e_store0 (us := [_]) rfl rfl rfl (by kernel_rfl) (by simp [Value.oneCell']) rfl rfl) ?_ | refine wl_e0 (e_store1 (us := [_]) rfl rfl rfl (by kernel_rfl) (by simp [Value.oneCell']) rfl rfl) ?_ | refine wl_e0 (e_store2 (us := [_]) rfl rfl rfl (by kernel_rfl) (by simp [Value.oneCell']) rfl rfl) ?_ | refine wl_e0 (e_store3 (us := [_]) rfl rfl rfl (by kernel_rfl) (by simp [Value.oneCell']) rfl rfl) ?_)
        rintro _ _ w12_7 rfl
        refine wl_end [(4, _), (7, _)] ⟨rfl, rfl, trivial⟩ ?_
        refine w_seq ?_
        refine w_reg ?_
        (first | refine wl_f (f_loadsb (cs := [_, _]) 0 rfl Tryz.underlying116 rfl (by kernel_rfl) rfl rfl) ?_ | refine wl_f (f_loadsb (cs := [_, _]) 1 rfl Tryz.underlying116 rfl (by kernel_rfl) rfl rfl) ?_ | refine wl_f (f_loadsb (cs := [_, _]) 2 rfl Tryz.underlying116 rfl (by kernel_rfl) rfl rfl) ?_ | refine wl_f (f_loadsb (cs := [_, _]) 3 rfl Tryz.underlying116 rfl (by kernel_rfl) rfl rfl) ?_ | refine wl_f (f_loadsb (cs := [_, _]) 4 rfl Tryz.underlying116 rfl (by kernel_rfl) rfl rfl) ?_ | refine wl_f (f_loadsb (cs := [_, _]) 5 rfl Tryz.underlying116 rfl (by kernel_rfl) rfl rfl) ?_ | refine wl_f (f_loadsb (cs := [_, _]) 6 rfl Tryz.underlying116 rfl (by kernel_rfl) rfl rfl) ?_)
        refine wl_e0 (e_storeN 5 (us := [_, _]) rfl rfl rfl rfl (by kernel_rfl) (by simp [Value.oneCell']) rfl rfl) ?_
        rintro _ _ w13_1 rfl
        refine wl_f (f_assign rfl) ?_
        refine wl_end [(4, _), (5, _)] ⟨rfl, rfl, trivial⟩ ?_
        refine w_bun (H := [_, _]) [_, _, _, _, _] ?_
        refine w_ret ?_
        refine ⟨_, _, fun a ha hh => results_mix Tryz.results107 (rm_cell (cell_agg 1 rfl Tryz.underlying116 rfl (by kernel_rfl) rfl) (rm_tmp rfl rm_nil)) a ha _ hh, List.sublist_append_left [_] [_, _], ?_⟩
        refine .inr ⟨A, x, a, B, _, rfl, rfl, rfl, rfl, .slice (some ⟨g1, 0, .none⟩) used.length c1, .slice (some ⟨g2, 0, .none⟩) used.length c2, .slice (some ⟨g3, 0, .none⟩) used.length c3, .slice (some ⟨g4, 0, .none⟩) used.length c4, _, _, _, _, ?_, hc.remove (z := kBuc.zero)⟩
        have e1 : ((A ++ B).length : Int) = ((A ++ (x, a) :: B).length : Int) - 1 := by rw [hl1, List.length_append]; omega
        rw [chs, List.length_set, e1]
        rfl
end Go.Proofs.YtmagdjlcckgkpaaGreat

/- Linked lists: what the answers say. -/
namespace Go.Proofs.YtmagdjlcckgkpaaGreat
open Go.RowKit

section
variable {α : Type} {R : List (Nat × α) → Res → Prop} {K : VK α} {n : Nat} {A B : List (Nat × α)} {v a : α} {r : Res} {u : Value} {H : List Res} {y : Nat}
theorem NewG.ok (h : NewG R n A B v r u H) (hn : (A ++ B).length ≠ n) (x : Nat) (hx : Fresh (nodes (A ++ B)) x) : ∃ r', u = .tuple #[.int .i64 x, .int .i64 0] ∧ H = [r'] ∧ R (A ++ (x, v) :: B) r' := by
  rcases h with ⟨h, _⟩ | ⟨_, x', r', hx', rfl, rfl, hr⟩
  · exact absurd h hn
  · obtain rfl := hx.uniq hx'
    exact ⟨r', rfl, rfl, hr⟩
theorem isAt_split (A B : List (Nat × α)) (y : Nat) (a : α) : isAt (y : Int) (nodes (A ++ (y, a) :: B)) = true := by rw [isAt_nat, nodes_split]; simp
theorem BehindG.ok (h : BehindG R n (A ++ (y, a) :: B) y v r u H) (hnd : (nodes (A ++ (y, a) :: B)).Nodup) : NewG R n (A ++ [(y, a)]) B v r u H := by
  rcases h with ⟨h, _⟩ | ⟨A', y', a', B', he, hy, h⟩
  · rw [isAt_split] at h; cases h
  · obtain rfl : y = y' := by omega
    obtain ⟨rfl, rfl, rfl⟩ := node_uniq hnd he
    exact h
theorem RemG.ok (h : RemG K R (A ++ (y, a) :: B) y r u H) (hnd : (nodes (A ++ (y, a) :: B)).Nodup) : ∃ r', u = .tuple #[K.val a, .int .i64 0] ∧ H = [r'] ∧ R (A ++ B) r' := by
  rcases h with ⟨h, _⟩ | ⟨A', y', a', B', r', he, hy, rfl, rfl, hr⟩
  · rw [isAt_split] at h; cases h
  · obtain rfl : y = y' := by omega
    obtain ⟨rfl, rfl, rfl⟩ := node_uniq hnd he
    exact ⟨r', rfl, rfl, hr⟩
end

section
variable {α : Type} {R : List (Nat × α) → Res → Prop} {K : VK α} {n : Nat} {A B l : List (Nat × α)} {v a : α} {r : Res} {u : Value} {H : List Res} {y : Nat} {node : Int}
theorem NewG.some (h : NewG R n A B v r u H) (hr : R (A ++ B) r) : ∃ l' r', H = [r'] ∧ R l' r' := by
  rcases h with ⟨_, _, rfl⟩ | ⟨_, x, r', _, _, rfl, h⟩
  · exact ⟨_, _, rfl, hr⟩
  · exact ⟨_, _, rfl, h⟩
theorem BehindG.some (h : BehindG R n l node v r u H) (hr : R l r) : ∃ l' r', H = [r'] ∧ R l' r' := by
  rcases h with ⟨_, _, rfl⟩ | ⟨A, y, a, B, rfl, _, h⟩
  · exact ⟨_, _, rfl, hr⟩
  · exact h.some (by simpa using hr)
theorem RemG.some (h : RemG K R l node r u H) (hr : R l r) : ∃ l' r', H = [r'] ∧ R l' r' := by
  rcases h with ⟨_, _, rfl⟩ | ⟨A, y, a, B, r', _, _, _, rfl, h⟩
  · exact ⟨_, _, rfl, hr⟩
  · exact ⟨_, _, rfl, h⟩
theorem ValAt.ok (h : ValAt K (A ++ (y, a) :: B) y u) (hnd : (nodes (A ++ (y, a) :: B)).Nodup) : u = .tuple [K.val a, .int .i64 0].toArray := by
  rcases h with ⟨h, _⟩ | ⟨A', y', a', B', he, hy, rfl⟩
  · rw [isAt_split] at h; cases h
  · obtain rfl : y = y' := by omega
    obtain ⟨rfl, rfl, rfl⟩ := node_uniq hnd he
    rfl
theorem ChR.nd {b : Nat} (h : ChR K b n l r) : (nodes l).Nodup := by obtain ⟨_, _, _, _, _, _, _, _, _, hc⟩ := h; exact hc.nd
theorem ChR.len {b : Nat} (h : ChR K b n l r) : l.length ≤ n := by obtain ⟨_, _, _, _, _, _, _, _, _, hc⟩ := h; exact Nat.le_trans hc.len hc.le
end
theorem vcells_int (l : List Int) : vcells kInt l = iv l := flatMap_single _ l
end Go.Proofs.YtmagdjlcckgkpaaGreat

/- Orders by count: the plain facts. -/
namespace Go.Proofs.YtmagdjlcckgkpaaGreat
open Go.RowKit

/-- A bucket: its node, its count, the block of its list, the list. -/
abbrev Bk := Nat × Nat × Nat × List (Nat × Int)
def bks (S : List Bk) : List (Nat × (Nat × Option Nat)) := S.map fun s => (s.1, (s.2.1, some s.2.2.1))
def bfl (s : Bk) : List (Int × Nat) := s.2.2.2.map fun p => (p.2, s.2.1)
def flat (S : List Bk) : List (Int × Nat) := S.flatMap bfl
theorem bks_app (A B : List Bk) : bks (A ++ B) = bks A ++ bks B := by simp [bks]
theorem bks_cons (s : Bk) (B : List Bk) : bks (s :: B) = (s.1, (s.2.1, some s.2.2.1)) :: bks B := rfl
theorem flat_app (A B : List Bk) : flat (A ++ B) = flat A ++ flat B := by simp [flat]
theorem flat_cons (s : Bk) (B : List Bk) : flat (s :: B) = bfl s ++ flat B := by simp [flat]
theorem bks_len (S : List Bk) : (bks S).length = S.length := by simp [bks]
theorem nodes_bks (S : List Bk) : nodes (bks S) = S.map (·.1) := by simp [nodes, bks]
theorem flat_len {S : List Bk} (h : ∀ s ∈ S, s.2.2.2 ≠ []) : S.length ≤ (flat S).length := by
  induction S with
  | nil => simp
  | cons s S ih =>
    have h1 := List.length_pos_iff.2 (h s (List.mem_cons_self ..))
    have h2 := ih fun x hx => h x (List.mem_cons_of_mem _ hx)
    rw [flat_cons, List.length_append, List.length_cons, bfl, List.length_map]
    omega

/-! ### What is done to an order -/
abbrev Ord := List (Int × Nat)
def ids (l : Ord) : List Int := l.map (·.1)
def look : Ord → Int → Option Nat
  | [], _ => none
  | p :: l, id => if p.1 = id then some p.2 else look l id
def ins : Ord → Int → Nat → Ord
  | [], id, c => [(id, c)]
  | p :: l, id, c => if p.2 ≤ c then p :: ins l id c else (id, c) :: p :: l
def rem : Ord → Int → Ord
  | [], _ => []
  | p :: l, id => if p.1 = id then l else p :: rem l id
theorem look_none {l : Ord} {id : Int} : look l id = none ↔ id ∉ ids l := by
  induction l with
  | nil => simp [look, ids]
  | cons p l ih =>
    rw [look]
    split
    · rename_i h; simp [ids, h]
    · rename_i h; rw [ih]; simp [ids]; intro _; exact fun e => h e.symm
theorem look_app_left {A B : Ord} {id : Int} (h : id ∉ ids A) : look (A ++ B) id = look B id := by
  induction A with
  | nil => rfl
  | cons p A ih =>
    simp only [ids, List.map_cons, List.mem_cons, not_or] at h
    rw [List.cons_append, look, if_neg (fun e => h.1 e.symm)]
    exact ih h.2
theorem look_at {A B : Ord} {id : Int} {c : Nat} (h : id ∉ ids A) : look (A ++ (id, c) :: B) id = some c := by rw [look_app_left h, look, if_pos rfl]
theorem rem_at {A B : Ord} {id : Int} {c : Nat} (h : id ∉ ids A) : rem (A ++ (id, c) :: B) id = A ++ B := by
  induction A with
  | nil => simp [rem]
  | cons p A ih =>
    simp only [ids, List.map_cons, List.mem_cons, not_or] at h
    rw [List.cons_append, rem, if_neg (fun e => h.1 e.symm), ih h.2]
    rfl
theorem ins_at {A B : Ord} {id : Int} {c : Nat} (hA : ∀ p ∈ A, p.2 ≤ c) (hB : ∀ p ∈ B, c < p.2) : ins (A ++ B) id c = A ++ (id, c) :: B := by
  induction A with
  | nil =>
    cases B with
    | nil => rfl
    | cons p B =>
      have := hB p (List.mem_cons_self ..)
      rw [List.nil_append, ins, if_neg (by omega)]; rfl
  | cons p A ih =>
    have := hA p (List.mem_cons_self ..)
    rw [List.cons_append, ins, if_pos this, ih fun q hq => hA q (List.mem_cons_of_mem _ hq)]
    rfl
theorem ids_app (A B : Ord) : ids (A ++ B) = ids A ++ ids B := by simp [ids]

/-! ### Distinct numbers below a bound -/
theorem range_len {l : List Int} {n : Nat} (hn : l.Nodup) (hr : ∀ z ∈ l, 0 ≤ z ∧ z < n) : l.length ≤ n := by
  have h1 : (l.map Int.toNat).Nodup := by
    refine List.Pairwise.map _ ?_ (hn.imp_of_mem fun {a b} ha hb hab => (show ¬ a.toNat = b.toNat from fun e => ?_)) 
    · exact fun a b h => h
    · have := hr a ha; have := hr b hb; exact hab (by omega)
  have h2 := nodup_subset_len (l.map Int.toNat) (List.range n) h1 fun x hx => by
    obtain ⟨z, hz, rfl⟩ := List.mem_map.1 hx
    have := hr z hz
    exact List.mem_range.2 (by omega)
  simpa using h2
theorem range_lt {l : List Int} {n : Nat} {id : Int} (hn : l.Nodup) (hr : ∀ z ∈ l, 0 ≤ z ∧ z < n) (hi : 0 ≤ id ∧ id < n) (hd : id ∉ l) : l.length < n := by
  have := range_len (l := id :: l) (n := n) (List.nodup_cons.2 ⟨hd, hn⟩) (fun z hz => by
    rcases List.mem_cons.1 hz with rfl | hz
    · exact hi
    · exact hr z hz)
  rw [List.length_cons] at this
  omega

/-! ### The places -/
def pcell (o : Option (Nat × Nat)) : List Value := match o with
  | none => [.bool false, .int .i64 0, .int .i64 0]
  | some (x, y) => [.bool true, .int .i64 x, .int .i64 y]
def pcells (pl : List (Option (Nat × Nat))) : List Value := pl.flatMap pcell
theorem pcell_len (o : Option (Nat × Nat)) : (pcell o).length = 3 := by cases o <;> rfl
theorem pcells_len (pl : List (Option (Nat × Nat))) : (pcells pl).length = pl.length * 3 := by
  induction pl with
  | nil => rfl
  | cons o pl ih => simp only [pcells, List.flatMap_cons, List.length_append, pcell_len, List.length_cons] at ih ⊢; omega
theorem pcells_app (a b : List (Option (Nat × Nat))) : pcells (a ++ b) = pcells a ++ pcells b := by simp [pcells]
theorem pcells_get {pl : List (Option (Nat × Nat))} {i : Nat} {o : Option (Nat × Nat)} (h : pl[i]? = some o) : ((pcells pl).drop (0 + i * 3)).take 3 = pcell o := by
  obtain ⟨hi, rfl⟩ := List.getElem?_eq_some_iff.1 h
  have e : pl = pl.take i ++ pl[i] :: pl.drop (i + 1) := by rw [← List.drop_eq_getElem_cons hi, List.take_append_drop]
  have hl : (pcells (pl.take i)).length = i * 3 := by rw [pcells_len, List.length_take]; omega
  have e2 : pcells pl = pcells (pl.take i) ++ (pcell pl[i] ++ pcells (pl.drop (i + 1))) := by
    conv => lhs; rw [e]
    simp only [pcells, List.flatMap_append, List.flatMap_cons]
  rw [e2, Nat.zero_add, ← hl, List.drop_left, List.take_append_of_le_length (by rw [pcell_len]; exact Nat.le_refl _), List.take_of_length_le (by rw [pcell_len]; exact Nat.le_refl _)]
theorem pcells_set {pl : List (Option (Nat × Nat))} {i : Nat} (o : Option (Nat × Nat)) (hi : i < pl.length) : (pcells pl).take (0 + i * 3) ++ pcell o ++ (pcells pl).drop (0 + i * 3 + 3) = pcells (pl.set i o) := by
  have e : pl = pl.take i ++ pl[i] :: pl.drop (i + 1) := by rw [← List.drop_eq_getElem_cons hi, List.take_append_drop]
  have hl : (pcells (pl.take i)).length = i * 3 := by rw [pcells_len, List.length_take]; omega
  have e2 : pcells pl = pcells (pl.take i) ++ (pcell pl[i] ++ pcells (pl.drop (i + 1))) := by
    conv => lhs; rw [e]
    simp only [pcells, List.flatMap_append, List.flatMap_cons]
  have e3 : pl.set i o = pl.take i ++ o :: pl.drop (i + 1) := List.set_eq_take_append_cons_drop.trans (if_pos hi)
  have e4 : pcells (pl.set i o) = pcells (pl.take i) ++ (pcell o ++ pcells (pl.drop (i + 1))) := by
    rw [e3]; simp only [pcells, List.flatMap_append, List.flatMap_cons]
  rw [e4, e2, Nat.zero_add, ← hl, List.take_left, List.append_assoc]
  congr 2
  rw [← List.append_assoc, show (pcells (pl.take i)).length + 3 = (pcells (pl.take i) ++ pcell pl[i]).length by rw [List.length_append, pcell_len], List.drop_left]

/-- What holds of buckets and places. -/
structure RInv (n : Nat) (S : List Bk) (pl : List (Option (Nat × Nat))) : Prop where
  len : pl.length = n
  asc : (S.map fun s => s.2.1).Pairwise (· < ·)
  ne : ∀ s ∈ S, s.2.2.2 ≠ []
  nd : (S.map (·.1)).Nodup
  ndi : ∀ s ∈ S, (nodes s.2.2.2).Nodup
  nid : (ids (flat S)).Nodup
  rng : ∀ z ∈ ids (flat S), 0 ≤ z ∧ z < n
  at_ : ∀ s ∈ S, ∀ p ∈ s.2.2.2, pl[p.2.toNat]? = some (some (s.1, p.1))
  no : ∀ id : Nat, id < n → (id : Int) ∉ ids (flat S) → pl[id]? = some none
  cnt : ∀ s ∈ S, s.2.1 ≤ 9223372036854775808
theorem RInv.new (n : Nat) : RInv n [] (List.replicate n none) :=
  ⟨List.length_replicate, List.Pairwise.nil, by simp, List.nodup_nil, by simp, List.nodup_nil, by simp [flat, ids], by simp, fun id h _ => by simp [h], by simp⟩
end Go.Proofs.YtmagdjlcckgkpaaGreat

/- Orders by count: making one, of, has. -/
namespace Go.Proofs.YtmagdjlcckgkpaaGreat
open Go.RowKit

theorem t117 : SlT Tryz.prog 117 158 3 24 (.agg #[.bool false, .int .i64 0, .int .i64 0]) := .mk' Tryz.underlying117 (by kernel_rfl) rfl (by decide)
/-- The lists of the buckets. -/
def IdsR (n : Nat) : List Bk → List Res → Prop
  | [], [] => True
  | s :: S, r :: rs => ChR kInt s.2.2.1 n s.2.2.2 r ∧ IdsR n S rs
  | _, _ => False
theorem IdsR.split {n : Nat} : ∀ {A B : List Bk} {rs : List Res}, IdsR n (A ++ B) rs → ∃ ra rb, rs = ra ++ rb ∧ IdsR n A ra ∧ IdsR n B rb
  | [], B, rs, h => ⟨[], rs, rfl, trivial, h⟩
  | s :: A, B, [], h => h.elim
  | s :: A, B, r :: rs, h => by
    obtain ⟨ra, rb, rfl, h1, h2⟩ := IdsR.split h.2
    exact ⟨r :: ra, rb, rfl, ⟨h.1, h1⟩, h2⟩
theorem IdsR.join {n : Nat} : ∀ {A B : List Bk} {ra rb : List Res}, IdsR n A ra → IdsR n B rb → IdsR n (A ++ B) (ra ++ rb)
  | [], B, [], rb, _, h => h
  | s :: A, B, r :: ra, rb, h1, h2 => ⟨h1.1, IdsR.join h1.2 h2⟩
  | s :: A, B, [], rb, h1, _ => h1.elim
  | [], B, r :: ra, rb, h1, _ => h1.elim
theorem IdsR.cons_inv {n : Nat} {s : Bk} {S : List Bk} {rs : List Res} (h : IdsR n (s :: S) rs) : ∃ r rb, rs = r :: rb ∧ ChR kInt s.2.2.1 n s.2.2.2 r ∧ IdsR n S rb := by
  cases rs with
  | nil => exact h.elim
  | cons r rs => exact ⟨r, rs, rfl, h.1, h.2⟩

def rkg (b n len B : Nat) (pV : Value) (pl : List (Option (Nat × Nat))) (rB : Res) (rs : List Res) : List Res :=
  [blk b [.int .i64 (n : Int), .int .i64 (len : Int), .pointer (some ⟨B, 0, .none⟩), pV] 119, row pV 158 3 n (pcells pl), rB, bun rs]
abbrev rks (b n : Nat) (S : List Bk) (B : Nat) (pV : Value) (pl : List (Option (Nat × Nat))) (rB : Res) (rs : List Res) : List Res := rkg b n (flat S).length B pV pl rB rs
/-- An order with its buckets. -/
def RkR (b n : Nat) (S : List Bk) (r : Res) : Prop :=
  1 ≤ n ∧ n ≤ 8192 ∧ ∃ B pV pl rB rs, r = bun (rks b n S B pV pl rB rs) ∧ ChR kBuc B n (bks S) rB ∧ IdsR n S rs ∧ RInv n S pl
/-- An order. -/
def RkO (b n : Nat) (l : Ord) (r : Res) : Prop := ∃ S, l = flat S ∧ RkR b n S r

theorem madeCells3 (n : Nat) : (madeCells (Value.agg #[.bool false, .int .i64 0, .int .i64 0]).cells (n * 3)).toList = pcells (List.replicate n none) := by
  have h : ∀ n, ((List.range (n * 3)).map fun i => (#[Value.bool false, .int .i64 0, .int .i64 0] : Array Value)[i % 3]!) = pcells (List.replicate n none) := by
    intro n
    induction n with
    | zero => rfl
    | succ n ih =>
      rw [Nat.succ_mul, List.replicate_succ', pcells_app, ← ih, List.range_succ, List.range_succ, List.range_succ]
      simp only [List.map_append, List.map_cons, List.map_nil, List.append_assoc]
      congr 1
      have e0 : (n * 3) % 3 = 0 := by omega
      have e1 : (n * 3 + 1) % 3 = 1 := by omega
      have e2 : (n * 3 + 2) % 3 = 2 := by omega
      rw [e0, e1, e2]
      rfl
  rw [← h n]
  simp only [madeCells, Array.toList_map, Array.toList_range]
  rfl

theorem build_ranks (n : Int) (B : Nat) (A : Option Addr) (l c : Nat) (w : World) : (Instr.build 119 [(0, .int .i64 n), (2, .pointer (some ⟨B, 0, .none⟩)), (3, .slice A l c)].toArray).run Tryz.prog w =
    .ok (.agg [.int .i64 n, .int .i64 0, .pointer (some ⟨B, 0, .none⟩), .slice A l c].toArray) w := by kernel_rfl

theorem rknew_bad (n : Int) (w : World) (hn : n < 1 ∨ 8192 < n) : Spec Tryz.prog 46 [.int .i64 n] w Nil fun r H => r = .tuple #[.pointer .none, .int .i64 1] ∧ H = [] := by
  refine enter (n := 20) Tryz.func46 rfl rfl [(0, _)] rfl ⟨rfl, trivial⟩ (Holds.start _ _) ?_
  refine w_seq ?_
  refine w_reg ?_
  refine wl_f (f_assign rfl) ?_
  refine wl_f (f_assign rfl) ?_
  refine wl_end [(0, _)] ⟨rfl, trivial⟩ ?_
  refine w_seq ?_
  refine w_reg ?_
  refine wl_f (f_move rfl) ?_
  refine wl_e (e_call0 rfl Tryz.func52 (by kernel_rfl) (fun w hh => bnew_spec n w)) ?_
  rintro _ _ w1 ⟨_, rfl, ⟨_, rfl, rfl⟩ | ⟨k, B, rB, rfl, h1, h2, _⟩⟩
  rotate_left
  · omega
  refine wl_f (f_move rfl) ?_
  refine wl_f (f_extract rfl rfl) ?_
  refine wl_f (f_extract rfl rfl) ?_
  refine wl_f (f_assign rfl) ?_
  refine wl_f (f_assign rfl) ?_
  refine wl_end [(0, _), (4, _), (5, _)] ⟨rfl, rfl, rfl, trivial⟩ ?_
  refine w_seq ?_
  refine w_seq ?_
  refine w_reg ?_
  refine wl_f (f_move rfl) ?_
  refine wl_f (f_neq rfl rfl) ?_
  refine wl_end [(0, _), (4, _), (5, _), (12, _)] ⟨rfl, rfl, rfl, rfl, trivial⟩ ?_
  refine w_ifb rfl (fun _ => ?_) (fun h => absurd rfl h)
  refine w_seq ?_
  refine w_reg ?_
  refine wl_f (f_move rfl) ?_
  refine wl_f (f_assign rfl) ?_
  refine wl_f (f_assign rfl) ?_
  refine wl_end [(2, _), (3, _)] ⟨rfl, rfl, trivial⟩ ?_
  refine w_ret ?_
  refine ⟨_, _, fun a ha hh => results_tmps Tryz.results46 rfl a ha _, List.Sublist.refl _, ?_⟩
  exact ⟨rfl, rfl⟩

theorem rknew_ok (n : Nat) (w : World) (h1 : 1 ≤ n) (h2 : n ≤ 8192) : Spec Tryz.prog 46 [.int .i64 n] w Nil fun r H => ∃ b r', r = .tuple #[.pointer (some ⟨b, 0, .none⟩), .int .i64 0] ∧ H = [r'] ∧ RkR b n [] r' := by
  refine enter (n := 20) Tryz.func46 rfl rfl [(0, _)] rfl ⟨rfl, trivial⟩ (Holds.start _ _) ?_
  refine w_seq ?_
  refine w_reg ?_
  refine wl_f (f_assign rfl) ?_
  refine wl_f (f_assign rfl) ?_
  refine wl_end [(0, _)] ⟨rfl, trivial⟩ ?_
  refine w_seq ?_
  refine w_reg ?_
  refine wl_f (f_move rfl) ?_
  refine wl_e (e_call0 rfl Tryz.func52 (by kernel_rfl) (fun w hh => bnew_spec n w)) ?_
  rintro _ _ w1 ⟨_, rfl, ⟨_, rfl, rfl⟩ | ⟨k, B, rB, hk, _, _, rfl, rfl, hrB⟩⟩
  · omega
  obtain rfl : n = k := by omega
  refine wl_f (f_move rfl) ?_
  refine wl_f (f_extract rfl rfl) ?_
  refine wl_f (f_extract rfl rfl) ?_
  refine wl_f (f_assign rfl) ?_
  refine wl_f (f_assign rfl) ?_
  refine wl_end [(0, _), (4, _), (5, _)] ⟨rfl, rfl, rfl, trivial⟩ ?_
  refine w_seq ?_
  refine w_seq ?_
  refine w_reg ?_
  refine wl_f (f_move rfl) ?_
  refine wl_f (f_neq rfl rfl) ?_
  refine wl_end [(0, _), (4, _), (5, _), (12, _)] ⟨rfl, rfl, rfl, rfl, trivial⟩ ?_
  refine w_ifb rfl (fun h => absurd h (by simp)) (fun _ => ?_)
  refine w_skip ?_
  refine w_seq ?_
  refine w_reg ?_
  refine wl_f (f_move rfl) ?_
  refine wl_f (f_move rfl) ?_
  refine wl_f (f_move rfl) ?_
  refine wl_e (e_make (l := n) (cs := pcells (List.replicate n none)) rfl rfl t117 (by omega) (by omega) (madeCells3 n).symm) ?_
  rintro _ _ w4_3 ⟨b4_3, rfl, rfl⟩
  refine wl_f (f_build rfl (fun w => build_ranks _ _ _ _ _ w)) ?_
  refine wl_e (e_box (cs := [_, _, _, _]) rfl rfl) ?_
  rintro _ _ w4_5 ⟨b4_5, rfl, rfl⟩
  refine wl_f (f_assign rfl) ?_
  refine wl_f (f_assign rfl) ?_
  refine wl_end [(2, _), (3, _)] ⟨rfl, rfl, trivial⟩ ?_
  refine w_bun0 ?_
  refine w_pick [1, 1, 1, 0] rfl ?_
  refine w_bun (H := []) [_, _, _, _] ?_
  refine w_ret ?_
  refine ⟨_, _, fun a ha hh => results_tmps Tryz.results46 rfl a ha _, List.Sublist.refl _, ?_⟩
  exact ⟨_, _, rfl, rfl, h1, h2, B, _, _, rB, [], rfl, hrB, trivial, RInv.new n⟩
end Go.Proofs.YtmagdjlcckgkpaaGreat
