/- Linked lists: a node is taken out; all values. -/
import Derived.Test.YtbcfdgnpdaaleaaC8
namespace Go.Proofs.Ytbcfdgnpdaaleaa
open Go.RowKit

/-- What is left where a node is taken out. -/
def RemG {α : Type} (K : VK α) (R : List (Nat × α) → Res → Prop) (l : List (Nat × α)) (node : Int) (r : Res) (u : Value) (H : List Res) : Prop :=
  (isAt node (nodes l) = false ∧ u = .tuple #[K.val K.zero, .int .i64 8] ∧ H = [r]) ∨ ∃ A y a B r', l = A ++ (y, a) :: B ∧ node = (y : Nat) ∧ u = .tuple #[K.val a, .int .i64 0] ∧ H = [r'] ∧ R (A ++ B) r'
abbrev RemAt {α : Type} (K : VK α) (b n : Nat) (l : List (Nat × α)) (node : Int) (r : Res) (u : Value) (H : List Res) : Prop := RemG K (ChR K b n) l node r u H

theorem vcells_set' {α : Type} (K : VK α) (hK : ∀ a, (K.cells a).length = K.sz) {l : List α} {x : Nat} (a : α) (hx : x < l.length) :
    (vcells K l).take (0 + x * K.sz) ++ K.cells a ++ (vcells K l).drop (0 + x * K.sz + (K.cells a).length) = vcells K (l.set x a) := by
  rw [hK]; exact vcells_set K hK a hx

set_option maxHeartbeats 4000000 in
theorem iRemove_spec (b n : Nat) (l : List (Nat × Int)) (node : Int) (r : Res) (w : World) (hn : n ≤ 8192) (hr : ChR kInt b n l r) (hs : Holds w r.foot [r] w) :
    Spec Try.prog 54 [.pointer (some ⟨b, 0, .none⟩), .int .i64 node] w r.foot fun u H => RemAt kInt b n l node r u H := by
  refine enter (n := 83) Try.func54 rfl rfl [(0, _), (1, _)] rfl ⟨rfl, rfl, trivial⟩ hs ?_
  refine w_seq ?_
  refine w_reg ?_
  refine wl_f (f_assign rfl) ?_
  refine wl_f (f_assign rfl) ?_
  refine wl_end [(0, _), (1, _)] ⟨rfl, rfl, trivial⟩ ?_
  refine w_seq ?_
  refine w_reg ?_
  refine wl_f (f_assign rfl) ?_
  refine wl_end [(0, _), (1, _), (6, _)] ⟨rfl, rfl, rfl, trivial⟩ ?_
  refine w_seq ?_
  refine w_seq ?_
  refine w_reg ?_
  refine wl_f (f_move rfl) ?_
  refine wl_f (f_move rfl) ?_
  refine wl_e (e_call1 r [] rfl Try.func70 (by kernel_rfl) (List.Perm.refl _) (fun w hh hs => ihas_spec b n l r node w hr hs)) ?_
  rintro _ _ w1 ⟨_, rfl, rfl, rfl⟩
  refine wl_f (f_not rfl rfl) ?_
  refine wl_end [(0, _), (1, _), (6, _), (13, _)] ⟨rfl, rfl, rfl, rfl, trivial⟩ ?_
  refine w_ifb rfl (fun hc1 => ?_) (fun hc1 => ?_)
  · skip
    refine w_seq ?_
    refine w_reg ?_
    refine wl_f (f_move rfl) ?_
    refine wl_f (f_assign rfl) ?_
    refine wl_f (f_assign rfl) ?_
    refine wl_end [(4, _), (5, _)] ⟨rfl, rfl, trivial⟩ ?_
    refine w_ret ?_
    refine ⟨_, _, fun a ha hh => results_tmps Try.results54 rfl a ha _, List.Sublist.refl _, ?_⟩
    exact .inl ⟨not_isAt hc1, rfl, rfl⟩
  · skip
    obtain ⟨x, rfl, hx⟩ := isAt_some (is_isAt hc1)
    obtain ⟨A, a, B, rfl⟩ := split_node hx
    obtain ⟨uV, nV, pV, vV, used, nx, pv, vs, rfl, hc⟩ := id hr
    have hlt := hc.atlt
    have hle := hc.le
    have hlx := hc.lx
    have hlp := hc.lp
    have hlv := hc.lv
    have hvl := vcells_len kInt kInt_len vs
    have hln := hc.len
    have hxn := hc.next
    have hxp := hc.prev
    have hnd := hc.nd
    have hl1 : (A ++ (x, a) :: B).length = A.length + B.length + 1 := by simp; omega
    refine w_unb (H := []) (chs kInt b n _ uV nV pV vV used nx pv vs) ?_
    refine w_with fun hh => ?_
    obtain ⟨g1, c1, rfl⟩ := row_form hh (i := 1) rfl (by omega)
    obtain ⟨g2, c2, rfl⟩ := row_form hh (i := 2) rfl (by omega)
    obtain ⟨g3, c3, rfl⟩ := row_form hh (i := 3) rfl (by omega)
    obtain ⟨g4, c4, rfl⟩ := row_form hh (i := 4) rfl (by omega)
    clear hh
    refine w_skip ?_
    refine w_seq ?_
    refine w_draw [(0, true), (1, true), (2, true), (3, true), (4, true), (5, true), (6, true), (7, true), (8, true), (9, true), (10, true), (11, true), (12, true), (13, true), (14, true), (15, true), (16, true), (17, true), (18, true), (19, true), (20, true), (21, true), (22, true), (23, true)] (_) ([]) mixed (by kernel_rfl) (by kernel_rfl) rfl (perm_all _) (fun w4_ => ?_)
    refine wd_f rfl (f_move rfl) ?_
    refine wd_f rfl (f_nilCheck rfl) ?_
    refine wd_f rfl (f_fieldAddr 7 rfl Try.underlying133 rfl rfl (by kernel_rfl)) ?_
    (first | refine wd_f rfl (f_loadb 0 rfl Try.underlying22 rfl rfl rfl) ?_ | refine wd_f rfl (f_loadb 1 rfl Try.underlying22 rfl rfl rfl) ?_ | refine wd_f rfl (f_loadb 2 rfl Try.underlying22 rfl rfl rfl) ?_ | refine wd_f rfl (f_loadb 3 rfl Try.underlying22 rfl rfl rfl) ?_ | refine wd_f rfl (f_loadb 4 rfl Try.underlying22 rfl rfl rfl) ?_ | refine wd_f rfl (f_loadb 5 rfl Try.underlying22 rfl rfl rfl) ?_ | refine wd_f rfl (f_loadb 6 rfl Try.underlying22 rfl rfl rfl) ?_)
    refine wd_f rfl (f_move rfl) ?_
    refine wd_f rfl (f_indexAddr 1 (i := x) rfl rfl Try.underlying22 (by kernel_rfl) rfl hlt) ?_
    refine wd_f rfl (f_loadr1 (v := .int .i64 a) 4 rfl Try.underlying3 rfl rfl (vcells_get kInt kInt_len hc.at)) ?_
    refine wd_f rfl (f_move rfl) ?_
    refine wd_f rfl (f_nilCheck rfl) ?_
    refine wd_f rfl (f_fieldAddr 6 rfl Try.underlying133 rfl rfl (by kernel_rfl)) ?_
    (first | refine wd_f rfl (f_loadb 0 rfl Try.underlying22 rfl rfl rfl) ?_ | refine wd_f rfl (f_loadb 1 rfl Try.underlying22 rfl rfl rfl) ?_ | refine wd_f rfl (f_loadb 2 rfl Try.underlying22 rfl rfl rfl) ?_ | refine wd_f rfl (f_loadb 3 rfl Try.underlying22 rfl rfl rfl) ?_ | refine wd_f rfl (f_loadb 4 rfl Try.underlying22 rfl rfl rfl) ?_ | refine wd_f rfl (f_loadb 5 rfl Try.underlying22 rfl rfl rfl) ?_ | refine wd_f rfl (f_loadb 6 rfl Try.underlying22 rfl rfl rfl) ?_)
    refine wd_f rfl (f_move rfl) ?_
    refine wd_f rfl (f_indexAddr 1 (i := x) rfl rfl Try.underlying22 (by kernel_rfl) rfl hlt) ?_
    refine wd_f rfl (f_loadr (v := .int .i64 (hdE (-1) (nodes A).reverse)) 3 rfl Try.underlying3 rfl rfl (map_get (Value.int .i64) hxp)) ?_
    refine wd_f rfl (f_move rfl) ?_
    refine wd_f rfl (f_nilCheck rfl) ?_
    refine wd_f rfl (f_fieldAddr 5 rfl Try.underlying133 rfl rfl (by kernel_rfl)) ?_
    (first | refine wd_f rfl (f_loadb 0 rfl Try.underlying22 rfl rfl rfl) ?_ | refine wd_f rfl (f_loadb 1 rfl Try.underlying22 rfl rfl rfl) ?_ | refine wd_f rfl (f_loadb 2 rfl Try.underlying22 rfl rfl rfl) ?_ | refine wd_f rfl (f_loadb 3 rfl Try.underlying22 rfl rfl rfl) ?_ | refine wd_f rfl (f_loadb 4 rfl Try.underlying22 rfl rfl rfl) ?_ | refine wd_f rfl (f_loadb 5 rfl Try.underlying22 rfl rfl rfl) ?_ | refine wd_f rfl (f_loadb 6 rfl Try.underlying22 rfl rfl rfl) ?_)
    refine wd_f rfl (f_move rfl) ?_
    refine wd_f rfl (f_indexAddr 1 (i := x) rfl rfl Try.underlying22 (by kernel_rfl) rfl hlt) ?_
    refine wd_f rfl (f_loadr (v := .int .i64 (hdE (-1) (nodes B))) 2 rfl Try.underlying3 rfl rfl (map_get (Value.int .i64) hxn)) ?_
    refine wd_f rfl (f_assign rfl) ?_
    refine wd_f rfl (f_assign rfl) ?_
    refine wd_f rfl (f_assign rfl) ?_
    refine wd_end [(0, _), (1, _), (6, _), (7, _), (8, _), (9, _)] ⟨rfl, rfl, rfl, rfl, rfl, rfl, trivial⟩ ?_
    refine w_seq ?_
    refine w_seq ?_
    refine w_reg ?_
    refine wl_f (f_move rfl) ?_
    refine wl_f (f_eql rfl rfl) ?_
    refine wl_end [(0, _), (1, _), (6, _), (7, _), (8, _), (9, _), (37, _)] ⟨rfl, rfl, rfl, rfl, rfl, rfl, rfl, trivial⟩ ?_
    refine w_post (fun m H w' => m = [(0, .pointer (some ⟨b, 0, .none⟩)), (1, .int .i64 x), (6, .int .i64 0), (7, .int .i64 a), (8, .int .i64 (hdE (-1) (nodes A).reverse)), (9, .int .i64 (hdE (-1) (nodes B)))] ∧
      H = [blk b [.int .i64 (n : Int), .int .i64 ((A ++ (x, a) :: B).length : Int), .int .i64 (hdE (-1) (nodes (A ++ B))), .int .i64 (hdE (-1) (nodes (A ++ (x, a) :: B)).reverse), .slice (some ⟨g1, 0, .none⟩) used.length c1, .slice (some ⟨g2, 0, .none⟩) used.length c2, .slice (some ⟨g3, 0, .none⟩) used.length c3, .slice (some ⟨g4, 0, .none⟩) used.length c4] kInt.list,
        row (.slice (some ⟨g1, 0, .none⟩) used.length c1) 4 1 used.length (bov used), row (.slice (some ⟨g2, 0, .none⟩) used.length c2) 3 1 used.length (iv (setLast nx (nodes A) (hdE (-1) (nodes B)))),
        row (.slice (some ⟨g3, 0, .none⟩) used.length c3) 3 1 used.length (iv pv), row (.slice (some ⟨g4, 0, .none⟩) used.length c4) kInt.elem kInt.sz used.length (vcells kInt vs)]) ?_ ?_
    · skip
      refine w_ifd rfl (fun hc2 => ?_) (fun hc2 => ?_)
      · skip
        have hA : A = [] := by simpa using hdE_nil hc2
        subst hA
        refine w_reg ?_
        refine wl_f (f_move rfl) ?_
        refine wl_f (f_move rfl) ?_
        refine wl_f (f_nilCheck rfl) ?_
        refine wl_f (f_fieldAddr 2 rfl Try.underlying133 rfl rfl (by kernel_rfl)) ?_
        (first | refine wl_e0 (e_store0 (us := [_]) rfl rfl rfl (by kernel_rfl) (by simp [Value.oneCell']) rfl rfl) ?_ | refine wl_e0 (e_store1 (us := [_]) rfl rfl rfl (by kernel_rfl) (by simp [Value.oneCell']) rfl rfl) ?_ | refine wl_e0 (e_store2 (us := [_]) rfl rfl rfl (by kernel_rfl) (by simp [Value.oneCell']) rfl rfl) ?_ | refine wl_e0 (e_store3 (us := [_]) rfl rfl rfl (by kernel_rfl) (by simp [Value.oneCell']) rfl rfl) ?_)
        rintro _ _ w6_4 rfl
        refine wl_end [(0, _), (1, _), (6, _), (7, _), (8, _), (9, _)] ⟨rfl, rfl, rfl, rfl, rfl, rfl, trivial⟩ ?_
        exact ⟨rfl, rfl⟩
      · skip
        obtain ⟨y, t, hA⟩ := hdE_cons hc2
        have hal : y < used.length := hc.lt y (by
          have : y ∈ (nodes A).reverse := by rw [hA]; simp
          rw [nodes, List.map_append]
          exact List.mem_append_left _ (List.mem_reverse.1 this))
        have hA2 : hdE (-1) (nodes (A ++ (x, a) :: B)) = hdE (-1) (nodes (A ++ B)) := by
          cases A with
          | nil => simp at hA
          | cons p A => rfl
        refine w_reg ?_
        refine wl_f (f_move rfl) ?_
        refine wl_f (f_nilCheck rfl) ?_
        refine wl_f (f_fieldAddr 5 rfl Try.underlying133 rfl rfl (by kernel_rfl)) ?_
        (first | refine wl_f (f_loadb 0 rfl Try.underlying22 rfl rfl rfl) ?_ | refine wl_f (f_loadb 1 rfl Try.underlying22 rfl rfl rfl) ?_ | refine wl_f (f_loadb 2 rfl Try.underlying22 rfl rfl rfl) ?_ | refine wl_f (f_loadb 3 rfl Try.underlying22 rfl rfl rfl) ?_ | refine wl_f (f_loadb 4 rfl Try.underlying22 rfl rfl rfl) ?_ | refine wl_f (f_loadb 5 rfl Try.underlying22 rfl rfl rfl) ?_ | refine wl_f (f_loadb 6 rfl Try.underlying22 rfl rfl rfl) ?_)
        refine wl_f (f_move rfl) ?_
        refine wl_f (f_move rfl) ?_
        refine wl_f (f_indexAddr 1 (i := y) rfl rfl Try.underlying22 (by kernel_rfl) (by rw [hA]; rfl) hal) ?_
        refine wl_e0 (e_storerN 2 (us := [_]) (xs' := iv (nx.set y (hdE (-1) (nodes B)))) rfl rfl rfl rfl (by kernel_rfl) (by simp [Value.oneCell']) (by simp [iv]; omega) (map_set (Value.int .i64) _ (by omega))) ?_
        rintro _ _ w7_7 rfl
        refine wl_end [(0, _), (1, _), (6, _), (7, _), (8, _), (9, _)] ⟨rfl, rfl, rfl, rfl, rfl, rfl, trivial⟩ ?_
        exact ⟨rfl, by rw [setLast_cons hA, ← hA2]; rfl⟩
    · rintro _ _ w ⟨rfl, rfl⟩
      refine w_seq ?_
      refine w_seq ?_
      refine w_reg ?_
      refine wl_f (f_move rfl) ?_
      refine wl_f (f_eql rfl rfl) ?_
      refine wl_end [(0, _), (1, _), (6, _), (7, _), (8, _), (9, _), (50, _)] ⟨rfl, rfl, rfl, rfl, rfl, rfl, rfl, trivial⟩ ?_
      refine w_post (fun m H w' => m = [(0, .pointer (some ⟨b, 0, .none⟩)), (1, .int .i64 x), (6, .int .i64 0), (7, .int .i64 a)] ∧
        H = [blk b [.int .i64 (n : Int), .int .i64 ((A ++ (x, a) :: B).length : Int), .int .i64 (hdE (-1) (nodes (A ++ B))), .int .i64 (hdE (-1) (nodes (A ++ B)).reverse), .slice (some ⟨g1, 0, .none⟩) used.length c1, .slice (some ⟨g2, 0, .none⟩) used.length c2, .slice (some ⟨g3, 0, .none⟩) used.length c3, .slice (some ⟨g4, 0, .none⟩) used.length c4] kInt.list,
          row (.slice (some ⟨g1, 0, .none⟩) used.length c1) 4 1 used.length (bov used), row (.slice (some ⟨g2, 0, .none⟩) used.length c2) 3 1 used.length (iv (setLast nx (nodes A) (hdE (-1) (nodes B)))),
          row (.slice (some ⟨g3, 0, .none⟩) used.length c3) 3 1 used.length (iv (setLast pv (nodes B).reverse (hdE (-1) (nodes A).reverse))), row (.slice (some ⟨g4, 0, .none⟩) used.length c4) kInt.elem kInt.sz used.length (vcells kInt vs)]) ?_ ?_
      · skip
        refine w_ifd rfl (fun hc3 => ?_) (fun hc3 => ?_)
        · skip
          have hB : B = [] := by simpa using hdE_nil hc3
          subst hB
          refine w_reg ?_
          refine wl_f (f_move rfl) ?_
          refine wl_f (f_move rfl) ?_
          refine wl_f (f_nilCheck rfl) ?_
          refine wl_f (f_fieldAddr 3 rfl Try.underlying133 rfl rfl (by kernel_rfl)) ?_
          (first | refine wl_e0 (e_store0 (us := [_]) rfl rfl rfl (by kernel_rfl) (by simp [Value.oneCell']) rfl rfl) ?_ | refine wl_e0 (e_store1 (us := [_]) rfl rfl rfl (by kernel_rfl) (by simp [Value.oneCell']) rfl rfl) ?_ | refine wl_e0 (e_store2 (us := [_]) rfl rfl rfl (by kernel_rfl) (by simp [Value.oneCell']) rfl rfl) ?_ | refine wl_e0 (e_store3 (us := [_]) rfl rfl rfl (by kernel_rfl) (by simp [Value.oneCell']) rfl rfl) ?_)
          rintro _ _ w9_4 rfl
          refine wl_end [(0, _), (1, _), (6, _), (7, _)] ⟨rfl, rfl, rfl, rfl, trivial⟩ ?_
          have e : hdE (-1) (nodes A).reverse = hdE (-1) (nodes (A ++ [])).reverse := by rw [List.append_nil]
          exact ⟨rfl, by rw [← e]; rfl⟩
        · skip
          obtain ⟨y, t, hB⟩ := hdE_cons hc3
          have hal : y < used.length := hc.lt y (by
            have : y ∈ nodes B := by rw [hB]; simp
            rw [nodes_split]
            exact List.mem_append_right _ (List.mem_cons_of_mem _ this))
          have hB2 : hdE (-1) (nodes (A ++ (x, a) :: B)).reverse = hdE (-1) (nodes (A ++ B)).reverse := by
            rcases List.eq_nil_or_concat B with rfl | ⟨B', p, rfl⟩
            · simp at hB
            · simp [hdE]
          refine w_reg ?_
          refine wl_f (f_move rfl) ?_
          refine wl_f (f_nilCheck rfl) ?_
          refine wl_f (f_fieldAddr 6 rfl Try.underlying133 rfl rfl (by kernel_rfl)) ?_
          (first | refine wl_f (f_loadb 0 rfl Try.underlying22 rfl rfl rfl) ?_ | refine wl_f (f_loadb 1 rfl Try.underlying22 rfl rfl rfl) ?_ | refine wl_f (f_loadb 2 rfl Try.underlying22 rfl rfl rfl) ?_ | refine wl_f (f_loadb 3 rfl Try.underlying22 rfl rfl rfl) ?_ | refine wl_f (f_loadb 4 rfl Try.underlying22 rfl rfl rfl) ?_ | refine wl_f (f_loadb 5 rfl Try.underlying22 rfl rfl rfl) ?_ | refine wl_f (f_loadb 6 rfl Try.underlying22 rfl rfl rfl) ?_)
          refine wl_f (f_move rfl) ?_
          refine wl_f (f_move rfl) ?_
          refine wl_f (f_indexAddr 1 (i := y) rfl rfl Try.underlying22 (by kernel_rfl) (by rw [hB]; rfl) hal) ?_
          refine wl_e0 (e_storerN 3 (us := [_]) (xs' := iv (pv.set y (hdE (-1) (nodes A).reverse))) rfl rfl rfl rfl (by kernel_rfl) (by simp [Value.oneCell']) (by simp [iv]; omega) (map_set (Value.int .i64) _ (by omega))) ?_
          rintro _ _ w10_7 rfl
          refine wl_end [(0, _), (1, _), (6, _), (7, _)] ⟨rfl, rfl, rfl, rfl, trivial⟩ ?_
          exact ⟨rfl, by rw [setLast_cons (N := (nodes B).reverse) (by rw [List.reverse_reverse]; exact hB), ← hB2]; rfl⟩
      · rintro _ _ w ⟨rfl, rfl⟩
        refine w_seq ?_
        refine w_draw [(0, true), (1, true), (2, true), (3, true), (4, true), (5, true), (6, true), (7, true), (8, true), (9, true), (10, true), (11, true), (12, false), (13, true), (14, false)] ([_]) ([_, _, _, _]) mixed (by kernel_rfl) (by kernel_rfl) rfl (List.Perm.refl _) (fun w11_ => ?_)
        refine wd_f rfl (f_move rfl) ?_
        refine wd_f rfl (f_nilCheck rfl) ?_
        refine wd_f rfl (f_fieldAddr 4 rfl Try.underlying133 rfl rfl (by kernel_rfl)) ?_
        (first | refine wd_f rfl (f_loadb 0 rfl Try.underlying115 rfl rfl rfl) ?_ | refine wd_f rfl (f_loadb 1 rfl Try.underlying115 rfl rfl rfl) ?_ | refine wd_f rfl (f_loadb 2 rfl Try.underlying115 rfl rfl rfl) ?_ | refine wd_f rfl (f_loadb 3 rfl Try.underlying115 rfl rfl rfl) ?_ | refine wd_f rfl (f_loadb 4 rfl Try.underlying115 rfl rfl rfl) ?_ | refine wd_f rfl (f_loadb 5 rfl Try.underlying115 rfl rfl rfl) ?_ | refine wd_f rfl (f_loadb 6 rfl Try.underlying115 rfl rfl rfl) ?_)
        refine wd_f rfl (f_move rfl) ?_
        refine wd_f rfl (f_move rfl) ?_
        refine wd_f rfl (f_nilCheck rfl) ?_
        refine wd_f rfl (f_fieldAddr 7 rfl Try.underlying133 rfl rfl (by kernel_rfl)) ?_
        (first | refine wd_f rfl (f_loadb 0 rfl Try.underlying22 rfl rfl rfl) ?_ | refine wd_f rfl (f_loadb 1 rfl Try.underlying22 rfl rfl rfl) ?_ | refine wd_f rfl (f_loadb 2 rfl Try.underlying22 rfl rfl rfl) ?_ | refine wd_f rfl (f_loadb 3 rfl Try.underlying22 rfl rfl rfl) ?_ | refine wd_f rfl (f_loadb 4 rfl Try.underlying22 rfl rfl rfl) ?_ | refine wd_f rfl (f_loadb 5 rfl Try.underlying22 rfl rfl rfl) ?_ | refine wd_f rfl (f_loadb 6 rfl Try.underlying22 rfl rfl rfl) ?_)
        refine wd_f rfl (f_move rfl) ?_
        refine wd_f rfl (f_move rfl) ?_
        refine wd_f rfl (f_indexAddr 1 (i := x) rfl rfl Try.underlying115 (by kernel_rfl) rfl hlt) ?_
        refine wd_e0 rfl (e_storerN 1 (us := [_]) (xs' := bov (used.set x false)) rfl rfl rfl rfl (by kernel_rfl) (by simp [Value.oneCell']) (by simp [bov]; omega) (map_set Value.bool false hlt)) ?_
        rintro _ _ w11_12 rfl
        refine ⟨_, List.Perm.refl _, ?_⟩
        refine wd_f rfl (f_indexAddr 1 (i := x) rfl rfl Try.underlying22 (by kernel_rfl) rfl hlt) ?_
        refine wd_e0 rfl (e_storerN 4 (us := [_]) (xs' := vcells kInt (vs.set x 0)) rfl rfl rfl rfl (by kernel_rfl) (by simp [Value.oneCell']) (by rw [hvl]; show 0 + x * 1 + 1 ≤ vs.length * 1; omega) (vcells_set kInt kInt_len 0 (by omega))) ?_
        rintro _ _ w11_14 rfl
        refine ⟨_, List.Perm.refl _, ?_⟩
        refine wd_end [(0, _), (7, _)] ⟨rfl, rfl, trivial⟩ ?_
        refine w_seq ?_
        refine w_reg ?_
        refine wl_f (f_move rfl) ?_
        refine wl_f (f_nilCheck rfl) ?_
        refine wl_f (f_fieldAddr 1 rfl Try.underlying133 rfl rfl (by kernel_rfl)) ?_
        (first | refine wl_f (f_loadb 0 rfl Try.underlying3 rfl rfl rfl) ?_ | refine wl_f (f_loadb 1 rfl Try.underlying3 rfl rfl rfl) ?_ | refine wl_f (f_loadb 2 rfl Try.underlying3 rfl rfl rfl) ?_ | refine wl_f (f_loadb 3 rfl Try.underlying3 rfl rfl rfl) ?_ | refine wl_f (f_loadb 4 rfl Try.underlying3 rfl rfl rfl) ?_ | refine wl_f (f_loadb 5 rfl Try.underlying3 rfl rfl rfl) ?_ | refine wl_f (f_loadb 6 rfl Try.underlying3 rfl rfl rfl) ?_)
        refine wl_f (f_sub rfl rfl (by omega)) ?_
        refine wl_f (f_nilCheck rfl) ?_
        refine wl_f (f_fieldAddr 1 rfl Try.underlying133 rfl rfl (by kernel_rfl)) ?_
        (first | refine wl_e0 (e_store0 (us := [_]) rfl rfl rfl (by kernel_rfl) (by simp [Value.oneCell']) rfl rfl) ?_ | refine wl_e0 (e_store1 (us := [_]) rfl rfl rfl (by kernel_rfl) (by simp [Value.oneCell']) rfl rfl) ?_ | refine wl_e0 (e_store2 (us := [_]) rfl rfl rfl (by kernel_rfl) (by simp [Value.oneCell']) rfl rfl) ?_ | refine wl_e0 (e_store3 (us := [_]) rfl rfl rfl (by kernel_rfl) (by simp [Value.oneCell']) rfl rfl) ?_)
        rintro _ _ w12_7 rfl
        refine wl_end [(7, _)] ⟨rfl, trivial⟩ ?_
        refine w_seq ?_
        refine w_reg ?_
        refine wl_f (f_move rfl) ?_
        refine wl_f (f_assign rfl) ?_
        refine wl_f (f_assign rfl) ?_
        refine wl_end [(4, _), (5, _)] ⟨rfl, rfl, trivial⟩ ?_
        refine w_bun (H := []) [_, _, _, _, _] ?_
        refine w_ret ?_
        refine ⟨_, _, fun a ha hh => results_tmps Try.results54 rfl a ha _, List.Sublist.refl _, ?_⟩
        refine .inr ⟨A, x, a, B, _, rfl, rfl, rfl, rfl, .slice (some ⟨g1, 0, .none⟩) used.length c1, .slice (some ⟨g2, 0, .none⟩) used.length c2, .slice (some ⟨g3, 0, .none⟩) used.length c3, .slice (some ⟨g4, 0, .none⟩) used.length c4, _, _, _, _, ?_, hc.remove (z := 0)⟩
        have e1 : ((A ++ B).length : Int) = ((A ++ (x, a) :: B).length : Int) - 1 := by rw [hl1, List.length_append]; omega
        rw [chs, List.length_set, e1]
        rfl
set_option maxHeartbeats 4000000 in
theorem bRemove_spec (b n : Nat) (l : List (Nat × (Nat × Option Nat))) (node : Int) (r : Res) (w : World) (hn : n ≤ 8192) (hr : ChR kBuc b n l r) (hs : Holds w r.foot [r] w) :
    Spec Try.prog 56 [.pointer (some ⟨b, 0, .none⟩), .int .i64 node] w r.foot fun u H => RemAt kBuc b n l node r u H := by
  refine enter (n := 83) Try.func56 rfl rfl [(0, _), (1, _)] rfl ⟨rfl, rfl, trivial⟩ hs ?_
  refine w_seq ?_
  refine w_reg ?_
  refine wl_e (e_allocs [.int .u64 0, .pointer .none] (by kernel_rfl)) ?_
  rintro _ _ w0_0 ⟨b0_0, rfl, rfl⟩
  refine wl_f (f_assign rfl) ?_
  refine wl_end [(0, _), (1, _), (4, _)] ⟨rfl, rfl, rfl, trivial⟩ ?_
  refine w_seq ?_
  refine w_reg ?_
  refine wl_e (e_allocs [.int .u64 0, .pointer .none] (by kernel_rfl)) ?_
  rintro _ _ w1_0 ⟨b1_0, rfl, rfl⟩
  refine wl_end [(0, _), (1, _), (4, _), (6, _)] ⟨rfl, rfl, rfl, rfl, trivial⟩ ?_
  refine w_seq ?_
  refine w_seq ?_
  refine w_reg ?_
  refine wl_f (f_move rfl) ?_
  refine wl_f (f_move rfl) ?_
  refine wl_e (e_call1 r [_, _] rfl Try.func69 (by kernel_rfl) (pk1 2 rfl) (fun w hh hs => bhas_spec b n l r node w hr hs)) ?_
  rintro _ _ w1 ⟨_, rfl, rfl, rfl⟩
  refine wl_f (f_not rfl rfl) ?_
  refine wl_end [(0, _), (1, _), (4, _), (6, _), (13, _)] ⟨rfl, rfl, rfl, rfl, rfl, trivial⟩ ?_
  refine w_ifb rfl (fun hc1 => ?_) (fun hc1 => ?_)
  · skip
    refine w_seq ?_
    refine w_reg ?_
    (first | refine wl_f (f_loadsb (cs := [_, _]) 0 rfl Try.underlying89 rfl (by kernel_rfl) rfl rfl) ?_ | refine wl_f (f_loadsb (cs := [_, _]) 1 rfl Try.underlying89 rfl (by kernel_rfl) rfl rfl) ?_ | refine wl_f (f_loadsb (cs := [_, _]) 2 rfl Try.underlying89 rfl (by kernel_rfl) rfl rfl) ?_ | refine wl_f (f_loadsb (cs := [_, _]) 3 rfl Try.underlying89 rfl (by kernel_rfl) rfl rfl) ?_ | refine wl_f (f_loadsb (cs := [_, _]) 4 rfl Try.underlying89 rfl (by kernel_rfl) rfl rfl) ?_ | refine wl_f (f_loadsb (cs := [_, _]) 5 rfl Try.underlying89 rfl (by kernel_rfl) rfl rfl) ?_ | refine wl_f (f_loadsb (cs := [_, _]) 6 rfl Try.underlying89 rfl (by kernel_rfl) rfl rfl) ?_)
    (first | refine wl_e0 (e_store0 (us := [_, _]) rfl rfl rfl (by kernel_rfl) (by simp [Value.oneCell']) rfl rfl) ?_ | refine wl_e0 (e_store1 (us := [_, _]) rfl rfl rfl (by kernel_rfl) (by simp [Value.oneCell']) rfl rfl) ?_ | refine wl_e0 (e_store2 (us := [_, _]) rfl rfl rfl (by kernel_rfl) (by simp [Value.oneCell']) rfl rfl) ?_ | refine wl_e0 (e_store3 (us := [_, _]) rfl rfl rfl (by kernel_rfl) (by simp [Value.oneCell']) rfl rfl) ?_)
    rintro _ _ w3_1 rfl
    refine wl_f (f_assign rfl) ?_
    refine wl_end [(4, _), (5, _)] ⟨rfl, rfl, trivial⟩ ?_
    refine w_ret ?_
    refine ⟨_, _, fun a ha hh => results_mix Try.results56 (rm_cell (cell_agg 2 rfl Try.underlying89 rfl (by kernel_rfl) rfl) (rm_tmp rfl rm_nil)) a ha _ hh, List.sublist_append_left [_] [_, _], ?_⟩
    exact .inl ⟨not_isAt hc1, rfl, rfl⟩
  · skip
    obtain ⟨x, rfl, hx⟩ := isAt_some (is_isAt hc1)
    obtain ⟨A, a, B, rfl⟩ := split_node hx
    obtain ⟨uV, nV, pV, vV, used, nx, pv, vs, rfl, hc⟩ := id hr
    have hlt := hc.atlt
    have hle := hc.le
    have hlx := hc.lx
    have hlp := hc.lp
    have hlv := hc.lv
    have hvl := vcells_len kBuc kBuc_len vs
    have hln := hc.len
    have hxn := hc.next
    have hxp := hc.prev
    have hnd := hc.nd
    have hl1 : (A ++ (x, a) :: B).length = A.length + B.length + 1 := by simp; omega
    refine w_unb (H := [_, _]) (chs kBuc b n _ uV nV pV vV used nx pv vs) ?_
    refine w_with fun hh => ?_
    obtain ⟨g1, c1, rfl⟩ := row_form hh (i := 1) rfl (by omega)
    obtain ⟨g2, c2, rfl⟩ := row_form hh (i := 2) rfl (by omega)
    obtain ⟨g3, c3, rfl⟩ := row_form hh (i := 3) rfl (by omega)
    obtain ⟨g4, c4, rfl⟩ := row_form hh (i := 4) rfl (by omega)
    clear hh
    refine w_skip ?_
    refine w_seq ?_
    refine w_draw [(0, true), (1, true), (2, true), (3, true), (4, true), (5, true), (6, true), (7, true), (8, true), (9, true), (10, true), (11, true), (12, true), (13, true), (14, true), (15, true), (16, true), (17, true), (18, true), (19, true), (20, true), (21, false), (22, false), (23, true), (24, true)] ([_, _, _, _, _, _, _]) ([]) mixed (by kernel_rfl) (by kernel_rfl) rfl (perm_all _) (fun w4_ => ?_)
    refine wd_f rfl (f_move rfl) ?_
    refine wd_f rfl (f_nilCheck rfl) ?_
    refine wd_f rfl (f_fieldAddr 7 rfl Try.underlying118 rfl rfl (by kernel_rfl)) ?_
    (first | refine wd_f rfl (f_loadb 0 rfl Try.underlying116 rfl rfl rfl) ?_ | refine wd_f rfl (f_loadb 1 rfl Try.underlying116 rfl rfl rfl) ?_ | refine wd_f rfl (f_loadb 2 rfl Try.underlying116 rfl rfl rfl) ?_ | refine wd_f rfl (f_loadb 3 rfl Try.underlying116 rfl rfl rfl) ?_ | refine wd_f rfl (f_loadb 4 rfl Try.underlying116 rfl rfl rfl) ?_ | refine wd_f rfl (f_loadb 5 rfl Try.underlying116 rfl rfl rfl) ?_ | refine wd_f rfl (f_loadb 6 rfl Try.underlying116 rfl rfl rfl) ?_)
    refine wd_f rfl (f_move rfl) ?_
    refine wd_f rfl (f_indexAddr 2 (i := x) rfl rfl Try.underlying116 (by kernel_rfl) rfl hlt) ?_
    refine wd_f rfl (f_loadsr (cs := kBuc.cells a) 4 rfl Try.underlying89 rfl (by kernel_rfl) rfl (vcells_get kBuc kBuc_len hc.at)) ?_
    refine wd_f rfl (f_move rfl) ?_
    refine wd_f rfl (f_nilCheck rfl) ?_
    refine wd_f rfl (f_fieldAddr 6 rfl Try.underlying118 rfl rfl (by kernel_rfl)) ?_
    (first | refine wd_f rfl (f_loadb 0 rfl Try.underlying22 rfl rfl rfl) ?_ | refine wd_f rfl (f_loadb 1 rfl Try.underlying22 rfl rfl rfl) ?_ | refine wd_f rfl (f_loadb 2 rfl Try.underlying22 rfl rfl rfl) ?_ | refine wd_f rfl (f_loadb 3 rfl Try.underlying22 rfl rfl rfl) ?_ | refine wd_f rfl (f_loadb 4 rfl Try.underlying22 rfl rfl rfl) ?_ | refine wd_f rfl (f_loadb 5 rfl Try.underlying22 rfl rfl rfl) ?_ | refine wd_f rfl (f_loadb 6 rfl Try.underlying22 rfl rfl rfl) ?_)
    refine wd_f rfl (f_move rfl) ?_
    refine wd_f rfl (f_indexAddr 1 (i := x) rfl rfl Try.underlying22 (by kernel_rfl) rfl hlt) ?_
    refine wd_f rfl (f_loadr (v := .int .i64 (hdE (-1) (nodes A).reverse)) 3 rfl Try.underlying3 rfl rfl (map_get (Value.int .i64) hxp)) ?_
    refine wd_f rfl (f_move rfl) ?_
    refine wd_f rfl (f_nilCheck rfl) ?_
    refine wd_f rfl (f_fieldAddr 5 rfl Try.underlying118 rfl rfl (by kernel_rfl)) ?_
    (first | refine wd_f rfl (f_loadb 0 rfl Try.underlying22 rfl rfl rfl) ?_ | refine wd_f rfl (f_loadb 1 rfl Try.underlying22 rfl rfl rfl) ?_ | refine wd_f rfl (f_loadb 2 rfl Try.underlying22 rfl rfl rfl) ?_ | refine wd_f rfl (f_loadb 3 rfl Try.underlying22 rfl rfl rfl) ?_ | refine wd_f rfl (f_loadb 4 rfl Try.underlying22 rfl rfl rfl) ?_ | refine wd_f rfl (f_loadb 5 rfl Try.underlying22 rfl rfl rfl) ?_ | refine wd_f rfl (f_loadb 6 rfl Try.underlying22 rfl rfl rfl) ?_)
    refine wd_f rfl (f_move rfl) ?_
    refine wd_f rfl (f_indexAddr 1 (i := x) rfl rfl Try.underlying22 (by kernel_rfl) rfl hlt) ?_
    refine wd_f rfl (f_loadr (v := .int .i64 (hdE (-1) (nodes B))) 2 rfl Try.underlying3 rfl rfl (map_get (Value.int .i64) hxn)) ?_
    refine wd_e rfl (e_allocs [.int .u64 0, .pointer .none] (by kernel_rfl)) ?_
    rintro _ _ w4_21 ⟨b4_21, rfl, rfl⟩
    refine ⟨_, List.perm_middle.symm, ?_⟩
    refine wd_e0 rfl (e_storeN 7 (us := [_, _]) rfl rfl rfl rfl (by kernel_rfl) (by simp [Value.oneCell']) rfl rfl) ?_
    rintro _ _ w4_22 rfl
    refine ⟨_, List.Perm.refl _, ?_⟩
    refine wd_f rfl (f_assign rfl) ?_
    refine wd_f rfl (f_assign rfl) ?_
    refine wd_end [(0, _), (1, _), (4, _), (6, _), (7, _), (8, _), (9, _)] ⟨rfl, rfl, rfl, rfl, rfl, rfl, rfl, trivial⟩ ?_
    refine w_seq ?_
    refine w_seq ?_
    refine w_reg ?_
    refine wl_f (f_move rfl) ?_
    refine wl_f (f_eql rfl rfl) ?_
    refine wl_end [(0, _), (1, _), (4, _), (6, _), (7, _), (8, _), (9, _), (37, _)] ⟨rfl, rfl, rfl, rfl, rfl, rfl, rfl, rfl, trivial⟩ ?_
    refine w_post (fun m H w' => m = [(0, .pointer (some ⟨b, 0, .none⟩)), (1, .int .i64 x), (4, .pointer (some ⟨b0_0, 0, .none⟩)), (6, .pointer (some ⟨b1_0, 0, .none⟩)), (7, .pointer (some ⟨b4_21, 0, .none⟩)), (8, .int .i64 (hdE (-1) (nodes A).reverse)), (9, .int .i64 (hdE (-1) (nodes B)))] ∧
      H = [blk b [.int .i64 (n : Int), .int .i64 ((A ++ (x, a) :: B).length : Int), .int .i64 (hdE (-1) (nodes (A ++ B))), .int .i64 (hdE (-1) (nodes (A ++ (x, a) :: B)).reverse), .slice (some ⟨g1, 0, .none⟩) used.length c1, .slice (some ⟨g2, 0, .none⟩) used.length c2, .slice (some ⟨g3, 0, .none⟩) used.length c3, .slice (some ⟨g4, 0, .none⟩) used.length c4] kBuc.list,
        row (.slice (some ⟨g1, 0, .none⟩) used.length c1) 4 1 used.length (bov used), row (.slice (some ⟨g2, 0, .none⟩) used.length c2) 3 1 used.length (iv (setLast nx (nodes A) (hdE (-1) (nodes B)))),
        row (.slice (some ⟨g3, 0, .none⟩) used.length c3) 3 1 used.length (iv pv), row (.slice (some ⟨g4, 0, .none⟩) used.length c4) kBuc.elem kBuc.sz used.length (vcells kBuc vs), blk b1_0 [.int .u64 0, .pointer .none] 89, blk b0_0 [.int .u64 0, .pointer .none] 89, blk b4_21 (kBuc.cells a) 89]) ?_ ?_
    · skip
      refine w_ifd rfl (fun hc2 => ?_) (fun hc2 => ?_)
      · skip
        have hA : A = [] := by simpa using hdE_nil hc2
        subst hA
        refine w_reg ?_
        refine wl_f (f_move rfl) ?_
        refine wl_f (f_move rfl) ?_
        refine wl_f (f_nilCheck rfl) ?_
        refine wl_f (f_fieldAddr 2 rfl Try.underlying118 rfl rfl (by kernel_rfl)) ?_
        (first | refine wl_e0 (e_store0 (us := [_]) rfl rfl rfl (by kernel_rfl) (by simp [Value.oneCell']) rfl rfl) ?_ | refine wl_e0 (e_store1 (us := [_]) rfl rfl rfl (by kernel_rfl) (by simp [Value.oneCell']) rfl rfl) ?_ | refine wl_e0 (e_store2 (us := [_]) rfl rfl rfl (by kernel_rfl) (by simp [Value.oneCell']) rfl rfl) ?_ | refine wl_e0 (e_store3 (us := [_]) rfl rfl rfl (by kernel_rfl) (by simp [Value.oneCell']) rfl rfl) ?_)
        rintro _ _ w6_4 rfl
        refine wl_end [(0, _), (1, _), (4, _), (6, _), (7, _), (8, _), (9, _)] ⟨rfl, rfl, rfl, rfl, rfl, rfl, rfl, trivial⟩ ?_
        exact ⟨rfl, rfl⟩
      · skip
        obtain ⟨y, t, hA⟩ := hdE_cons hc2
        have hal : y < used.length := hc.lt y (by
          have : y ∈ (nodes A).reverse := by rw [hA]; simp
          rw [nodes, List.map_append]
          exact List.mem_append_left _ (List.mem_reverse.1 this))
        have hA2 : hdE (-1) (nodes (A ++ (x, a) :: B)) = hdE (-1) (nodes (A ++ B)) := by
          cases A with
          | nil => simp at hA
          | cons p A => rfl
        refine w_reg ?_
        refine wl_f (f_move rfl) ?_
        refine wl_f (f_nilCheck rfl) ?_
        refine wl_f (f_fieldAddr 5 rfl Try.underlying118 rfl rfl (by kernel_rfl)) ?_
        (first | refine wl_f (f_loadb 0 rfl Try.underlying22 rfl rfl rfl) ?_ | refine wl_f (f_loadb 1 rfl Try.underlying22 rfl rfl rfl) ?_ | refine wl_f (f_loadb 2 rfl Try.underlying22 rfl rfl rfl) ?_ | refine wl_f (f_loadb 3 rfl Try.underlying22 rfl rfl rfl) ?_ | refine wl_f (f_loadb 4 rfl Try.underlying22 rfl rfl rfl) ?_ | refine wl_f (f_loadb 5 rfl Try.underlying22 rfl rfl rfl) ?_ | refine wl_f (f_loadb 6 rfl Try.underlying22 rfl rfl rfl) ?_)
        refine wl_f (f_move rfl) ?_
        refine wl_f (f_move rfl) ?_
        refine wl_f (f_indexAddr 1 (i := y) rfl rfl Try.underlying22 (by kernel_rfl) (by rw [hA]; rfl) hal) ?_
        refine wl_e0 (e_storerN 2 (us := [_]) (xs' := iv (nx.set y (hdE (-1) (nodes B)))) rfl rfl rfl rfl (by kernel_rfl) (by simp [Value.oneCell']) (by simp [iv]; omega) (map_set (Value.int .i64) _ (by omega))) ?_
        rintro _ _ w7_7 rfl
        refine wl_end [(0, _), (1, _), (4, _), (6, _), (7, _), (8, _), (9, _)] ⟨rfl, rfl, rfl, rfl, rfl, rfl, rfl, trivial⟩ ?_
        exact ⟨rfl, by rw [setLast_cons hA, ← hA2]; rfl⟩
    · rintro _ _ w ⟨rfl, rfl⟩
      refine w_seq ?_
      refine w_seq ?_
      refine w_reg ?_
      refine wl_f (f_move rfl) ?_
      refine wl_f (f_eql rfl rfl) ?_
      refine wl_end [(0, _), (1, _), (4, _), (6, _), (7, _), (8, _), (9, _), (50, _)] ⟨rfl, rfl, rfl, rfl, rfl, rfl, rfl, rfl, trivial⟩ ?_
      refine w_post (fun m H w' => m = [(0, .pointer (some ⟨b, 0, .none⟩)), (1, .int .i64 x), (4, .pointer (some ⟨b0_0, 0, .none⟩)), (6, .pointer (some ⟨b1_0, 0, .none⟩)), (7, .pointer (some ⟨b4_21, 0, .none⟩))] ∧
        H = [blk b [.int .i64 (n : Int), .int .i64 ((A ++ (x, a) :: B).length : Int), .int .i64 (hdE (-1) (nodes (A ++ B))), .int .i64 (hdE (-1) (nodes (A ++ B)).reverse), .slice (some ⟨g1, 0, .none⟩) used.length c1, .slice (some ⟨g2, 0, .none⟩) used.length c2, .slice (some ⟨g3, 0, .none⟩) used.length c3, .slice (some ⟨g4, 0, .none⟩) used.length c4] kBuc.list,
          row (.slice (some ⟨g1, 0, .none⟩) used.length c1) 4 1 used.length (bov used), row (.slice (some ⟨g2, 0, .none⟩) used.length c2) 3 1 used.length (iv (setLast nx (nodes A) (hdE (-1) (nodes B)))),
          row (.slice (some ⟨g3, 0, .none⟩) used.length c3) 3 1 used.length (iv (setLast pv (nodes B).reverse (hdE (-1) (nodes A).reverse))), row (.slice (some ⟨g4, 0, .none⟩) used.length c4) kBuc.elem kBuc.sz used.length (vcells kBuc vs), blk b1_0 [.int .u64 0, .pointer .none] 89, blk b0_0 [.int .u64 0, .pointer .none] 89, blk b4_21 (kBuc.cells a) 89]) ?_ ?_
      · skip
        refine w_ifd rfl (fun hc3 => ?_) (fun hc3 => ?_)
        · skip
          have hB : B = [] := by simpa using hdE_nil hc3
          subst hB
          refine w_reg ?_
          refine wl_f (f_move rfl) ?_
          refine wl_f (f_move rfl) ?_
          refine wl_f (f_nilCheck rfl) ?_
          refine wl_f (f_fieldAddr 3 rfl Try.underlying118 rfl rfl (by kernel_rfl)) ?_
          (first | refine wl_e0 (e_store0 (us := [_]) rfl rfl rfl (by kernel_rfl) (by simp [Value.oneCell']) rfl rfl) ?_ | refine wl_e0 (e_store1 (us := [_]) rfl rfl rfl (by kernel_rfl) (by simp [Value.oneCell']) rfl rfl) ?_ | refine wl_e0 (e_store2 (us := [_]) rfl rfl rfl (by kernel_rfl) (by simp [Value.oneCell']) rfl rfl) ?_ | refine wl_e0 (e_store3 (us := [_]) rfl rfl rfl (by kernel_rfl) (by simp [Value.oneCell']) rfl rfl) ?_)
          rintro _ _ w9_4 rfl
          refine wl_end [(0, _), (1, _), (4, _), (6, _), (7, _)] ⟨rfl, rfl, rfl, rfl, rfl, trivial⟩ ?_
          have e : hdE (-1) (nodes A).reverse = hdE (-1) (nodes (A ++ [])).reverse := by rw [List.append_nil]
          exact ⟨rfl, by rw [← e]; rfl⟩
        · skip
          obtain ⟨y, t, hB⟩ := hdE_cons hc3
          have hal : y < used.length := hc.lt y (by
            have : y ∈ nodes B := by rw [hB]; simp
            rw [nodes_split]
            exact List.mem_append_right _ (List.mem_cons_of_mem _ this))
          have hB2 : hdE (-1) (nodes (A ++ (x, a) :: B)).reverse = hdE (-1) (nodes (A ++ B)).reverse := by
            rcases List.eq_nil_or_concat B with rfl | ⟨B', p, rfl⟩
            · simp at hB
            · simp [hdE]
          refine w_reg ?_
          refine wl_f (f_move rfl) ?_
          refine wl_f (f_nilCheck rfl) ?_
          refine wl_f (f_fieldAddr 6 rfl Try.underlying118 rfl rfl (by kernel_rfl)) ?_
          (first | refine wl_f (f_loadb 0 rfl Try.underlying22 rfl rfl rfl) ?_ | refine wl_f (f_loadb 1 rfl Try.underlying22 rfl rfl rfl) ?_ | refine wl_f (f_loadb 2 rfl Try.underlying22 rfl rfl rfl) ?_ | refine wl_f (f_loadb 3 rfl Try.underlying22 rfl rfl rfl) ?_ | refine wl_f (f_loadb 4 rfl Try.underlying22 rfl rfl rfl) ?_ | refine wl_f (f_loadb 5 rfl Try.underlying22 rfl rfl rfl) ?_ | refine wl_f (f_loadb 6 rfl Try.underlying22 rfl rfl rfl) ?_)
          refine wl_f (f_move rfl) ?_
          refine wl_f (f_move rfl) ?_
          refine wl_f (f_indexAddr 1 (i := y) rfl rfl Try.underlying22 (by kernel_rfl) (by rw [hB]; rfl) hal) ?_
          refine wl_e0 (e_storerN 3 (us := [_]) (xs' := iv (pv.set y (hdE (-1) (nodes A).reverse))) rfl rfl rfl rfl (by kernel_rfl) (by simp [Value.oneCell']) (by simp [iv]; omega) (map_set (Value.int .i64) _ (by omega))) ?_
          rintro _ _ w10_7 rfl
          refine wl_end [(0, _), (1, _), (4, _), (6, _), (7, _)] ⟨rfl, rfl, rfl, rfl, rfl, trivial⟩ ?_
          exact ⟨rfl, by rw [setLast_cons (N := (nodes B).reverse) (by rw [List.reverse_reverse]; exact hB), ← hB2]; rfl⟩
      · rintro _ _ w ⟨rfl, rfl⟩
        refine w_seq ?_
        refine w_draw [(0, true), (1, true), (2, true), (3, true), (4, true), (5, true), (6, true), (7, true), (8, true), (9, true), (10, true), (11, true), (12, false), (13, true), (14, false)] ([_, _]) ([_, _, _, _, _, _]) mixed (by kernel_rfl) (by kernel_rfl) rfl (pick_perm [0, 4] _ rfl) (fun w11_ => ?_)
        refine wd_f rfl (f_move rfl) ?_
        refine wd_f rfl (f_nilCheck rfl) ?_
        refine wd_f rfl (f_fieldAddr 4 rfl Try.underlying118 rfl rfl (by kernel_rfl)) ?_
        (first | refine wd_f rfl (f_loadb 0 rfl Try.underlying115 rfl rfl rfl) ?_ | refine wd_f rfl (f_loadb 1 rfl Try.underlying115 rfl rfl rfl) ?_ | refine wd_f rfl (f_loadb 2 rfl Try.underlying115 rfl rfl rfl) ?_ | refine wd_f rfl (f_loadb 3 rfl Try.underlying115 rfl rfl rfl) ?_ | refine wd_f rfl (f_loadb 4 rfl Try.underlying115 rfl rfl rfl) ?_ | refine wd_f rfl (f_loadb 5 rfl Try.underlying115 rfl rfl rfl) ?_ | refine wd_f rfl (f_loadb 6 rfl Try.underlying115 rfl rfl rfl) ?_)
        refine wd_f rfl (f_move rfl) ?_
        refine wd_f rfl (f_move rfl) ?_
        refine wd_f rfl (f_nilCheck rfl) ?_
        refine wd_f rfl (f_fieldAddr 7 rfl Try.underlying118 rfl rfl (by kernel_rfl)) ?_
        (first | refine wd_f rfl (f_loadb 0 rfl Try.underlying116 rfl rfl rfl) ?_ | refine wd_f rfl (f_loadb 1 rfl Try.underlying116 rfl rfl rfl) ?_ | refine wd_f rfl (f_loadb 2 rfl Try.underlying116 rfl rfl rfl) ?_ | refine wd_f rfl (f_loadb 3 rfl Try.underlying116 rfl rfl rfl) ?_ | refine wd_f rfl (f_loadb 4 rfl Try.underlying116 rfl rfl rfl) ?_ | refine wd_f rfl (f_loadb 5 rfl Try.underlying116 rfl rfl rfl) ?_ | refine wd_f rfl (f_loadb 6 rfl Try.underlying116 rfl rfl rfl) ?_)
        refine wd_f rfl (f_move rfl) ?_
        (first | refine wd_f rfl (f_loadsb (cs := [_, _]) 0 rfl Try.underlying89 rfl (by kernel_rfl) rfl rfl) ?_ | refine wd_f rfl (f_loadsb (cs := [_, _]) 1 rfl Try.underlying89 rfl (by kernel_rfl) rfl rfl) ?_ | refine wd_f rfl (f_loadsb (cs := [_, _]) 2 rfl Try.underlying89 rfl (by kernel_rfl) rfl rfl) ?_ | refine wd_f rfl (f_loadsb (cs := [_, _]) 3 rfl Try.underlying89 rfl (by kernel_rfl) rfl rfl) ?_ | refine wd_f rfl (f_loadsb (cs := [_, _]) 4 rfl Try.underlying89 rfl (by kernel_rfl) rfl rfl) ?_ | refine wd_f rfl (f_loadsb (cs := [_, _]) 5 rfl Try.underlying89 rfl (by kernel_rfl) rfl rfl) ?_ | refine wd_f rfl (f_loadsb (cs := [_, _]) 6 rfl Try.underlying89 rfl (by kernel_rfl) rfl rfl) ?_)
        refine wd_f rfl (f_indexAddr 1 (i := x) rfl rfl Try.underlying115 (by kernel_rfl) rfl hlt) ?_
        refine wd_e0 rfl (e_storerN 2 (us := [_]) (xs' := bov (used.set x false)) rfl rfl rfl rfl (by kernel_rfl) (by simp [Value.oneCell']) (by simp [bov]; omega) (map_set Value.bool false hlt)) ?_
        rintro _ _ w11_12 rfl
        refine ⟨_, List.Perm.refl _, ?_⟩
        refine wd_f rfl (f_indexAddr 2 (i := x) rfl rfl Try.underlying116 (by kernel_rfl) rfl hlt) ?_
        refine wd_e0 rfl (e_storerN 5 (us := [_, _]) (xs' := vcells kBuc (vs.set x kBuc.zero)) rfl rfl rfl rfl (by kernel_rfl) (by simp [Value.oneCell']) (by rw [hvl]; show 0 + x * 2 + 2 ≤ vs.length * 2; omega) (vcells_set kBuc kBuc_len kBuc.zero (by omega))) ?_
        rintro _ _ w11_14 rfl
        refine ⟨_, List.Perm.refl _, ?_⟩
        refine wd_endp [(0, _), (4, _), (7, _)] [0, 1, 1, 1, 1, 1, 1] ⟨rfl, rfl, rfl, trivial⟩ rfl ?_
        refine w_seq ?_
        refine w_reg ?_
        refine wl_f (f_move rfl) ?_
        refine wl_f (f_nilCheck rfl) ?_
        refine wl_f (f_fieldAddr 1 rfl Try.underlying118 rfl rfl (by kernel_rfl)) ?_
        (first | refine wl_f (f_loadb 0 rfl Try.underlying3 rfl rfl rfl) ?_ | refine wl_f (f_loadb 1 rfl Try.underlying3 rfl rfl rfl) ?_ | refine wl_f (f_loadb 2 rfl Try.underlying3 rfl rfl rfl) ?_ | refine wl_f (f_loadb 3 rfl Try.underlying3 rfl rfl rfl) ?_ | refine wl_f (f_loadb 4 rfl Try.underlying3 rfl rfl rfl) ?_ | refine wl_f (f_loadb 5 rfl Try.underlying3 rfl rfl rfl) ?_ | refine wl_f (f_loadb 6 rfl Try.underlying3 rfl rfl rfl) ?_)
        refine wl_f (f_sub rfl rfl (by omega)) ?_
        refine wl_f (f_nilCheck rfl) ?_
        refine wl_f (f_fieldAddr 1 rfl Try.underlying118 rfl rfl (by kernel_rfl)) ?_
        (first | refine wl_e0 (e_store0 (us := [_]) rfl rfl rfl (by kernel_rfl) (by simp [Value.oneCell']) rfl rfl) ?_ | refine wl_e0 (e_store1 (us := [_]) rfl rfl rfl (by kernel_rfl) (by simp [Value.oneCell']) rfl rfl) ?_ | refine wl_e0 (e_store2 (us := [_]) rfl rfl rfl (by kernel_rfl) (by simp [Value.oneCell']) rfl rfl) ?_ | refine wl_e0 (e_store3 (us := [_]) rfl rfl rfl (by kernel_rfl) (by simp [Value.oneCell']) rfl rfl) ?_)
        rintro _ _ w12_7 rfl
        refine wl_end [(4, _), (7, _)] ⟨rfl, rfl, trivial⟩ ?_
        refine w_seq ?_
        refine w_reg ?_
        (first | refine wl_f (f_loadsb (cs := [_, _]) 0 rfl Try.underlying89 rfl (by kernel_rfl) rfl rfl) ?_ | refine wl_f (f_loadsb (cs := [_, _]) 1 rfl Try.underlying89 rfl (by kernel_rfl) rfl rfl) ?_ | refine wl_f (f_loadsb (cs := [_, _]) 2 rfl Try.underlying89 rfl (by kernel_rfl) rfl rfl) ?_ | refine wl_f (f_loadsb (cs := [_, _]) 3 rfl Try.underlying89 rfl (by kernel_rfl) rfl rfl) ?_ | refine wl_f (f_loadsb (cs := [_, _]) 4 rfl Try.underlying89 rfl (by kernel_rfl) rfl rfl) ?_ | refine wl_f (f_loadsb (cs := [_, _]) 5 rfl Try.underlying89 rfl (by kernel_rfl) rfl rfl) ?_ | refine wl_f (f_loadsb (cs := [_, _]) 6 rfl Try.underlying89 rfl (by kernel_rfl) rfl rfl) ?_)
        refine wl_e0 (e_storeN 5 (us := [_, _]) rfl rfl rfl rfl (by kernel_rfl) (by simp [Value.oneCell']) rfl rfl) ?_
        rintro _ _ w13_1 rfl
        refine wl_f (f_assign rfl) ?_
        refine wl_end [(4, _), (5, _)] ⟨rfl, rfl, trivial⟩ ?_
        refine w_bun (H := [_, _]) [_, _, _, _, _] ?_
        refine w_ret ?_
        refine ⟨_, _, fun a ha hh => results_mix Try.results56 (rm_cell (cell_agg 1 rfl Try.underlying89 rfl (by kernel_rfl) rfl) (rm_tmp rfl rm_nil)) a ha _ hh, List.sublist_append_left [_] [_, _], ?_⟩
        refine .inr ⟨A, x, a, B, _, rfl, rfl, rfl, rfl, .slice (some ⟨g1, 0, .none⟩) used.length c1, .slice (some ⟨g2, 0, .none⟩) used.length c2, .slice (some ⟨g3, 0, .none⟩) used.length c3, .slice (some ⟨g4, 0, .none⟩) used.length c4, _, _, _, _, ?_, hc.remove (z := kBuc.zero)⟩
        have e1 : ((A ++ B).length : Int) = ((A ++ (x, a) :: B).length : Int) - 1 := by rw [hl1, List.length_append]; omega
        rw [chs, List.length_set, e1]
        rfl
end Go.Proofs.Ytbcfdgnpdaaleaa
