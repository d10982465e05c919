/- The reference's lists. -/
import Derived.Test.YtkabdnijhjccoaaCA
import Derived.Test.YtkabdnijhjccoaaK7
namespace Go.Proofs.Ytkabdnijhjccoaa
open Go.RowKit

def rls (q n : Nat) (l : List (Nat × Int)) (NV VV : Value) : List Res :=
  [blk q [.int .i64 (n : Int), NV, VV] 50, row NV 3 1 l.length (iv (l.map fun p => (p.1 : Int))), row VV 3 1 l.length (iv (l.map Prod.snd))]
def RefR (q n : Nat) (l : List (Nat × Int)) (r : Res) : Prop := ∃ NV VV, r = bun (rls q n l NV VV)

theorem build_rlist (n : Int) (w : World) : (Instr.build 50 [(0, .int .i64 n)].toArray).run Try.prog w = .ok (.agg [.int .i64 n, .slice .none 0 0, .slice .none 0 0].toArray) w := by kernel_rfl
theorem rnew_spec (n : Int) (w : World) : Spec Try.prog 18 [.int .i64 n] w Nil fun r H => ((n < 1 ∨ 8192 < n) ∧ r = .tuple #[.pointer .none, .int .i64 1] ∧ H = []) ∨
    ∃ (k q : Nat) (r' : Res), n = k ∧ 1 ≤ k ∧ k ≤ 8192 ∧ r = .tuple #[.pointer (some ⟨q, 0, .none⟩), .int .i64 0] ∧ H = [r'] ∧ RefR q k [] r' := by
  refine enter (n := 13) Try.func18 rfl rfl [(0, _)] rfl ⟨rfl, trivial⟩ (Holds.start _ _) ?_
  refine w_seq ?_
  refine w_reg ?_
  refine wl_f (f_assign rfl) ?_
  refine wl_f (f_assign rfl) ?_
  refine wl_end [(0, _)] ⟨rfl, trivial⟩ ?_
  refine w_seq ?_
  refine w_seq ?_
  refine w_reg ?_
  refine wl_f (f_move rfl) ?_
  refine wl_f (f_lss rfl rfl) ?_
  refine wl_f (f_move rfl) ?_
  refine wl_or (j := 2) (c := decide (8192 < n)) 2 [(0, _)] ⟨rfl, trivial⟩ rfl rfl rfl rfl rfl (fun hg1_5 => ?_) (fun w1_5 => ?_)
  · skip
    refine wl_gf rfl rfl (f_move rfl) ?_
    refine wl_gf rfl rfl (f_gtr rfl rfl) ?_
    exact wl_pend rfl rfl ⟨rfl, trivial⟩ (List.Sublist.refl _)
  refine wl_end [(0, _), (9, _)] ⟨rfl, rfl, trivial⟩ ?_
  refine w_ifb rfl (fun hc1 => ?_) (fun hc1 => ?_)
  · skip
    simp only [Bool.or_eq_true, decide_eq_true_eq] at hc1
    refine w_seq ?_
    refine w_reg ?_
    refine wl_f (f_assign rfl) ?_
    refine wl_f (f_assign rfl) ?_
    refine wl_end [(2, _), (3, _)] ⟨rfl, rfl, trivial⟩ ?_
    refine w_ret ?_
    refine ⟨_, _, fun a ha hh => results_tmps Try.results18 rfl a ha _, List.Sublist.refl _, ?_⟩
    exact .inl ⟨hc1, rfl, rfl⟩
  · skip
    simp only [Bool.or_eq_true, decide_eq_true_eq, not_or] at hc1
    refine w_skip ?_
    refine w_seq ?_
    refine w_reg ?_
    refine wl_f (f_move rfl) ?_
    refine wl_f (f_build rfl (fun w => build_rlist _ w)) ?_
    refine wl_e (e_box (cs := [_, _, _]) rfl rfl) ?_
    rintro _ _ w3_2 ⟨b3_2, rfl, rfl⟩
    refine wl_f (f_assign rfl) ?_
    refine wl_f (f_assign rfl) ?_
    refine wl_end [(2, _), (3, _)] ⟨rfl, rfl, trivial⟩ ?_
    refine w_nilrow 3 1 ?_
    refine w_nilrow 3 1 ?_
    refine w_pick [2, 1, 0] rfl ?_
    refine w_bun (H := []) [_, _, _] ?_
    refine w_ret ?_
    refine ⟨_, _, fun a ha hh => results_tmps Try.results18 rfl a ha _, List.Sublist.refl _, ?_⟩
    obtain ⟨k, rfl⟩ : ∃ k : Nat, n = k := ⟨n.toNat, by omega⟩
    exact .inr ⟨k, b3_2, _, rfl, by omega, by omega, rfl, rfl, _, _, rfl⟩

/-- The place of a node among the nodes. -/
def placeOf (l : List (Nat × Int)) (node : Int) (y : Int) : Prop := (isAt node (nodes l) = false ∧ y = -1) ∨ ∃ A x a B, l = A ++ (x, a) :: B ∧ node = (x : Nat) ∧ y = (A.length : Nat)

set_option maxHeartbeats 1000000 in
theorem rplace_spec (q n : Nat) (l : List (Nat × Int)) (r : Res) (node : Int) (w : World) (hl : l.length ≤ 8192) (hr : RefR q n l r) (hs : Holds w r.foot [r] w) :
    Spec Try.prog 64 [.pointer (some ⟨q, 0, .none⟩), .int .i64 node] w r.foot fun u H => H = [r] ∧ ∃ y, u = .int .i64 y ∧ placeOf l node y := by
  obtain ⟨NV, VV, rfl⟩ := hr
  refine enter (n := 22) Try.func64 rfl rfl [(0, _), (1, _)] rfl ⟨rfl, rfl, trivial⟩ hs ?_
  refine w_with fun hh => ?_
  obtain ⟨N, cn, rfl⟩ := rowB_slice hh (i := 0) (j := 1) rfl rfl
  clear hh
  refine w_seq ?_
  refine w_reg ?_
  refine wl_f (f_assign rfl) ?_
  refine wl_end [(0, _), (1, _)] ⟨rfl, rfl, trivial⟩ ?_
  refine w_seq ?_
  refine w_seq ?_
  refine w_reg ?_
  refine wl_f (f_move rfl) ?_
  refine wl_f (f_nilCheck rfl) ?_
  refine wl_f (f_fieldAddr 1 rfl Try.underlying50 rfl rfl (by kernel_rfl)) ?_
  refine wl_f (f_loadB 0 0 rfl rfl rfl Try.underlying33 rfl rfl) ?_
  refine wl_f (f_len rfl Try.underlying33) ?_
  refine wl_f (f_move rfl) ?_
  refine wl_end [(1, _), (10, _), (11, _), (12, _)] ⟨rfl, rfl, rfl, rfl, trivial⟩ ?_
  refine w_block ?_
  refine w_loop (fun k m H w => ∃ i : Nat, m = [(1, .int .i64 node), (10, .slice N l.length cn), (11, .int .i64 l.length), (12, .int .i64 i)] ∧ H = [bun (rls q n l (.slice N l.length cn) VV)] ∧ k + i = l.length ∧ ∀ p ∈ l.take i, ((p.1 : Nat) : Int) ≠ node) l.length
    ⟨0, rfl, rfl, rfl, by simp⟩ ?_
  rintro k _ _ w1 ⟨i, rfl, rfl, hk, hall⟩
  refine w_seq ?_
  refine w_reg ?_
  refine wl_f (f_lss rfl rfl) ?_
  refine wl_end [(1, _), (10, _), (11, _), (12, _), (13, _)] ⟨rfl, rfl, rfl, rfl, rfl, trivial⟩ ?_
  refine w_seq ?_
  refine w_ifd rfl (fun hc1 => ?_) (fun hc1 => ?_)
  · skip
    have hi : i < l.length := by omega
    obtain ⟨p, hp⟩ : ∃ p, l[i]? = some p := ⟨_, List.getElem?_eq_getElem hi⟩
    refine w_skip ?_
    refine w_seq ?_
    refine w_block ?_
    refine w_seq ?_
    refine w_reg ?_
    refine wl_f (f_move rfl) ?_
    refine wl_with fun hh => ?_
    obtain ⟨g, cap, e⟩ := rowB_form hh (i := 0) (j := 1) rfl rfl (by omega)
    injection e with e1 _ e3
    subst e1; subst e3
    clear hh
    refine wl_f (f_indexAddr 1 (i := i) rfl rfl Try.underlying33 (by kernel_rfl) rfl hi) ?_
    refine wl_f (f_loadBr (v := .int .i64 (p.1 : Int)) 0 1 rfl rfl rfl Try.underlying3 rfl (map_get (Value.int .i64) (by simp [hp]))) ?_
    refine wl_f (f_assign rfl) ?_
    refine wl_f (f_assign rfl) ?_
    refine wl_end [(1, _), (5, _), (6, _), (10, _), (11, _), (12, _)] ⟨rfl, rfl, rfl, rfl, rfl, rfl, trivial⟩ ?_
    refine w_seq ?_
    refine w_reg ?_
    refine wl_f (f_move rfl) ?_
    refine wl_f (f_move rfl) ?_
    refine wl_f (f_eql rfl rfl) ?_
    refine wl_end [(1, _), (5, _), (10, _), (11, _), (12, _), (19, _)] ⟨rfl, rfl, rfl, rfl, rfl, rfl, trivial⟩ ?_
    refine w_ifd rfl (fun hc2 => ?_) (fun hc2 => ?_)
    · skip
      refine w_seq ?_
      refine w_reg ?_
      refine wl_f (f_move rfl) ?_
      refine wl_f (f_assign rfl) ?_
      refine wl_end [(4, _)] ⟨rfl, trivial⟩ ?_
      refine w_ret ?_
      refine ⟨_, _, fun a ha hh => results_tmps Try.results64 rfl a ha _, List.Sublist.refl _, ?_⟩
      refine ⟨rfl, i, rfl, .inr ⟨l.take i, p.1, p.2, l.drop (i + 1), ?_, hc2.symm, by rw [List.length_take]; omega⟩⟩
      obtain ⟨hlt, rfl⟩ := List.getElem?_eq_some_iff.1 hp
      rw [← List.drop_eq_getElem_cons hlt, List.take_append_drop]
    · skip
      refine w_skip ?_
      refine w_reg ?_
      refine wl_f (f_add rfl rfl (by omega)) ?_
      refine wl_f (f_move rfl) ?_
      refine wl_end [(1, _), (10, _), (11, _), (12, _)] ⟨rfl, rfl, rfl, rfl, trivial⟩ ?_
      refine ⟨k - 1, by omega, i + 1, rfl, rfl, by omega, fun p' hp' => ?_⟩
      rw [List.take_add_one, hp] at hp'
      rcases List.mem_append.1 hp' with h | h
      · exact hall p' h
      · simp at h; subst h; exact hc2
  · skip
    refine w_exit0 ?_
    refine w_seq ?_
    refine w_reg ?_
    refine wl_f (f_assign rfl) ?_
    refine wl_end [(4, _)] ⟨rfl, trivial⟩ ?_
    refine w_ret ?_
    refine ⟨_, _, fun a ha hh => results_tmps Try.results64 rfl a ha _, List.Sublist.refl _, ?_⟩
    refine ⟨rfl, -1, rfl, .inl ⟨?_, rfl⟩⟩
    rw [List.take_of_length_le (by omega)] at hall
    cases h : isAt node (nodes l) with
    | false => rfl
    | true =>
      obtain ⟨x, rfl, hx⟩ := isAt_some h
      obtain ⟨p, hp, rfl⟩ := List.mem_map.1 hx
      exact absurd rfl (hall p hp)

theorem rplace_at {l : List (Nat × Int)} {node y : Int} (h : placeOf l node y) (hy : ¬ y < 0) : ∃ A x a B, l = A ++ (x, a) :: B ∧ node = (x : Nat) ∧ y = (A.length : Nat) := by
  rcases h with ⟨_, rfl⟩ | h
  · omega
  · exact h
theorem rplace_no {l : List (Nat × Int)} {node y : Int} (h : placeOf l node y) (hy : y < 0) : isAt node (nodes l) = false := by
  rcases h with ⟨h, _⟩ | ⟨A, x, a, B, _, _, rfl⟩
  · exact h
  · omega
theorem iv_len (l : List Int) : (iv l).length = l.length := by simp [iv]
theorem iv_take (l : List Int) (k : Nat) : iv (l.take k) = (iv l).take k := by simp [iv, List.map_take]
theorem iv_drop (l : List Int) (k : Nat) : iv (l.drop k) = (iv l).drop k := by simp [iv, List.map_drop]
theorem iv_one (l : List Int) : ∀ u ∈ iv l, u.oneCell' = true := by
  intro u hu; simp only [iv, List.mem_map] at hu; obtain ⟨b, _, rfl⟩ := hu; rfl
theorem mid_one {l : List Value} (h : ∀ u ∈ l, u.oneCell' = true) (a b : Nat) : ∀ u ∈ (l.drop a).take b, u.oneCell' = true := fun u hu => h u (List.mem_of_mem_drop (List.mem_of_mem_take hu))

theorem ins_cells (L : List Int) (k : Nat) (x : Int) (hk : k ≤ L.length) : [] ++ ((iv L).drop (0 * 1)).take ((k - 0) * 1) ++ [Value.int .i64 x] ++ ((iv L).drop (k * 1)).take ((L.length - k) * 1) = iv (L.take k ++ x :: L.drop k) := by
  simp only [Nat.mul_one, List.drop_zero, Nat.sub_zero, List.nil_append]
  rw [List.take_of_length_le (i := L.length - k) (by rw [List.length_drop, iv_len]; omega)]
  simp [iv, List.map_take, List.map_drop]
theorem del_cells (L : List Int) (k : Nat) : [] ++ ((iv L).drop (0 * 1)).take ((k - 0) * 1) ++ ((iv L).drop ((k + 1) * 1)).take ((L.length - (k + 1)) * 1) = iv (L.take k ++ L.drop (k + 1)) := by
  simp only [Nat.mul_one, List.drop_zero, Nat.sub_zero, List.nil_append]
  rw [List.take_of_length_le (i := L.length - (k + 1)) (by rw [List.length_drop, iv_len]; omega)]
  simp [iv, List.map_take, List.map_drop]
theorem del_map {β γ : Type} (f : β → γ) (A B : List β) (p : β) : ((A ++ p :: B).map f).take A.length ++ ((A ++ p :: B).map f).drop (A.length + 1) = (A ++ B).map f := by
  simp [List.take_append, List.drop_append]
theorem take_map_left {β γ : Type} (f : β → γ) (A B : List β) : ((A ++ B).map f).take A.length = A.map f ∧ ((A ++ B).map f).drop A.length = B.map f := by simp

set_option maxHeartbeats 4000000 in
theorem rinsert_spec (q n : Nat) (A B : List (Nat × Int)) (v : Int) (r : Res) (w : World) (hn : n ≤ 8192) (hl : (A ++ B).length ≤ n) (hnd : (nodes (A ++ B)).Nodup) (hr : RefR q n (A ++ B) r) (hs : Holds w r.foot [r] w) :
    Spec Try.prog 29 [.pointer (some ⟨q, 0, .none⟩), .int .i64 (A.length : Nat), .int .i64 v] w r.foot fun u H => NewG (RefR q n) n A B v r u H := by
  have hAl : A.length ≤ (A ++ B).length := by simp
  refine enter (n := 68) Try.func29 rfl rfl [(0, _), (1, _), (2, _)] rfl ⟨rfl, rfl, rfl, trivial⟩ hs ?_
  obtain ⟨NV, VV, rfl⟩ := id hr
  refine w_with fun hh => ?_
  obtain ⟨N, cn, rfl⟩ := rowB_slice hh (i := 0) (j := 1) rfl rfl
  obtain ⟨V, cv, rfl⟩ := rowB_slice hh (i := 0) (j := 2) rfl rfl
  clear hh
  refine w_seq ?_
  refine w_reg ?_
  refine wl_f (f_assign rfl) ?_
  refine wl_f (f_assign rfl) ?_
  refine wl_end [(0, _), (1, _), (2, _)] ⟨rfl, rfl, rfl, trivial⟩ ?_
  refine w_seq ?_
  refine w_seq ?_
  refine w_draw [(0, true), (1, true), (2, true), (3, true), (4, true), (5, true), (6, true), (7, true), (8, true), (9, true)] (_) ([]) mixed (by kernel_rfl) (by kernel_rfl) rfl (perm_all _) (fun w1_ => ?_)
  refine wd_f rfl (f_move rfl) ?_
  refine wd_f rfl (f_nilCheck rfl) ?_
  refine wd_f rfl (f_fieldAddr 1 rfl Try.underlying50 rfl rfl (by kernel_rfl)) ?_
  refine wd_f rfl (f_loadB 0 0 rfl rfl rfl Try.underlying33 rfl rfl) ?_
  refine wd_f rfl (f_len rfl Try.underlying33) ?_
  refine wd_f rfl (f_move rfl) ?_
  refine wd_f rfl (f_nilCheck rfl) ?_
  refine wd_f rfl (f_fieldAddr 0 rfl Try.underlying50 rfl rfl (by kernel_rfl)) ?_
  refine wd_f rfl (f_loadB 0 0 rfl rfl rfl Try.underlying3 rfl rfl) ?_
  refine wd_f rfl (f_eql rfl rfl) ?_
  refine wd_end [(0, _), (1, _), (2, _), (18, _)] ⟨rfl, rfl, rfl, rfl, trivial⟩ ?_
  refine w_ifd rfl (fun hc1 => ?_) (fun hc1 => ?_)
  · skip
    refine w_seq ?_
    refine w_reg ?_
    refine wl_f (f_assign rfl) ?_
    refine wl_f (f_assign rfl) ?_
    refine wl_end [(6, _), (7, _)] ⟨rfl, rfl, trivial⟩ ?_
    refine w_ret ?_
    refine ⟨_, _, fun a ha hh => results_tmps Try.results29 rfl a ha _, List.Sublist.refl _, ?_⟩
    exact .inl ⟨by omega, rfl, rfl⟩
  · skip
    have hlt : (A ++ B).length < n := by omega
    refine w_skip ?_
    refine w_seq ?_
    refine w_reg ?_
    refine wl_f (f_assign rfl) ?_
    refine wl_end [(0, _), (1, _), (2, _), (8, _)] ⟨rfl, rfl, rfl, rfl, trivial⟩ ?_
    refine w_seq ?_
    refine w_block ?_
    refine w_loop (fun k m H w => ∃ x : Nat, m = [(0, .pointer (some ⟨q, 0, .none⟩)), (1, .int .i64 (A.length : Nat)), (2, .int .i64 v), (8, .int .i64 x)] ∧ H = [bun (rls q n (A ++ B) (.slice N (A ++ B).length cn) (.slice V (A ++ B).length cv))] ∧ k + x = 8193 ∧ ∀ j < x, j ∈ nodes (A ++ B)) 8193
      ⟨0, rfl, rfl, rfl, by omega⟩ ?_
    rintro k _ _ w1 ⟨x, rfl, rfl, hk, hall⟩
    have hxl : x ≤ (A ++ B).length := by
      have := nodup_subset_len (List.range x) (nodes (A ++ B)) List.nodup_range fun j hj => hall j (List.mem_range.1 hj)
      simpa using this
    refine w_seq ?_
    refine w_seq ?_
    refine w_reg ?_
    refine wl_f (f_move rfl) ?_
    refine wl_f (f_move rfl) ?_
    refine wl_e (e_call1 _ [] rfl Try.func64 (by kernel_rfl) (List.Perm.refl _) (fun w hh hs => rplace_spec q n (A ++ B) _ (x : Nat) w (by omega) hr hs)) ?_
    rintro _ _ w2 ⟨_, rfl, rfl, y, rfl, hy⟩
    refine wl_f (f_geq rfl rfl) ?_
    refine wl_end [(0, _), (1, _), (2, _), (8, _), (22, _)] ⟨rfl, rfl, rfl, rfl, rfl, trivial⟩ ?_
    refine w_ifd rfl (fun hc2 => ?_) (fun hc2 => ?_)
    · skip
      obtain ⟨A', x', a', B', he, hx', _⟩ := rplace_at hy (by omega)
      obtain rfl : x = x' := by omega
      have hxm : x ∈ nodes (A ++ B) := by rw [he, nodes_split]; simp
      refine w_skip ?_
      refine w_block ?_
      refine w_reg ?_
      refine wl_f (f_move rfl) ?_
      refine wl_f (f_add rfl rfl (by omega)) ?_
      refine wl_f (f_assign rfl) ?_
      refine wl_end [(0, _), (1, _), (2, _), (8, _)] ⟨rfl, rfl, rfl, rfl, trivial⟩ ?_
      refine ⟨k - 1, by omega, x + 1, rfl, rfl, by omega, fun j hj => ?_⟩
      rcases Nat.lt_or_eq_of_le (Nat.le_of_lt_succ hj) with h | rfl
      · exact hall j h
      · exact hxm
    · skip
      have hno := rplace_no hy (by omega)
      have hfr : Fresh (nodes (A ++ B)) x := ⟨fun h => Bool.noConfusion ((List.contains_iff_mem.2 h).symm.trans (isAt_nat.symm.trans hno)), hall⟩
      refine w_with fun hh => ?_
      have hcn : (A ++ B).length ≤ cn := by
        obtain ⟨_, _, e, _, h, _⟩ := Rd.heldB hh (i := 0) (j := 1) rfl rfl
        injection e with _ _ e
        subst e
        exact h
      have hcv : (A ++ B).length ≤ cv := by
        obtain ⟨_, _, e, _, h, _⟩ := Rd.heldB hh (i := 0) (j := 2) rfl rfl
        injection e with _ _ e
        subst e
        exact h
      clear hh
      have hlen : 0 + (A.length - 0) + 1 + ((A ++ B).length - A.length) = (A ++ B).length + 1 := by omega
      refine w_unb (H := []) (rls q n (A ++ B) (.slice N (A ++ B).length cn) (.slice V (A ++ B).length cv)) ?_
      refine w_exit0 ?_
      refine w_seq ?_
      refine w_post (fun m H w' => ∃ (U : Option Addr) (cu : Nat), m = [(0, .pointer (some ⟨q, 0, .none⟩)), (1, .int .i64 (A.length : Nat)), (2, .int .i64 v), (8, .int .i64 x)] ∧ H = [blk q [.int .i64 (n : Int), .slice U ((A ++ B).length + 1) cu, .slice V (A ++ B).length cv] 50, row (.slice U ((A ++ B).length + 1) cu) 3 1 ((A ++ B).length + 1) (iv (((A ++ B).map fun p => (p.1 : Int)).take A.length ++ (x : Int) :: ((A ++ B).map fun p => (p.1 : Int)).drop A.length)), row (.slice V (A ++ B).length cv) 3 1 (A ++ B).length (iv ((A ++ B).map Prod.snd))]) ?_ ?_
      · skip
        refine w_drawx (.fl 0 (.fl 2 (.fl 3 (.fl 4 (.fl 5 (.fl 6 (.fl 7 (.fl 9 (.fl 12 (.fl 13 (.fl 14 (.fl 15 (.fl 16 (.fl 17 (.two 1 (.two 8 (.ef 10 (.ef 11 (.ef 18 (.fl 19 (.fl 20 (.ef 21 .done)))))) 10 (.ef 8 (.ef 11 (.ef 18 (.fl 19 (.fl 20 (.ef 21 .done))))))) 10 (.ef 1 (.ef 8 (.ef 11 (.ef 18 (.fl 19 (.fl 20 (.ef 21 .done)))))))))))))))))))))) ([(_, some 21), (_, none)]) ([_]) mixed (by kernel_rfl) (by kernel_rfl) rfl rfl (List.Perm.refl _) (fun w6_ => ?_)
        refine wx_f rfl (f_move rfl) ?_
        refine wx_f rfl (f_move rfl) ?_
        refine wx_f rfl (f_nilCheck rfl) ?_
        refine wx_f rfl (f_fieldAddr 1 rfl Try.underlying50 rfl rfl (by kernel_rfl)) ?_
        (first | refine wx_f rfl (f_loadb 0 rfl Try.underlying33 rfl rfl rfl) ?_ | refine wx_f rfl (f_loadb 1 rfl Try.underlying33 rfl rfl rfl) ?_ | refine wx_f rfl (f_loadb 2 rfl Try.underlying33 rfl rfl rfl) ?_ | refine wx_f rfl (f_loadb 3 rfl Try.underlying33 rfl rfl rfl) ?_ | refine wx_f rfl (f_loadb 4 rfl Try.underlying33 rfl rfl rfl) ?_ | refine wx_f rfl (f_loadb 5 rfl Try.underlying33 rfl rfl rfl) ?_ | refine wx_f rfl (f_loadb 6 rfl Try.underlying33 rfl rfl rfl) ?_)
        refine wx_f rfl (f_move rfl) ?_
        refine wx_f rfl (f_sliceA 1 (l := 0) (u := A.length) rfl Try.underlying33 (by kernel_rfl) rfl ⟨_, rfl⟩ (by omega) (by omega)) ?_
        refine wx_f rfl (f_move rfl) ?_
        refine wx_f rfl (f_move rfl) ?_
        refine wx_f rfl (f_nilCheck rfl) ?_
        refine wx_f rfl (f_fieldAddr 1 rfl Try.underlying50 rfl rfl (by kernel_rfl)) ?_
        (first | refine wx_f rfl (f_loadb 0 rfl Try.underlying33 rfl rfl rfl) ?_ | refine wx_f rfl (f_loadb 1 rfl Try.underlying33 rfl rfl rfl) ?_ | refine wx_f rfl (f_loadb 2 rfl Try.underlying33 rfl rfl rfl) ?_ | refine wx_f rfl (f_loadb 3 rfl Try.underlying33 rfl rfl rfl) ?_ | refine wx_f rfl (f_loadb 4 rfl Try.underlying33 rfl rfl rfl) ?_ | refine wx_f rfl (f_loadb 5 rfl Try.underlying33 rfl rfl rfl) ?_ | refine wx_f rfl (f_loadb 6 rfl Try.underlying33 rfl rfl rfl) ?_)
        refine wx_f rfl (f_move rfl) ?_
        refine wx_f rfl (f_sliceA 1 (l := A.length) (u := (A ++ B).length) rfl Try.underlying33 (by kernel_rfl) ⟨_, rfl⟩ rfl (by omega) (by omega)) ?_
        refine wx_two ?_ ?_
        · skip
          refine ks_e rfl (e_lit0 t33) ?_
          rintro _ _ w6_1 ⟨b6_1, rfl, rfl⟩
          refine ⟨_, List.perm_middle.symm, ?_⟩
          refine wx_two ?_ ?_
          · skip
            refine ks_e rfl (e_appN 2 t33 rfl rfl rfl (fun w hh => (Rd.held0 hh (i := 1) rfl).cut (l := 0) (u := A.length) (by omega) (by omega)) (mid_one (iv_one _) _ _) (by omega) (by omega)) ?_
            rintro _ _ w6_8 ⟨⟨U1, a1, rfl⟩, rfl⟩
            refine ⟨_, List.Perm.refl _, ?_⟩
            refine wx_ef ?_
            refine ks_e rfl (e_lit1 (cs := [_]) t33 rfl rfl rfl (by omega)) ?_
            rintro _ _ w6_10 ⟨b6_10, rfl, rfl⟩
            refine ⟨_, List.perm_middle.symm, ?_⟩
            refine wx_ef ?_
            refine ks_e rfl (e_appN 3 t33 rfl rfl rfl (fun w hh => Rd.held0 hh (i := 2) rfl) (by simp [Value.oneCell']) (by omega) (by omega)) ?_
            rintro _ _ w6_11 ⟨⟨U2, a2, rfl⟩, rfl⟩
            refine ⟨_, List.Perm.refl _, ?_⟩
            refine wx_ef ?_
            refine ks_e rfl (e_appN 3 t33 rfl rfl rfl (fun w hh => (Rd.held0 hh (i := 1) rfl).cut (l := A.length) (u := (A ++ B).length) (by omega) (by omega)) (mid_one (iv_one _) _ _) (by omega) (by omega)) ?_
            rintro _ _ w6_18 ⟨⟨U3, a3, rfl⟩, rfl⟩
            refine ⟨_, List.Perm.refl _, ?_⟩
            refine wx_f rfl (f_nilCheck rfl) ?_
            refine wx_f rfl (f_fieldAddr 1 rfl Try.underlying50 rfl rfl (by kernel_rfl)) ?_
            refine wx_ef ?_
            refine ks_e0 rfl (e_storeN 0 (us := [_]) rfl rfl rfl rfl (by kernel_rfl) (by simp [Value.oneCell']) rfl rfl) ?_
            rintro _ _ w6_21 rfl
            refine ⟨_, pick_perm [1] _ rfl, ?_⟩
            refine wx_endp [(0, _), (1, _), (2, _), (8, _)] [1, 2, 2] ⟨rfl, rfl, rfl, rfl, trivial⟩ rfl ?_
            refine ⟨U3, a3, rfl, ?_⟩
            have hcells := ins_cells ((A ++ B).map fun p => (p.1 : Int)) A.length (x : Int) (by rw [List.length_map]; omega)
            rw [List.length_map] at hcells
            rw [hlen, hcells]
            rfl
          · skip
            refine ks_e rfl (e_lit1 (cs := [_]) t33 rfl rfl rfl (by omega)) ?_
            rintro _ _ w6_10 ⟨b6_10, rfl, rfl⟩
            refine ⟨_, List.perm_middle.symm, ?_⟩
            refine wx_ef ?_
            refine ks_e rfl (e_appN 3 t33 rfl rfl rfl (fun w hh => (Rd.held0 hh (i := 1) rfl).cut (l := 0) (u := A.length) (by omega) (by omega)) (mid_one (iv_one _) _ _) (by omega) (by omega)) ?_
            rintro _ _ w6_8 ⟨⟨U1, a1, rfl⟩, rfl⟩
            refine ⟨_, List.Perm.refl _, ?_⟩
            refine wx_ef ?_
            refine ks_e rfl (e_appN 3 t33 rfl rfl rfl (fun w hh => Rd.held0 hh (i := 2) rfl) (by simp [Value.oneCell']) (by omega) (by omega)) ?_
            rintro _ _ w6_11 ⟨⟨U2, a2, rfl⟩, rfl⟩
            refine ⟨_, List.Perm.refl _, ?_⟩
            refine wx_ef ?_
            refine ks_e rfl (e_appN 3 t33 rfl rfl rfl (fun w hh => (Rd.held0 hh (i := 1) rfl).cut (l := A.length) (u := (A ++ B).length) (by omega) (by omega)) (mid_one (iv_one _) _ _) (by omega) (by omega)) ?_
            rintro _ _ w6_18 ⟨⟨U3, a3, rfl⟩, rfl⟩
            refine ⟨_, List.Perm.refl _, ?_⟩
            refine wx_f rfl (f_nilCheck rfl) ?_
            refine wx_f rfl (f_fieldAddr 1 rfl Try.underlying50 rfl rfl (by kernel_rfl)) ?_
            refine wx_ef ?_
            refine ks_e0 rfl (e_storeN 0 (us := [_]) rfl rfl rfl rfl (by kernel_rfl) (by simp [Value.oneCell']) rfl rfl) ?_
            rintro _ _ w6_21 rfl
            refine ⟨_, pick_perm [1] _ rfl, ?_⟩
            refine wx_endp [(0, _), (1, _), (2, _), (8, _)] [1, 2, 2] ⟨rfl, rfl, rfl, rfl, trivial⟩ rfl ?_
            refine ⟨U3, a3, rfl, ?_⟩
            have hcells := ins_cells ((A ++ B).map fun p => (p.1 : Int)) A.length (x : Int) (by rw [List.length_map]; omega)
            rw [List.length_map] at hcells
            rw [hlen, hcells]
            rfl
        · skip
          refine ks_e rfl (e_lit1 (cs := [_]) t33 rfl rfl rfl (by omega)) ?_
          rintro _ _ w6_10 ⟨b6_10, rfl, rfl⟩
          refine ⟨_, List.perm_middle.symm, ?_⟩
          refine wx_ef ?_
          refine ks_e rfl (e_lit0 t33) ?_
          rintro _ _ w6_1 ⟨b6_1, rfl, rfl⟩
          refine ⟨_, List.perm_middle.symm, ?_⟩
          refine wx_ef ?_
          refine ks_e rfl (e_appN 2 t33 rfl rfl rfl (fun w hh => (Rd.held0 hh (i := 1) rfl).cut (l := 0) (u := A.length) (by omega) (by omega)) (mid_one (iv_one _) _ _) (by omega) (by omega)) ?_
          rintro _ _ w6_8 ⟨⟨U1, a1, rfl⟩, rfl⟩
          refine ⟨_, List.Perm.refl _, ?_⟩
          refine wx_ef ?_
          refine ks_e rfl (e_appN 2 t33 rfl rfl rfl (fun w hh => Rd.held0 hh (i := 3) rfl) (by simp [Value.oneCell']) (by omega) (by omega)) ?_
          rintro _ _ w6_11 ⟨⟨U2, a2, rfl⟩, rfl⟩
          refine ⟨_, List.Perm.refl _, ?_⟩
          refine wx_ef ?_
          refine ks_e rfl (e_appN 2 t33 rfl rfl rfl (fun w hh => (Rd.held0 hh (i := 1) rfl).cut (l := A.length) (u := (A ++ B).length) (by omega) (by omega)) (mid_one (iv_one _) _ _) (by omega) (by omega)) ?_
          rintro _ _ w6_18 ⟨⟨U3, a3, rfl⟩, rfl⟩
          refine ⟨_, List.Perm.refl _, ?_⟩
          refine wx_f rfl (f_nilCheck rfl) ?_
          refine wx_f rfl (f_fieldAddr 1 rfl Try.underlying50 rfl rfl (by kernel_rfl)) ?_
          refine wx_ef ?_
          refine ks_e0 rfl (e_storeN 0 (us := [_]) rfl rfl rfl rfl (by kernel_rfl) (by simp [Value.oneCell']) rfl rfl) ?_
          rintro _ _ w6_21 rfl
          refine ⟨_, pick_perm [1] _ rfl, ?_⟩
          refine wx_endp [(0, _), (1, _), (2, _), (8, _)] [1, 1, 2] ⟨rfl, rfl, rfl, rfl, trivial⟩ rfl ?_
          refine ⟨U3, a3, rfl, ?_⟩
          have hcells := ins_cells ((A ++ B).map fun p => (p.1 : Int)) A.length (x : Int) (by rw [List.length_map]; omega)
          rw [List.length_map] at hcells
          rw [hlen, hcells]
          rfl
      rintro _ _ w6_ ⟨U6, a6, rfl, rfl⟩
      refine w_seq ?_
      refine w_post (fun m H w' => ∃ (U : Option Addr) (cu : Nat), m = [(8, .int .i64 x)] ∧ H = [blk q [.int .i64 (n : Int), .slice U6 ((A ++ B).length + 1) a6, .slice U ((A ++ B).length + 1) cu] 50, row (.slice U6 ((A ++ B).length + 1) a6) 3 1 ((A ++ B).length + 1) (iv (((A ++ B).map fun p => (p.1 : Int)).take A.length ++ (x : Int) :: ((A ++ B).map fun p => (p.1 : Int)).drop A.length)), row (.slice U ((A ++ B).length + 1) cu) 3 1 ((A ++ B).length + 1) (iv (((A ++ B).map Prod.snd).take A.length ++ v :: ((A ++ B).map Prod.snd).drop A.length))]) ?_ ?_
      · skip
        refine w_drawx (.fl 0 (.fl 2 (.fl 3 (.fl 4 (.fl 5 (.fl 6 (.fl 7 (.fl 9 (.fl 12 (.fl 13 (.fl 14 (.fl 15 (.fl 16 (.fl 17 (.two 1 (.two 8 (.ef 10 (.ef 11 (.ef 18 (.fl 19 (.fl 20 (.ef 21 .done)))))) 10 (.ef 8 (.ef 11 (.ef 18 (.fl 19 (.fl 20 (.ef 21 .done))))))) 10 (.ef 1 (.ef 8 (.ef 11 (.ef 18 (.fl 19 (.fl 20 (.ef 21 .done)))))))))))))))))))))) ([(_, some 21), (_, none)]) ([_]) mixed (by kernel_rfl) (by kernel_rfl) rfl rfl (pick_perm [0, 1] _ rfl) (fun w7_ => ?_)
        refine wx_f rfl (f_move rfl) ?_
        refine wx_f rfl (f_move rfl) ?_
        refine wx_f rfl (f_nilCheck rfl) ?_
        refine wx_f rfl (f_fieldAddr 2 rfl Try.underlying50 rfl rfl (by kernel_rfl)) ?_
        (first | refine wx_f rfl (f_loadb 0 rfl Try.underlying33 rfl rfl rfl) ?_ | refine wx_f rfl (f_loadb 1 rfl Try.underlying33 rfl rfl rfl) ?_ | refine wx_f rfl (f_loadb 2 rfl Try.underlying33 rfl rfl rfl) ?_ | refine wx_f rfl (f_loadb 3 rfl Try.underlying33 rfl rfl rfl) ?_ | refine wx_f rfl (f_loadb 4 rfl Try.underlying33 rfl rfl rfl) ?_ | refine wx_f rfl (f_loadb 5 rfl Try.underlying33 rfl rfl rfl) ?_ | refine wx_f rfl (f_loadb 6 rfl Try.underlying33 rfl rfl rfl) ?_)
        refine wx_f rfl (f_move rfl) ?_
        refine wx_f rfl (f_sliceA 1 (l := 0) (u := A.length) rfl Try.underlying33 (by kernel_rfl) rfl ⟨_, rfl⟩ (by omega) (by omega)) ?_
        refine wx_f rfl (f_move rfl) ?_
        refine wx_f rfl (f_move rfl) ?_
        refine wx_f rfl (f_nilCheck rfl) ?_
        refine wx_f rfl (f_fieldAddr 2 rfl Try.underlying50 rfl rfl (by kernel_rfl)) ?_
        (first | refine wx_f rfl (f_loadb 0 rfl Try.underlying33 rfl rfl rfl) ?_ | refine wx_f rfl (f_loadb 1 rfl Try.underlying33 rfl rfl rfl) ?_ | refine wx_f rfl (f_loadb 2 rfl Try.underlying33 rfl rfl rfl) ?_ | refine wx_f rfl (f_loadb 3 rfl Try.underlying33 rfl rfl rfl) ?_ | refine wx_f rfl (f_loadb 4 rfl Try.underlying33 rfl rfl rfl) ?_ | refine wx_f rfl (f_loadb 5 rfl Try.underlying33 rfl rfl rfl) ?_ | refine wx_f rfl (f_loadb 6 rfl Try.underlying33 rfl rfl rfl) ?_)
        refine wx_f rfl (f_move rfl) ?_
        refine wx_f rfl (f_sliceA 1 (l := A.length) (u := (A ++ B).length) rfl Try.underlying33 (by kernel_rfl) ⟨_, rfl⟩ rfl (by omega) (by omega)) ?_
        refine wx_two ?_ ?_
        · skip
          refine ks_e rfl (e_lit0 t33) ?_
          rintro _ _ w7_1 ⟨b7_1, rfl, rfl⟩
          refine ⟨_, List.perm_middle.symm, ?_⟩
          refine wx_two ?_ ?_
          · skip
            refine ks_e rfl (e_appN 2 t33 rfl rfl rfl (fun w hh => (Rd.held0 hh (i := 1) rfl).cut (l := 0) (u := A.length) (by omega) (by omega)) (mid_one (iv_one _) _ _) (by omega) (by omega)) ?_
            rintro _ _ w7_8 ⟨⟨U1, a1, rfl⟩, rfl⟩
            refine ⟨_, List.Perm.refl _, ?_⟩
            refine wx_ef ?_
            refine ks_e rfl (e_lit1 (cs := [_]) t33 rfl rfl rfl (by omega)) ?_
            rintro _ _ w7_10 ⟨b7_10, rfl, rfl⟩
            refine ⟨_, List.perm_middle.symm, ?_⟩
            refine wx_ef ?_
            refine ks_e rfl (e_appN 3 t33 rfl rfl rfl (fun w hh => Rd.held0 hh (i := 2) rfl) (by simp [Value.oneCell']) (by omega) (by omega)) ?_
            rintro _ _ w7_11 ⟨⟨U2, a2, rfl⟩, rfl⟩
            refine ⟨_, List.Perm.refl _, ?_⟩
            refine wx_ef ?_
            refine ks_e rfl (e_appN 3 t33 rfl rfl rfl (fun w hh => (Rd.held0 hh (i := 1) rfl).cut (l := A.length) (u := (A ++ B).length) (by omega) (by omega)) (mid_one (iv_one _) _ _) (by omega) (by omega)) ?_
            rintro _ _ w7_18 ⟨⟨U3, a3, rfl⟩, rfl⟩
            refine ⟨_, List.Perm.refl _, ?_⟩
            refine wx_f rfl (f_nilCheck rfl) ?_
            refine wx_f rfl (f_fieldAddr 2 rfl Try.underlying50 rfl rfl (by kernel_rfl)) ?_
            refine wx_ef ?_
            refine ks_e0 rfl (e_storeN 0 (us := [_]) rfl rfl rfl rfl (by kernel_rfl) (by simp [Value.oneCell']) rfl rfl) ?_
            rintro _ _ w7_21 rfl
            refine ⟨_, pick_perm [1] _ rfl, ?_⟩
            refine wx_endp [(8, _)] [1, 3, 2] ⟨rfl, trivial⟩ rfl ?_
            refine ⟨U3, a3, rfl, ?_⟩
            have hcells := ins_cells ((A ++ B).map Prod.snd) A.length v (by rw [List.length_map]; omega)
            rw [List.length_map] at hcells
            rw [hlen, hcells]
            rfl
          · skip
            refine ks_e rfl (e_lit1 (cs := [_]) t33 rfl rfl rfl (by omega)) ?_
            rintro _ _ w7_10 ⟨b7_10, rfl, rfl⟩
            refine ⟨_, List.perm_middle.symm, ?_⟩
            refine wx_ef ?_
            refine ks_e rfl (e_appN 3 t33 rfl rfl rfl (fun w hh => (Rd.held0 hh (i := 1) rfl).cut (l := 0) (u := A.length) (by omega) (by omega)) (mid_one (iv_one _) _ _) (by omega) (by omega)) ?_
            rintro _ _ w7_8 ⟨⟨U1, a1, rfl⟩, rfl⟩
            refine ⟨_, List.Perm.refl _, ?_⟩
            refine wx_ef ?_
            refine ks_e rfl (e_appN 3 t33 rfl rfl rfl (fun w hh => Rd.held0 hh (i := 2) rfl) (by simp [Value.oneCell']) (by omega) (by omega)) ?_
            rintro _ _ w7_11 ⟨⟨U2, a2, rfl⟩, rfl⟩
            refine ⟨_, List.Perm.refl _, ?_⟩
            refine wx_ef ?_
            refine ks_e rfl (e_appN 3 t33 rfl rfl rfl (fun w hh => (Rd.held0 hh (i := 1) rfl).cut (l := A.length) (u := (A ++ B).length) (by omega) (by omega)) (mid_one (iv_one _) _ _) (by omega) (by omega)) ?_
            rintro _ _ w7_18 ⟨⟨U3, a3, rfl⟩, rfl⟩
            refine ⟨_, List.Perm.refl _, ?_⟩
            refine wx_f rfl (f_nilCheck rfl) ?_
            refine wx_f rfl (f_fieldAddr 2 rfl Try.underlying50 rfl rfl (by kernel_rfl)) ?_
            refine wx_ef ?_
            refine ks_e0 rfl (e_storeN 0 (us := [_]) rfl rfl rfl rfl (by kernel_rfl) (by simp [Value.oneCell']) rfl rfl) ?_
            rintro _ _ w7_21 rfl
            refine ⟨_, pick_perm [1] _ rfl, ?_⟩
            refine wx_endp [(8, _)] [1, 3, 2] ⟨rfl, trivial⟩ rfl ?_
            refine ⟨U3, a3, rfl, ?_⟩
            have hcells := ins_cells ((A ++ B).map Prod.snd) A.length v (by rw [List.length_map]; omega)
            rw [List.length_map] at hcells
            rw [hlen, hcells]
            rfl
        · skip
          refine ks_e rfl (e_lit1 (cs := [_]) t33 rfl rfl rfl (by omega)) ?_
          rintro _ _ w7_10 ⟨b7_10, rfl, rfl⟩
          refine ⟨_, List.perm_middle.symm, ?_⟩
          refine wx_ef ?_
          refine ks_e rfl (e_lit0 t33) ?_
          rintro _ _ w7_1 ⟨b7_1, rfl, rfl⟩
          refine ⟨_, List.perm_middle.symm, ?_⟩
          refine wx_ef ?_
          refine ks_e rfl (e_appN 2 t33 rfl rfl rfl (fun w hh => (Rd.held0 hh (i := 1) rfl).cut (l := 0) (u := A.length) (by omega) (by omega)) (mid_one (iv_one _) _ _) (by omega) (by omega)) ?_
          rintro _ _ w7_8 ⟨⟨U1, a1, rfl⟩, rfl⟩
          refine ⟨_, List.Perm.refl _, ?_⟩
          refine wx_ef ?_
          refine ks_e rfl (e_appN 2 t33 rfl rfl rfl (fun w hh => Rd.held0 hh (i := 3) rfl) (by simp [Value.oneCell']) (by omega) (by omega)) ?_
          rintro _ _ w7_11 ⟨⟨U2, a2, rfl⟩, rfl⟩
          refine ⟨_, List.Perm.refl _, ?_⟩
          refine wx_ef ?_
          refine ks_e rfl (e_appN 2 t33 rfl rfl rfl (fun w hh => (Rd.held0 hh (i := 1) rfl).cut (l := A.length) (u := (A ++ B).length) (by omega) (by omega)) (mid_one (iv_one _) _ _) (by omega) (by omega)) ?_
          rintro _ _ w7_18 ⟨⟨U3, a3, rfl⟩, rfl⟩
          refine ⟨_, List.Perm.refl _, ?_⟩
          refine wx_f rfl (f_nilCheck rfl) ?_
          refine wx_f rfl (f_fieldAddr 2 rfl Try.underlying50 rfl rfl (by kernel_rfl)) ?_
          refine wx_ef ?_
          refine ks_e0 rfl (e_storeN 0 (us := [_]) rfl rfl rfl rfl (by kernel_rfl) (by simp [Value.oneCell']) rfl rfl) ?_
          rintro _ _ w7_21 rfl
          refine ⟨_, pick_perm [1] _ rfl, ?_⟩
          refine wx_endp [(8, _)] [1, 3, 1] ⟨rfl, trivial⟩ rfl ?_
          refine ⟨U3, a3, rfl, ?_⟩
          have hcells := ins_cells ((A ++ B).map Prod.snd) A.length v (by rw [List.length_map]; omega)
          rw [List.length_map] at hcells
          rw [hlen, hcells]
          rfl
      rintro _ _ w7_ ⟨U7, a7, rfl, rfl⟩
      refine w_seq ?_
      refine w_reg ?_
      refine wl_f (f_move rfl) ?_
      refine wl_f (f_assign rfl) ?_
      refine wl_f (f_assign rfl) ?_
      refine wl_end [(6, _), (7, _)] ⟨rfl, rfl, trivial⟩ ?_
      refine w_bun (H := []) [_, _, _] ?_
      refine w_ret ?_
      refine ⟨_, _, fun a ha hh => results_tmps Try.results29 rfl a ha _, List.Sublist.refl _, ?_⟩
      refine .inr ⟨by omega, x, _, hfr, rfl, rfl, .slice U6 ((A ++ B).length + 1) a6, .slice U7 ((A ++ B).length + 1) a7, ?_⟩
      have e1 : (A ++ (x, v) :: B).length = (A ++ B).length + 1 := by simp; omega
      have e2 := take_map_left (fun p : Nat × Int => (p.1 : Int)) A B
      have e3 := take_map_left (Prod.snd : Nat × Int → Int) A B
      rw [rls, e1, e2.1, e2.2, e3.1, e3.2, List.map_append, List.map_cons, List.map_append, List.map_cons]

set_option maxHeartbeats 1000000 in
theorem rinsertAfter_spec (q n : Nat) (l : List (Nat × Int)) (node : Int) (v : Int) (r : Res) (w : World) (hn : n ≤ 8192) (hl : l.length ≤ n) (hnd : (nodes l).Nodup) (hr : RefR q n l r) (hs : Holds w r.foot [r] w) :
    Spec Try.prog 32 [.pointer (some ⟨q, 0, .none⟩), .int .i64 node, .int .i64 v] w r.foot fun u H => BehindG (RefR q n) n l node v r u H := by
  refine enter (n := 21) Try.func32 rfl rfl [(0, _), (1, _), (2, _)] rfl ⟨rfl, rfl, rfl, trivial⟩ hs ?_
  refine w_seq ?_
  refine w_reg ?_
  refine wl_f (f_assign rfl) ?_
  refine wl_f (f_assign rfl) ?_
  refine wl_end [(0, _), (1, _), (2, _)] ⟨rfl, rfl, rfl, trivial⟩ ?_
  refine w_seq ?_
  refine w_reg ?_
  refine wl_f (f_move rfl) ?_
  refine wl_f (f_move rfl) ?_
  refine wl_e (e_call1 r [] rfl Try.func64 (by kernel_rfl) (List.Perm.refl _) (fun w hh hs => rplace_spec q n l r node w (by omega) hr hs)) ?_
  rintro _ _ w2 ⟨_, rfl, rfl, y, rfl, hy⟩
  refine wl_f (f_assign rfl) ?_
  refine wl_end [(0, _), (2, _), (8, _)] ⟨rfl, rfl, rfl, trivial⟩ ?_
  refine w_seq ?_
  refine w_seq ?_
  refine w_reg ?_
  refine wl_f (f_move rfl) ?_
  refine wl_f (f_lss rfl rfl) ?_
  refine wl_end [(0, _), (2, _), (8, _), (13, _)] ⟨rfl, rfl, rfl, rfl, trivial⟩ ?_
  refine w_ifd rfl (fun hc1 => ?_) (fun hc1 => ?_)
  · skip
    refine w_seq ?_
    refine w_reg ?_
    refine wl_f (f_assign rfl) ?_
    refine wl_f (f_assign rfl) ?_
    refine wl_end [(6, _), (7, _)] ⟨rfl, rfl, trivial⟩ ?_
    refine w_ret ?_
    refine ⟨_, _, fun a ha hh => results_tmps Try.results32 rfl a ha _, List.Sublist.refl _, ?_⟩
    exact .inl ⟨rplace_no hy hc1, rfl, rfl⟩
  · skip
    obtain ⟨A, x, a, B, rfl, rfl, rfl⟩ := rplace_at hy hc1
    have hAl : (A ++ (x, a) :: B).length = A.length + B.length + 1 := by simp; omega
    have hr' : RefR q n ((A ++ [(x, a)]) ++ B) r := by simpa using hr
    have hl' : ((A ++ [(x, a)]) ++ B).length ≤ n := by simpa using hl
    have hnd' : (nodes ((A ++ [(x, a)]) ++ B)).Nodup := by simpa using hnd
    refine w_skip ?_
    refine w_seq ?_
    refine w_reg ?_
    refine wl_f (f_move rfl) ?_
    refine wl_f (f_move rfl) ?_
    refine wl_f (f_add rfl rfl (by omega)) ?_
    refine wl_f (f_move rfl) ?_
    refine wl_e (e_call1 r [] rfl Try.func29 (by kernel_rfl) (List.Perm.refl _) (fun w hh hs => by have h := rinsert_spec q n (A ++ [(x, a)]) B v r w hn hl' hnd' hr' hs; rw [List.length_append] at h; exact h)) ?_
    rintro u _ w1 ⟨H1, rfl, hH⟩
    rw [List.append_nil]
    obtain ⟨u1, u2, rfl⟩ : ∃ u1 u2, u = .tuple [u1, u2].toArray := by
      rcases hH with ⟨_, rfl, _⟩ | ⟨_, x, r', _, rfl, _⟩
      · exact ⟨_, _, rfl⟩
      · exact ⟨_, _, rfl⟩
    refine wl_f (f_extract rfl rfl) ?_
    refine wl_f (f_extract rfl rfl) ?_
    refine wl_f (f_assign rfl) ?_
    refine wl_f (f_assign rfl) ?_
    refine wl_end [(6, _), (7, _)] ⟨rfl, rfl, trivial⟩ ?_
    refine w_ret ?_
    refine ⟨_, _, fun a ha hh => results_tmps Try.results32 rfl a ha _, List.Sublist.refl _, ?_⟩
    exact .inr ⟨A, x, a, B, rfl, rfl, hH⟩

theorem get_snd {A B : List (Nat × Int)} {x : Nat} {a : Int} : ((A ++ (x, a) :: B).map Prod.snd)[A.length]? = some a := by
  simp [List.getElem?_append]

theorem rvalue_spec (q n : Nat) (l : List (Nat × Int)) (node : Int) (r : Res) (w : World) (hn : n ≤ 8192) (hl : l.length ≤ n) (hr : RefR q n l r) (hs : Holds w r.foot [r] w) :
    Spec Try.prog 36 [.pointer (some ⟨q, 0, .none⟩), .int .i64 node] w r.foot fun u H => H = [r] ∧ ValAt kInt l node u := by
  refine enter (n := 19) Try.func36 rfl rfl [(0, _), (1, _)] rfl ⟨rfl, rfl, trivial⟩ hs ?_
  refine w_seq ?_
  refine w_reg ?_
  refine wl_f (f_assign rfl) ?_
  refine wl_f (f_assign rfl) ?_
  refine wl_end [(0, _), (1, _)] ⟨rfl, rfl, trivial⟩ ?_
  refine w_seq ?_
  refine w_reg ?_
  refine wl_f (f_move rfl) ?_
  refine wl_f (f_move rfl) ?_
  refine wl_e (e_call1 r [] rfl Try.func64 (by kernel_rfl) (List.Perm.refl _) (fun w hh hs => rplace_spec q n l r node w (by omega) hr hs)) ?_
  rintro _ _ w2 ⟨_, rfl, rfl, y, rfl, hy⟩
  refine wl_f (f_assign rfl) ?_
  refine wl_end [(0, _), (6, _)] ⟨rfl, rfl, trivial⟩ ?_
  refine w_seq ?_
  refine w_seq ?_
  refine w_reg ?_
  refine wl_f (f_move rfl) ?_
  refine wl_f (f_lss rfl rfl) ?_
  refine wl_end [(0, _), (6, _), (11, _)] ⟨rfl, rfl, rfl, trivial⟩ ?_
  refine w_ifd rfl (fun hc1 => ?_) (fun hc1 => ?_)
  · skip
    refine w_seq ?_
    refine w_reg ?_
    refine wl_f (f_assign rfl) ?_
    refine wl_f (f_assign rfl) ?_
    refine wl_end [(4, _), (5, _)] ⟨rfl, rfl, trivial⟩ ?_
    refine w_ret ?_
    refine ⟨_, _, fun a ha hh => results_tmps Try.results36 rfl a ha _, List.Sublist.refl _, ?_⟩
    exact ⟨rfl, .inl ⟨rplace_no hy hc1, rfl⟩⟩
  · skip
    obtain ⟨A, x, a, B, rfl, rfl, rfl⟩ := rplace_at hy hc1
    have hAl : (A ++ (x, a) :: B).length = A.length + B.length + 1 := by simp; omega
    obtain ⟨NV, VV, rfl⟩ := id hr
    refine w_with fun hh => ?_
    obtain ⟨g, cap, e⟩ := rowB_form hh (i := 0) (j := 2) rfl rfl (by omega)
    subst e
    clear hh
    refine w_skip ?_
    refine w_seq ?_
    refine w_reg ?_
    refine wl_f (f_move rfl) ?_
    refine wl_f (f_nilCheck rfl) ?_
    refine wl_f (f_fieldAddr 2 rfl Try.underlying50 rfl rfl (by kernel_rfl)) ?_
    refine wl_f (f_loadB 0 0 rfl rfl rfl Try.underlying33 rfl rfl) ?_
    refine wl_f (f_move rfl) ?_
    refine wl_f (f_indexAddr 1 (i := A.length) rfl rfl Try.underlying33 (by kernel_rfl) rfl (by omega)) ?_
    refine wl_f (f_loadBr (v := .int .i64 a) 0 2 rfl rfl rfl Try.underlying3 rfl (map_get (Value.int .i64) get_snd)) ?_
    refine wl_f (f_assign rfl) ?_
    refine wl_f (f_assign rfl) ?_
    refine wl_end [(4, _), (5, _)] ⟨rfl, rfl, trivial⟩ ?_
    refine w_ret ?_
    refine ⟨_, _, fun a ha hh => results_tmps Try.results36 rfl a ha _, List.Sublist.refl _, ?_⟩
    exact ⟨rfl, .inr ⟨A, x, a, B, rfl, rfl, rfl⟩⟩

set_option maxHeartbeats 4000000 in
theorem rremove_spec (q n : Nat) (l : List (Nat × Int)) (node : Int) (r : Res) (w : World) (hn : n ≤ 8192) (hl : l.length ≤ n) (hr : RefR q n l r) (hs : Holds w r.foot [r] w) :
    Spec Try.prog 34 [.pointer (some ⟨q, 0, .none⟩), .int .i64 node] w r.foot fun u H => RemG kInt (RefR q n) l node r u H := by
  refine enter (n := 59) Try.func34 rfl rfl [(0, _), (1, _)] rfl ⟨rfl, rfl, trivial⟩ hs ?_
  refine w_seq ?_
  refine w_reg ?_
  refine wl_f (f_assign rfl) ?_
  refine wl_f (f_assign rfl) ?_
  refine wl_end [(0, _), (1, _)] ⟨rfl, rfl, trivial⟩ ?_
  refine w_seq ?_
  refine w_reg ?_
  refine wl_f (f_move rfl) ?_
  refine wl_f (f_move rfl) ?_
  refine wl_e (e_call1 r [] rfl Try.func64 (by kernel_rfl) (List.Perm.refl _) (fun w hh hs => rplace_spec q n l r node w (by omega) hr hs)) ?_
  rintro _ _ w2 ⟨_, rfl, rfl, y, rfl, hy⟩
  refine wl_f (f_assign rfl) ?_
  refine wl_end [(0, _), (6, _)] ⟨rfl, rfl, trivial⟩ ?_
  refine w_seq ?_
  refine w_seq ?_
  refine w_reg ?_
  refine wl_f (f_move rfl) ?_
  refine wl_f (f_lss rfl rfl) ?_
  refine wl_end [(0, _), (6, _), (12, _)] ⟨rfl, rfl, rfl, trivial⟩ ?_
  refine w_ifd rfl (fun hc1 => ?_) (fun hc1 => ?_)
  · skip
    refine w_seq ?_
    refine w_reg ?_
    refine wl_f (f_assign rfl) ?_
    refine wl_f (f_assign rfl) ?_
    refine wl_end [(4, _), (5, _)] ⟨rfl, rfl, trivial⟩ ?_
    refine w_ret ?_
    refine ⟨_, _, fun a ha hh => results_tmps Try.results34 rfl a ha _, List.Sublist.refl _, ?_⟩
    exact .inl ⟨rplace_no hy hc1, rfl, rfl⟩
  · skip
    obtain ⟨A, x, a, B, rfl, rfl, rfl⟩ := rplace_at hy hc1
    have hAl : (A ++ (x, a) :: B).length = A.length + B.length + 1 := by simp; omega
    generalize hL : A ++ (x, a) :: B = L at hAl hl hr hs ⊢
    obtain ⟨NV, VV, rfl⟩ := id hr
    refine w_with fun hh => ?_
    obtain ⟨g1, cn, e1⟩ := rowB_form hh (i := 0) (j := 1) rfl rfl (by omega)
    obtain ⟨g2, cv, e2⟩ := rowB_form hh (i := 0) (j := 2) rfl rfl (by omega)
    subst e1; subst e2
    have hcn : L.length ≤ cn := by
      obtain ⟨_, _, e, _, h, _⟩ := Rd.heldB hh (i := 0) (j := 1) rfl rfl
      injection e with _ _ e
      subst e
      exact h
    have hcv : L.length ≤ cv := by
      obtain ⟨_, _, e, _, h, _⟩ := Rd.heldB hh (i := 0) (j := 2) rfl rfl
      injection e with _ _ e
      subst e
      exact h
    clear hh
    have hlen : 0 + (A.length - 0) + (L.length - (A.length + 1)) = L.length - 1 := by omega
    refine w_unb (H := []) (rls q n L (.slice (some ⟨g1, 0, .none⟩) L.length cn) (.slice (some ⟨g2, 0, .none⟩) L.length cv)) ?_
    refine w_skip ?_
    refine w_seq ?_
    refine w_reg ?_
    refine wl_f (f_move rfl) ?_
    refine wl_f (f_nilCheck rfl) ?_
    refine wl_f (f_fieldAddr 2 rfl Try.underlying50 rfl rfl (by kernel_rfl)) ?_
    (first | refine wl_f (f_loadb 0 rfl Try.underlying33 rfl rfl rfl) ?_ | refine wl_f (f_loadb 1 rfl Try.underlying33 rfl rfl rfl) ?_ | refine wl_f (f_loadb 2 rfl Try.underlying33 rfl rfl rfl) ?_ | refine wl_f (f_loadb 3 rfl Try.underlying33 rfl rfl rfl) ?_ | refine wl_f (f_loadb 4 rfl Try.underlying33 rfl rfl rfl) ?_ | refine wl_f (f_loadb 5 rfl Try.underlying33 rfl rfl rfl) ?_ | refine wl_f (f_loadb 6 rfl Try.underlying33 rfl rfl rfl) ?_)
    refine wl_f (f_move rfl) ?_
    refine wl_f (f_indexAddr 1 (i := A.length) rfl rfl Try.underlying33 (by kernel_rfl) rfl (by omega)) ?_
    refine wl_f (f_loadr (v := .int .i64 a) 2 rfl Try.underlying3 rfl rfl (map_get (Value.int .i64) (by rw [← hL]; exact get_snd))) ?_
    refine wl_f (f_assign rfl) ?_
    refine wl_end [(0, _), (6, _), (7, _)] ⟨rfl, rfl, rfl, trivial⟩ ?_
    refine w_seq ?_
    refine w_post (fun m H w' => ∃ (U : Option Addr) (cu : Nat), m = [(0, .pointer (some ⟨q, 0, .none⟩)), (6, .int .i64 (A.length : Nat)), (7, .int .i64 a)] ∧ H = [blk q [.int .i64 (n : Int), .slice U (L.length - 1) cu, .slice (some ⟨g2, 0, .none⟩) L.length cv] 50, row (.slice U (L.length - 1) cu) 3 1 (L.length - 1) (iv ((L.map fun p => (p.1 : Int)).take A.length ++ (L.map fun p => (p.1 : Int)).drop (A.length + 1))), row (.slice (some ⟨g2, 0, .none⟩) L.length cv) 3 1 L.length (iv (L.map Prod.snd))]) ?_ ?_
    · skip
      refine w_drawx (.fl 0 (.fl 2 (.fl 3 (.fl 4 (.fl 5 (.fl 6 (.fl 7 (.fl 9 (.fl 10 (.fl 11 (.fl 12 (.fl 13 (.fl 14 (.fl 15 (.ef 1 (.ef 8 (.ef 16 (.fl 17 (.fl 18 (.ef 19 .done)))))))))))))))))))) ([(_, some 19), (_, none)]) ([_]) mixed (by kernel_rfl) (by kernel_rfl) rfl rfl (List.Perm.refl _) (fun w5_ => ?_)
      refine wx_f rfl (f_move rfl) ?_
      refine wx_f rfl (f_move rfl) ?_
      refine wx_f rfl (f_nilCheck rfl) ?_
      refine wx_f rfl (f_fieldAddr 1 rfl Try.underlying50 rfl rfl (by kernel_rfl)) ?_
      (first | refine wx_f rfl (f_loadb 0 rfl Try.underlying33 rfl rfl rfl) ?_ | refine wx_f rfl (f_loadb 1 rfl Try.underlying33 rfl rfl rfl) ?_ | refine wx_f rfl (f_loadb 2 rfl Try.underlying33 rfl rfl rfl) ?_ | refine wx_f rfl (f_loadb 3 rfl Try.underlying33 rfl rfl rfl) ?_ | refine wx_f rfl (f_loadb 4 rfl Try.underlying33 rfl rfl rfl) ?_ | refine wx_f rfl (f_loadb 5 rfl Try.underlying33 rfl rfl rfl) ?_ | refine wx_f rfl (f_loadb 6 rfl Try.underlying33 rfl rfl rfl) ?_)
      refine wx_f rfl (f_move rfl) ?_
      refine wx_f rfl (f_sliceA 1 (l := 0) (u := A.length) rfl Try.underlying33 (by kernel_rfl) rfl ⟨_, rfl⟩ (by omega) (by omega)) ?_
      refine wx_f rfl (f_move rfl) ?_
      refine wx_f rfl (f_nilCheck rfl) ?_
      refine wx_f rfl (f_fieldAddr 1 rfl Try.underlying50 rfl rfl (by kernel_rfl)) ?_
      (first | refine wx_f rfl (f_loadb 0 rfl Try.underlying33 rfl rfl rfl) ?_ | refine wx_f rfl (f_loadb 1 rfl Try.underlying33 rfl rfl rfl) ?_ | refine wx_f rfl (f_loadb 2 rfl Try.underlying33 rfl rfl rfl) ?_ | refine wx_f rfl (f_loadb 3 rfl Try.underlying33 rfl rfl rfl) ?_ | refine wx_f rfl (f_loadb 4 rfl Try.underlying33 rfl rfl rfl) ?_ | refine wx_f rfl (f_loadb 5 rfl Try.underlying33 rfl rfl rfl) ?_ | refine wx_f rfl (f_loadb 6 rfl Try.underlying33 rfl rfl rfl) ?_)
      refine wx_f rfl (f_move rfl) ?_
      refine wx_f rfl (f_add rfl rfl (by omega)) ?_
      refine wx_f rfl (f_sliceA 1 (l := A.length + 1) (u := L.length) rfl Try.underlying33 (by kernel_rfl) ⟨_, rfl⟩ rfl (by omega) (by omega)) ?_
      refine wx_ef ?_
      refine ks_e rfl (e_lit0 t33) ?_
      rintro _ _ w5_1 ⟨b5_1, rfl, rfl⟩
      refine ⟨_, List.perm_middle.symm, ?_⟩
      refine wx_ef ?_
      refine ks_e rfl (e_appN 2 t33 rfl rfl rfl (fun w hh => (Rd.held0 hh (i := 1) rfl).cut (l := 0) (u := A.length) (by omega) (by omega)) (mid_one (iv_one _) _ _) (by omega) (by omega)) ?_
      rintro _ _ w5_8 ⟨⟨U1, a1, rfl⟩, rfl⟩
      refine ⟨_, List.Perm.refl _, ?_⟩
      refine wx_ef ?_
      refine ks_e rfl (e_appN 2 t33 rfl rfl rfl (fun w hh => (Rd.held0 hh (i := 1) rfl).cut (l := A.length + 1) (u := L.length) (by omega) (by omega)) (mid_one (iv_one _) _ _) (by omega) (by omega)) ?_
      rintro _ _ w5_16 ⟨⟨U3, a3, rfl⟩, rfl⟩
      refine ⟨_, List.Perm.refl _, ?_⟩
      refine wx_f rfl (f_nilCheck rfl) ?_
      refine wx_f rfl (f_fieldAddr 1 rfl Try.underlying50 rfl rfl (by kernel_rfl)) ?_
      refine wx_ef ?_
      refine ks_e0 rfl (e_storeN 0 (us := [_]) rfl rfl rfl rfl (by kernel_rfl) (by simp [Value.oneCell']) rfl rfl) ?_
      rintro _ _ w5_19 rfl
      refine ⟨_, pick_perm [1] _ rfl, ?_⟩
      refine wx_endp [(0, _), (6, _), (7, _)] [1, 1, 1] ⟨rfl, rfl, rfl, trivial⟩ rfl ?_
      refine ⟨U3, a3, rfl, ?_⟩
      have hcells := del_cells (L.map fun p => (p.1 : Int)) A.length
      rw [List.length_map] at hcells
      rw [hlen, hcells]
      rfl
    rintro _ _ w5_ ⟨U5, a5, rfl, rfl⟩
    refine w_seq ?_
    refine w_post (fun m H w' => ∃ (U : Option Addr) (cu : Nat), m = [(7, .int .i64 a)] ∧ H = [blk q [.int .i64 (n : Int), .slice U5 (L.length - 1) a5, .slice U (L.length - 1) cu] 50, row (.slice U5 (L.length - 1) a5) 3 1 (L.length - 1) (iv ((L.map fun p => (p.1 : Int)).take A.length ++ (L.map fun p => (p.1 : Int)).drop (A.length + 1))), row (.slice U (L.length - 1) cu) 3 1 (L.length - 1) (iv ((L.map Prod.snd).take A.length ++ (L.map Prod.snd).drop (A.length + 1)))]) ?_ ?_
    · skip
      refine w_drawx (.fl 0 (.fl 2 (.fl 3 (.fl 4 (.fl 5 (.fl 6 (.fl 7 (.fl 9 (.fl 10 (.fl 11 (.fl 12 (.fl 13 (.fl 14 (.fl 15 (.ef 1 (.ef 8 (.ef 16 (.fl 17 (.fl 18 (.ef 19 .done)))))))))))))))))))) ([(_, some 19), (_, none)]) ([_]) mixed (by kernel_rfl) (by kernel_rfl) rfl rfl (pick_perm [0, 1] _ rfl) (fun w6_ => ?_)
      refine wx_f rfl (f_move rfl) ?_
      refine wx_f rfl (f_move rfl) ?_
      refine wx_f rfl (f_nilCheck rfl) ?_
      refine wx_f rfl (f_fieldAddr 2 rfl Try.underlying50 rfl rfl (by kernel_rfl)) ?_
      (first | refine wx_f rfl (f_loadb 0 rfl Try.underlying33 rfl rfl rfl) ?_ | refine wx_f rfl (f_loadb 1 rfl Try.underlying33 rfl rfl rfl) ?_ | refine wx_f rfl (f_loadb 2 rfl Try.underlying33 rfl rfl rfl) ?_ | refine wx_f rfl (f_loadb 3 rfl Try.underlying33 rfl rfl rfl) ?_ | refine wx_f rfl (f_loadb 4 rfl Try.underlying33 rfl rfl rfl) ?_ | refine wx_f rfl (f_loadb 5 rfl Try.underlying33 rfl rfl rfl) ?_ | refine wx_f rfl (f_loadb 6 rfl Try.underlying33 rfl rfl rfl) ?_)
      refine wx_f rfl (f_move rfl) ?_
      refine wx_f rfl (f_sliceA 1 (l := 0) (u := A.length) rfl Try.underlying33 (by kernel_rfl) rfl ⟨_, rfl⟩ (by omega) (by omega)) ?_
      refine wx_f rfl (f_move rfl) ?_
      refine wx_f rfl (f_nilCheck rfl) ?_
      refine wx_f rfl (f_fieldAddr 2 rfl Try.underlying50 rfl rfl (by kernel_rfl)) ?_
      (first | refine wx_f rfl (f_loadb 0 rfl Try.underlying33 rfl rfl rfl) ?_ | refine wx_f rfl (f_loadb 1 rfl Try.underlying33 rfl rfl rfl) ?_ | refine wx_f rfl (f_loadb 2 rfl Try.underlying33 rfl rfl rfl) ?_ | refine wx_f rfl (f_loadb 3 rfl Try.underlying33 rfl rfl rfl) ?_ | refine wx_f rfl (f_loadb 4 rfl Try.underlying33 rfl rfl rfl) ?_ | refine wx_f rfl (f_loadb 5 rfl Try.underlying33 rfl rfl rfl) ?_ | refine wx_f rfl (f_loadb 6 rfl Try.underlying33 rfl rfl rfl) ?_)
      refine wx_f rfl (f_move rfl) ?_
      refine wx_f rfl (f_add rfl rfl (by omega)) ?_
      refine wx_f rfl (f_sliceA 1 (l := A.length + 1) (u := L.length) rfl Try.underlying33 (by kernel_rfl) ⟨_, rfl⟩ rfl (by omega) (by omega)) ?_
      refine wx_ef ?_
      refine ks_e rfl (e_lit0 t33) ?_
      rintro _ _ w6_1 ⟨b6_1, rfl, rfl⟩
      refine ⟨_, List.perm_middle.symm, ?_⟩
      refine wx_ef ?_
      refine ks_e rfl (e_appN 2 t33 rfl rfl rfl (fun w hh => (Rd.held0 hh (i := 1) rfl).cut (l := 0) (u := A.length) (by omega) (by omega)) (mid_one (iv_one _) _ _) (by omega) (by omega)) ?_
      rintro _ _ w6_8 ⟨⟨U1, a1, rfl⟩, rfl⟩
      refine ⟨_, List.Perm.refl _, ?_⟩
      refine wx_ef ?_
      refine ks_e rfl (e_appN 2 t33 rfl rfl rfl (fun w hh => (Rd.held0 hh (i := 1) rfl).cut (l := A.length + 1) (u := L.length) (by omega) (by omega)) (mid_one (iv_one _) _ _) (by omega) (by omega)) ?_
      rintro _ _ w6_16 ⟨⟨U3, a3, rfl⟩, rfl⟩
      refine ⟨_, List.Perm.refl _, ?_⟩
      refine wx_f rfl (f_nilCheck rfl) ?_
      refine wx_f rfl (f_fieldAddr 2 rfl Try.underlying50 rfl rfl (by kernel_rfl)) ?_
      refine wx_ef ?_
      refine ks_e0 rfl (e_storeN 0 (us := [_]) rfl rfl rfl rfl (by kernel_rfl) (by simp [Value.oneCell']) rfl rfl) ?_
      rintro _ _ w6_19 rfl
      refine ⟨_, pick_perm [1] _ rfl, ?_⟩
      refine wx_endp [(7, _)] [1, 2, 1] ⟨rfl, trivial⟩ rfl ?_
      refine ⟨U3, a3, rfl, ?_⟩
      have hcells := del_cells (L.map Prod.snd) A.length
      rw [List.length_map] at hcells
      rw [hlen, hcells]
      rfl
    rintro _ _ w6_ ⟨U6, a6, rfl, rfl⟩
    refine w_seq ?_
    refine w_reg ?_
    refine wl_f (f_move rfl) ?_
    refine wl_f (f_assign rfl) ?_
    refine wl_f (f_assign rfl) ?_
    refine wl_end [(4, _), (5, _)] ⟨rfl, rfl, trivial⟩ ?_
    refine w_bun (H := []) [_, _, _] ?_
    refine w_ret ?_
    refine ⟨_, _, fun a ha hh => results_tmps Try.results34 rfl a ha _, List.Sublist.refl _, ?_⟩
    subst hL
    refine .inr ⟨A, x, a, B, _, rfl, rfl, rfl, rfl, .slice U5 ((A ++ (x, a) :: B).length - 1) a5, .slice U6 ((A ++ (x, a) :: B).length - 1) a6, ?_⟩
    have e1 : (A ++ B).length = (A ++ (x, a) :: B).length - 1 := by rw [hAl, List.length_append]; omega
    have e2 := del_map (fun p : Nat × Int => (p.1 : Int)) A B (x, a)
    have e3 := del_map (Prod.snd : Nat × Int → Int) A B (x, a)
    rw [rls, e1, e2, e3]

set_option maxHeartbeats 1000000 in
theorem rby_spec (q n : Nat) (l : List (Nat × Int)) (node pl : Int) (r : Res) (w : World) (hn : n ≤ 8192) (hl : l.length ≤ n) (hnd : (nodes l).Nodup) (hp : pl = 1 ∨ pl = -1) (hr : RefR q n l r) (hs : Holds w r.foot [r] w) :
    Spec Try.prog 41 [.pointer (some ⟨q, 0, .none⟩), .int .i64 node, .int .i64 pl] w r.foot fun u H => H = [r] ∧ ∃ y : Int, u = .int .i64 y ∧ (isAt node (nodes l) = false → y = -1) ∧
      ∀ A x v B, l = A ++ (x, v) :: B → node = (x : Nat) → y = if pl = 1 then hdE (-1) (nodes B) else hdE (-1) (nodes A).reverse := by
  refine enter (n := 39) Try.func41 rfl rfl [(0, _), (1, _), (2, _)] rfl ⟨rfl, rfl, rfl, trivial⟩ hs ?_
  refine w_seq ?_
  refine w_reg ?_
  refine wl_f (f_assign rfl) ?_
  refine wl_end [(0, _), (1, _), (2, _)] ⟨rfl, rfl, rfl, trivial⟩ ?_
  refine w_seq ?_
  refine w_reg ?_
  refine wl_f (f_move rfl) ?_
  refine wl_f (f_move rfl) ?_
  refine wl_e (e_call1 r [] rfl Try.func64 (by kernel_rfl) (List.Perm.refl _) (fun w hh hs => rplace_spec q n l r node w (by omega) hr hs)) ?_
  rintro _ _ w2 ⟨_, rfl, rfl, y, rfl, hy⟩
  have hyl : -1 ≤ y ∧ y < 8192 := by
    rcases hy with ⟨_, rfl⟩ | ⟨A, x, a, B, rfl, _, rfl⟩
    · omega
    · simp at hl; omega
  obtain ⟨NV, VV, rfl⟩ := id hr
  refine wl_with fun hh => ?_
  obtain ⟨N, cn, rfl⟩ := rowB_slice hh (i := 0) (j := 1) rfl rfl
  clear hh
  refine wl_f (f_assign rfl) ?_
  refine wl_end [(0, _), (2, _), (7, _)] ⟨rfl, rfl, rfl, trivial⟩ ?_
  refine w_seq ?_
  refine w_seq ?_
  refine w_reg ?_
  refine wl_f (f_move rfl) ?_
  refine wl_f (f_lss rfl rfl) ?_
  refine wl_f (f_move rfl) ?_
  refine wl_or (j := 2) (c := decide (y + pl < 0)) 4 [(0, _), (2, _), (7, _)] ⟨rfl, rfl, rfl, trivial⟩ rfl rfl rfl rfl rfl (fun hg2_7 => ?_) (fun w2_7 => ?_)
  · skip
    refine wl_gf rfl rfl (f_move rfl) ?_
    refine wl_gf rfl rfl (f_move rfl) ?_
    refine wl_gf rfl rfl (f_add rfl rfl (by omega)) ?_
    refine wl_gf rfl rfl (f_lss rfl rfl) ?_
    exact wl_pend rfl rfl ⟨rfl, rfl, rfl, trivial⟩ (List.Sublist.refl _)
  refine wl_f (f_move rfl) ?_
  refine wl_or (j := 8) (c := decide ((l.length : Int) ≤ y + pl)) 9 [(0, _), (2, _), (7, _)] ⟨rfl, rfl, rfl, trivial⟩ rfl rfl rfl rfl rfl (fun hg2_18 => ?_) (fun w2_18 => ?_)
  · skip
    refine wl_gf rfl rfl (f_move rfl) ?_
    refine wl_gf rfl rfl (f_move rfl) ?_
    refine wl_gf rfl rfl (f_add rfl rfl (by omega)) ?_
    refine wl_gf rfl rfl (f_move rfl) ?_
    refine wl_gf rfl rfl (f_nilCheck rfl) ?_
    refine wl_gf rfl rfl (f_fieldAddr 1 rfl Try.underlying50 rfl rfl (by kernel_rfl)) ?_
    refine wl_gf rfl rfl (f_loadB 0 0 rfl rfl rfl Try.underlying33 rfl rfl) ?_
    refine wl_gf rfl rfl (f_len rfl Try.underlying33) ?_
    refine wl_gf rfl rfl (f_geq rfl rfl) ?_
    exact wl_pend rfl rfl ⟨rfl, rfl, rfl, trivial⟩ (List.Sublist.refl _)
  refine wl_end [(0, _), (2, _), (7, _), (29, _)] ⟨rfl, rfl, rfl, rfl, trivial⟩ ?_
  refine w_ifb rfl (fun hc1 => ?_) (fun hc1 => ?_)
  · skip
    simp only [Bool.or_eq_true, decide_eq_true_eq] at hc1
    refine w_seq ?_
    refine w_reg ?_
    refine wl_f (f_assign rfl) ?_
    refine wl_end [(6, _)] ⟨rfl, trivial⟩ ?_
    refine w_ret ?_
    refine ⟨_, _, fun a ha hh => results_tmps Try.results41 rfl a ha _, List.Sublist.refl _, ?_⟩
    refine ⟨rfl, -1, rfl, fun _ => rfl, fun A x v B e e2 => ?_⟩
    rcases hy with ⟨h, rfl⟩ | ⟨A', x', a', B', he, hx', rfl⟩
    · rw [e2, e, isAt_split] at h; cases h
    · obtain rfl : x = x' := by omega
      subst he
      obtain ⟨rfl, _, rfl⟩ := node_uniq hnd e
      have hAl : (A ++ (x, a') :: B).length = A.length + B.length + 1 := by simp; omega
      rcases hp with rfl | rfl
      · have : B = [] := List.eq_nil_of_length_eq_zero (by omega)
        subst this; rfl
      · have : A = [] := List.eq_nil_of_length_eq_zero (by omega)
        subst this; rfl
  · skip
    simp only [Bool.or_eq_true, decide_eq_true_eq, not_or] at hc1
    obtain ⟨A, x, a, B, hL, rfl, rfl⟩ := rplace_at hy (by omega)
    have hAl : l.length = A.length + B.length + 1 := by rw [hL]; simp; omega
    obtain ⟨i, z, hi, hil, hget, hz⟩ : ∃ i z : Nat, (A.length : Int) + pl = i ∧ i < l.length ∧ (l.map fun p => (p.1 : Int))[i]? = some (z : Int) ∧ (z : Int) = if pl = 1 then hdE (-1) (nodes B) else hdE (-1) (nodes A).reverse := by
      rcases hp with rfl | rfl
      · cases B with
        | nil => simp at hAl; omega
        | cons p B' => exact ⟨A.length + 1, p.1, by omega, by simp at hAl; omega, by rw [hL]; simp [List.getElem?_append], by simp [nodes, hdE]⟩
      · rcases List.eq_nil_or_concat A with rfl | ⟨A', p, rfl⟩
        · simp at hc1
        · refine ⟨A'.length, p.1, by simp; omega, by simp at hAl; omega, by rw [hL]; simp [List.getElem?_append], by simp [nodes, hdE]⟩
    refine w_with fun hh => ?_
    obtain ⟨g, cap, e⟩ := rowB_form hh (i := 0) (j := 1) rfl rfl (by omega)
    injection e with e1 _ e3
    subst e1; subst e3
    clear hh
    refine w_skip ?_
    refine w_seq ?_
    refine w_reg ?_
    refine wl_f (f_move rfl) ?_
    refine wl_f (f_nilCheck rfl) ?_
    refine wl_f (f_fieldAddr 1 rfl Try.underlying50 rfl rfl (by kernel_rfl)) ?_
    refine wl_f (f_loadB 0 0 rfl rfl rfl Try.underlying33 rfl rfl) ?_
    refine wl_f (f_move rfl) ?_
    refine wl_f (f_move rfl) ?_
    refine wl_f (f_add rfl rfl (by omega)) ?_
    refine wl_f (f_indexAddr 1 (i := i) rfl rfl Try.underlying33 (by kernel_rfl) hi hil) ?_
    refine wl_f (f_loadBr (v := .int .i64 (z : Int)) 0 1 rfl rfl rfl Try.underlying3 rfl (map_get (Value.int .i64) hget)) ?_
    refine wl_f (f_assign rfl) ?_
    refine wl_end [(6, _)] ⟨rfl, trivial⟩ ?_
    refine w_ret ?_
    refine ⟨_, _, fun a ha hh => results_tmps Try.results41 rfl a ha _, List.Sublist.refl _, ?_⟩
    refine ⟨rfl, z, rfl, fun h => ?_, fun A' x' v' B' e e2 => ?_⟩
    · rw [hL, isAt_split] at h; cases h
    · obtain rfl : x' = x := by omega
      subst hL
      obtain ⟨rfl, _, rfl⟩ := node_uniq hnd e
      exact hz
end Go.Proofs.Ytkabdnijhjccoaa
