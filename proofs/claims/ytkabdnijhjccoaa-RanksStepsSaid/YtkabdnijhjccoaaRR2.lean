/- The reference's orders: where an element is, putting, removing. -/
import Derived.Test.YtkabdnijhjccoaaRR1
namespace Go.Proofs.Ytkabdnijhjccoaa
open Go.RowKit

def rplOf (l : Ord) (z y : Int) : Prop := (z ∉ ids l ∧ y = -1) ∨ ∃ A c B, l = A ++ (z, c) :: B ∧ z ∉ ids A ∧ y = (A.length : Nat)
theorem rpl_at {l : Ord} {z y : Int} (h : rplOf l z y) (hy : ¬ y < 0) : ∃ A c B, l = A ++ (z, c) :: B ∧ z ∉ ids A ∧ y = (A.length : Nat) := by
  rcases h with ⟨_, rfl⟩ | h
  · omega
  · exact h
theorem rpl_no {l : Ord} {z y : Int} (h : rplOf l z y) (hy : y < 0) : z ∉ ids l := by
  rcases h with ⟨h, _⟩ | ⟨A, c, B, _, _, rfl⟩
  · exact h
  · omega
theorem ids_get' {l : Ord} {i : Nat} {p : Int × Nat} (h : l[i]? = some p) : (ids l)[i]? = some p.1 := by simp [ids, h]

set_option maxHeartbeats 1000000 in
theorem rfplace_spec (q n : Nat) (l : Ord) (r : Res) (z : Int) (w : World) (hl : l.length ≤ 8192) (hr : RfR q n l r) (hs : Holds w r.foot [r] w) :
    Spec Try.prog 74 [.pointer (some ⟨q, 0, .none⟩), .int .i64 z] w r.foot fun u H => H = [r] ∧ ∃ y, u = .int .i64 y ∧ rplOf l z y := by
  obtain ⟨IV, CV, rfl⟩ := hr
  refine enter (n := 22) Try.func74 rfl rfl [(0, _), (1, _)] rfl ⟨rfl, rfl, trivial⟩ hs ?_
  refine w_with fun hh => ?_
  obtain ⟨N, cn, rfl⟩ := rowB_slice hh (i := 0) (j := 1) rfl rfl
  clear hh
  refine w_seq ?_
  refine w_reg ?_
  refine wl_f (f_assign rfl) ?_
  refine wl_end [(0, _), (1, _)] ⟨rfl, rfl, trivial⟩ ?_
  refine w_seq ?_
  refine w_seq ?_
  refine w_reg ?_
  refine wl_f (f_move rfl) ?_
  refine wl_f (f_nilCheck rfl) ?_
  refine wl_f (f_fieldAddr 1 rfl Try.underlying79 rfl rfl (by kernel_rfl)) ?_
  refine wl_f (f_loadB 0 0 rfl rfl rfl Try.underlying33 rfl rfl) ?_
  refine wl_f (f_len rfl Try.underlying33) ?_
  refine wl_f (f_move rfl) ?_
  refine wl_end [(1, _), (10, _), (11, _), (12, _)] ⟨rfl, rfl, rfl, rfl, trivial⟩ ?_
  refine w_block ?_
  refine w_loop (fun k m H w => ∃ i : Nat, m = [(1, .int .i64 z), (10, .slice N l.length cn), (11, .int .i64 l.length), (12, .int .i64 i)] ∧ H = [bun (rrs q n l (.slice N l.length cn) CV)] ∧ k + i = l.length ∧ z ∉ ids (l.take i)) l.length
    ⟨0, rfl, rfl, rfl, by simp [ids]⟩ ?_
  rintro k _ _ w1 ⟨i, rfl, rfl, hk, hall⟩
  refine w_seq ?_
  refine w_reg ?_
  refine wl_f (f_lss rfl rfl) ?_
  refine wl_end [(1, _), (10, _), (11, _), (12, _), (13, _)] ⟨rfl, rfl, rfl, rfl, rfl, trivial⟩ ?_
  refine w_seq ?_
  refine w_ifd rfl (fun hc1 => ?_) (fun hc1 => ?_)
  · skip
    have hi : i < l.length := by omega
    obtain ⟨p, hp⟩ : ∃ p, l[i]? = some p := ⟨_, List.getElem?_eq_getElem hi⟩
    refine w_skip ?_
    refine w_seq ?_
    refine w_block ?_
    refine w_seq ?_
    refine w_reg ?_
    refine wl_f (f_move rfl) ?_
    refine wl_with fun hh => ?_
    obtain ⟨g, cap, e⟩ := rowB_form hh (i := 0) (j := 1) rfl rfl (by omega)
    injection e with e1 _ e3
    subst e1; subst e3
    clear hh
    refine wl_f (f_indexAddr 1 (i := i) rfl rfl Try.underlying33 (by kernel_rfl) rfl hi) ?_
    refine wl_f (f_loadBr (v := .int .i64 p.1) 0 1 rfl rfl rfl Try.underlying3 rfl (map_get (Value.int .i64) (ids_get' hp))) ?_
    refine wl_f (f_assign rfl) ?_
    refine wl_f (f_assign rfl) ?_
    refine wl_end [(1, _), (5, _), (6, _), (10, _), (11, _), (12, _)] ⟨rfl, rfl, rfl, rfl, rfl, rfl, trivial⟩ ?_
    refine w_seq ?_
    refine w_reg ?_
    refine wl_f (f_move rfl) ?_
    refine wl_f (f_move rfl) ?_
    refine wl_f (f_eql rfl rfl) ?_
    refine wl_end [(1, _), (5, _), (10, _), (11, _), (12, _), (19, _)] ⟨rfl, rfl, rfl, rfl, rfl, rfl, trivial⟩ ?_
    refine w_ifd rfl (fun hc2 => ?_) (fun hc2 => ?_)
    · skip
      refine w_seq ?_
      refine w_reg ?_
      refine wl_f (f_move rfl) ?_
      refine wl_f (f_assign rfl) ?_
      refine wl_end [(4, _)] ⟨rfl, trivial⟩ ?_
      refine w_ret ?_
      refine ⟨_, _, fun a ha hh => results_tmps Try.results74 rfl a ha _, List.Sublist.refl _, ?_⟩
      refine ⟨rfl, i, rfl, .inr ⟨l.take i, p.2, l.drop (i + 1), ?_, hall, by rw [List.length_take]; omega⟩⟩
      obtain ⟨hlt, e⟩ := List.getElem?_eq_some_iff.1 hp
      have hz : (z, p.2) = l[i] := by rw [e, ← hc2]
      rw [hz, ← List.drop_eq_getElem_cons hlt, List.take_append_drop]
    · skip
      refine w_skip ?_
      refine w_reg ?_
      refine wl_f (f_add rfl rfl (by omega)) ?_
      refine wl_f (f_move rfl) ?_
      refine wl_end [(1, _), (10, _), (11, _), (12, _)] ⟨rfl, rfl, rfl, rfl, trivial⟩ ?_
      refine ⟨k - 1, by omega, i + 1, rfl, rfl, by omega, fun h => ?_⟩
      rw [List.take_add_one, hp, ids_app] at h
      rcases List.mem_append.1 h with h | h
      · exact hall h
      · simp [ids] at h; exact hc2 h.symm
  · skip
    refine w_exit0 ?_
    refine w_seq ?_
    refine w_reg ?_
    refine wl_f (f_assign rfl) ?_
    refine wl_end [(4, _)] ⟨rfl, trivial⟩ ?_
    refine w_ret ?_
    refine ⟨_, _, fun a ha hh => results_tmps Try.results74 rfl a ha _, List.Sublist.refl _, ?_⟩
    refine ⟨rfl, -1, rfl, .inl ⟨?_, rfl⟩⟩
    rw [List.take_of_length_le (by omega)] at hall
    exact hall

theorem ins_stop {A B : Ord} {z : Int} {c : Nat} (hA : ∀ p ∈ A, p.2 ≤ c) (hB : ∀ p, B[0]? = some p → c < p.2) : ins (A ++ B) z c = A ++ (z, c) :: B := by
  induction A with
  | nil =>
    cases B with
    | nil => rfl
    | cons p B =>
      have := hB p rfl
      rw [List.nil_append, ins, if_neg (by omega)]; rfl
  | cons p A ih =>
    have := hA p (List.mem_cons_self ..)
    rw [List.cons_append, ins, if_pos this, ih fun q hq => hA q (List.mem_cons_of_mem _ hq)]
    rfl
theorem ins_cellsG {β : Type} (f : β → Value) (L : List β) (k : Nat) (x : β) (hk : k ≤ L.length) : [] ++ ((L.map f).drop (0 * 1)).take ((k - 0) * 1) ++ [f x] ++ ((L.map f).drop (k * 1)).take ((L.length - k) * 1) = (L.take k ++ x :: L.drop k).map f := by
  simp only [Nat.mul_one, List.drop_zero, Nat.sub_zero, List.nil_append]
  rw [List.take_of_length_le (i := L.length - k) (by rw [List.length_drop, List.length_map]; omega)]
  simp [List.map_take, List.map_drop]
theorem del_cellsG {β : Type} (f : β → Value) (L : List β) (k : Nat) : [] ++ ((L.map f).drop (0 * 1)).take ((k - 0) * 1) ++ ((L.map f).drop ((k + 1) * 1)).take ((L.length - (k + 1)) * 1) = (L.take k ++ L.drop (k + 1)).map f := by
  simp only [Nat.mul_one, List.drop_zero, Nat.sub_zero, List.nil_append]
  rw [List.take_of_length_le (i := L.length - (k + 1)) (by rw [List.length_drop, List.length_map]; omega)]
  simp [List.map_take, List.map_drop]
theorem u64v_one (l : List Nat) : ∀ u ∈ u64v l, u.oneCell' = true := by
  intro u hu; simp only [u64v, List.mem_map] at hu; obtain ⟨b, _, rfl⟩ := hu; rfl

set_option maxHeartbeats 4000000 in
theorem rfput_spec (q n : Nat) (l : Ord) (z : Int) (c : Nat) (r : Res) (w : World) (hl : l.length ≤ 8192) (hr : RfR q n l r) (hs : Holds w r.foot [r] w) :
    Spec Try.prog 75 [.pointer (some ⟨q, 0, .none⟩), .int .i64 z, .int .u64 (c : Int)] w r.foot fun _ H => ∃ IV CV, H = rrs q n (ins l z c) IV CV := by
  refine enter (n := 69) Try.func75 rfl rfl [(0, _), (1, _), (2, _)] rfl ⟨rfl, rfl, rfl, trivial⟩ hs ?_
  obtain ⟨NV, VV, rfl⟩ := id hr
  refine w_with fun hh => ?_
  obtain ⟨N, cn, rfl⟩ := rowB_slice hh (i := 0) (j := 1) rfl rfl
  obtain ⟨V, cv, rfl⟩ := rowB_slice hh (i := 0) (j := 2) rfl rfl
  clear hh
  refine w_seq ?_
  refine w_reg ?_
  refine wl_f (f_assign rfl) ?_
  refine wl_end [(0, _), (1, _), (2, _), (6, _)] ⟨rfl, rfl, rfl, rfl, trivial⟩ ?_
  refine w_seq ?_
  refine w_block ?_
  refine w_loop (fun k m H w => ∃ i : Nat, m = [(0, .pointer (some ⟨q, 0, .none⟩)), (1, .int .i64 z), (2, .int .u64 (c : Int)), (6, .int .i64 i)] ∧ H = [bun (rrs q n l (.slice N l.length cn) (.slice V l.length cv))] ∧ k + i = l.length ∧ ∀ p ∈ l.take i, p.2 ≤ c) l.length
    ⟨0, rfl, rfl, rfl, by simp⟩ ?_
  rintro k _ _ w1 ⟨i, rfl, rfl, hk, hall⟩
  refine w_seq ?_
  refine w_seq ?_
  refine w_reg ?_
  refine wl_f (f_move rfl) ?_
  refine wl_f (f_move rfl) ?_
  refine wl_f (f_nilCheck rfl) ?_
  refine wl_f (f_fieldAddr 1 rfl Try.underlying79 rfl rfl (by kernel_rfl)) ?_
  refine wl_f (f_loadB 0 0 rfl rfl rfl Try.underlying33 rfl rfl) ?_
  refine wl_f (f_len rfl Try.underlying33) ?_
  refine wl_f (f_lss rfl rfl) ?_
  refine wl_f (f_move rfl) ?_
  refine wl_and (j := 7) (c := decide (((l.getD i (0, 0)).2 : Int) ≤ (c : Int))) 9 [(0, _), (1, _), (2, _), (6, _)] ⟨rfl, rfl, rfl, rfl, trivial⟩ rfl rfl rfl rfl rfl (fun hg1_17 => ?_) (fun w1_17 => ?_)
  · skip
    refine wl_gf rfl rfl (f_move rfl) ?_
    refine wl_gf rfl rfl (f_nilCheck rfl) ?_
    refine wl_gf rfl rfl (f_fieldAddr 2 rfl Try.underlying79 rfl rfl (by kernel_rfl)) ?_
    refine wl_gf rfl rfl (f_loadB 0 0 rfl rfl rfl Try.underlying77 rfl rfl) ?_
    refine wl_gf rfl rfl (f_move rfl) ?_
    have hi : i < l.length := by
      have := of_decide_eq_true hg1_17
      omega
    obtain ⟨p, hp⟩ : ∃ p, l[i]? = some p := ⟨_, List.getElem?_eq_getElem hi⟩
    have hp2 : (l.map Prod.snd)[i]? = some p.2 := by simp [hp]
    refine wl_with fun hh => ?_
    obtain ⟨g, cap, e⟩ := rowB_form hh (i := 0) (j := 2) rfl rfl (by omega)
    injection e with e1 _ e3
    subst e1; subst e3
    clear hh
    refine wl_gf rfl rfl (f_indexAddr 1 (i := i) rfl rfl Try.underlying77 (by kernel_rfl) rfl hi) ?_
    refine wl_gf rfl rfl (f_eqv (v' := .int .u64 ((l.getD i (0, 0)).2 : Int)) (f_loadBr (v := .int .u64 (p.2 : Int)) 0 2 rfl rfl rfl Try.underlying63 rfl (map_get (fun c : Nat => Value.int .u64 (c : Int)) hp2)) (by rw [List.getD_eq_getElem?_getD, hp]; rfl)) ?_
    refine wl_gf rfl rfl (f_move rfl) ?_
    refine wl_gf rfl rfl (f_leq rfl rfl) ?_
    exact wl_pend rfl rfl ⟨rfl, rfl, rfl, rfl, trivial⟩ (List.Sublist.refl _)
  refine wl_end [(0, _), (1, _), (2, _), (6, _), (24, _)] ⟨rfl, rfl, rfl, rfl, rfl, trivial⟩ ?_
  refine w_ifb rfl (fun hc1 => ?_) (fun hc1 => ?_)
  · skip
    simp only [Bool.and_eq_true, decide_eq_true_eq] at hc1
    refine w_skip ?_
    refine w_block ?_
    refine w_reg ?_
    refine wl_f (f_move rfl) ?_
    refine wl_f (f_add rfl rfl (by omega)) ?_
    refine wl_f (f_assign rfl) ?_
    refine wl_end [(0, _), (1, _), (2, _), (6, _)] ⟨rfl, rfl, rfl, rfl, trivial⟩ ?_
    refine ⟨k - 1, by omega, i + 1, rfl, rfl, by omega, fun p hp => ?_⟩
    have hi : i < l.length := by omega
    rw [List.take_add_one, List.getElem?_eq_getElem hi] at hp
    rcases List.mem_append.1 hp with h | h
    · exact hall p h
    · have h2 := hc1.2
      rw [List.getD_eq_getElem?_getD, List.getElem?_eq_getElem hi] at h2
      simp at h h2
      subst h
      omega
  · skip
    have hil : i ≤ l.length := by omega
    have hstop : ∀ p, l[i]? = some p → c < p.2 := fun p hp => by
      have hi : i < l.length := (List.getElem?_eq_some_iff.1 hp).1
      refine Classical.byContradiction fun h => hc1 ?_
      rw [List.getD_eq_getElem?_getD, hp, Bool.and_eq_true]
      exact ⟨decide_eq_true (by omega), decide_eq_true (by simp; omega)⟩
    have hins : ins l z c = l.take i ++ (z, c) :: l.drop i := by
      have := ins_stop (A := l.take i) (B := l.drop i) (z := z) hall (fun p hp => hstop p (by rw [List.getElem?_drop, Nat.add_zero] at hp; exact hp))
      rw [List.take_append_drop] at this
      exact this
    refine w_with fun hh => ?_
    have hcn : l.length ≤ cn := by
      obtain ⟨_, _, e, _, h, _⟩ := Rd.heldB hh (i := 0) (j := 1) rfl rfl
      injection e with _ _ e
      subst e
      exact h
    have hcv : l.length ≤ cv := by
      obtain ⟨_, _, e, _, h, _⟩ := Rd.heldB hh (i := 0) (j := 2) rfl rfl
      injection e with _ _ e
      subst e
      exact h
    clear hh
    have hlen : 0 + (i - 0) + 1 + (l.length - i) = l.length + 1 := by omega
    refine w_exit0 ?_
    refine w_seq ?_
    refine w_unb (H := []) (rrs q n l (.slice N l.length cn) (.slice V l.length cv)) ?_
    refine w_post (fun m H w' => ∃ (U : Option Addr) (cu : Nat), m = [(0, .pointer (some ⟨q, 0, .none⟩)), (2, .int .u64 (c : Int)), (6, .int .i64 i)] ∧ H = [blk q [.int .i64 (n : Int), .slice U (l.length + 1) cu, .slice V l.length cv] 79, row (.slice U (l.length + 1) cu) 3 1 (l.length + 1) (iv ((ids l).take i ++ z :: (ids l).drop i)), row (.slice V l.length cv) 63 1 l.length (u64v (l.map Prod.snd))]) ?_ ?_
    · skip
      refine w_drawx (.fl 0 (.fl 2 (.fl 3 (.fl 4 (.fl 5 (.fl 6 (.fl 7 (.fl 9 (.fl 12 (.fl 13 (.fl 14 (.fl 15 (.fl 16 (.fl 17 (.two 1 (.two 8 (.ef 10 (.ef 11 (.ef 18 (.fl 19 (.fl 20 (.ef 21 .done)))))) 10 (.ef 8 (.ef 11 (.ef 18 (.fl 19 (.fl 20 (.ef 21 .done))))))) 10 (.ef 1 (.ef 8 (.ef 11 (.ef 18 (.fl 19 (.fl 20 (.ef 21 .done)))))))))))))))))))))) ([(_, some 21), (_, none)]) ([_]) mixed (by kernel_rfl) (by kernel_rfl) rfl rfl (List.Perm.refl _) (fun w3_ => ?_)
      refine wx_f rfl (f_move rfl) ?_
      refine wx_f rfl (f_move rfl) ?_
      refine wx_f rfl (f_nilCheck rfl) ?_
      refine wx_f rfl (f_fieldAddr 1 rfl Try.underlying79 rfl rfl (by kernel_rfl)) ?_
      (first | refine wx_f rfl (f_loadb 0 rfl Try.underlying33 rfl rfl rfl) ?_ | refine wx_f rfl (f_loadb 1 rfl Try.underlying33 rfl rfl rfl) ?_ | refine wx_f rfl (f_loadb 2 rfl Try.underlying33 rfl rfl rfl) ?_ | refine wx_f rfl (f_loadb 3 rfl Try.underlying33 rfl rfl rfl) ?_ | refine wx_f rfl (f_loadb 4 rfl Try.underlying33 rfl rfl rfl) ?_ | refine wx_f rfl (f_loadb 5 rfl Try.underlying33 rfl rfl rfl) ?_ | refine wx_f rfl (f_loadb 6 rfl Try.underlying33 rfl rfl rfl) ?_)
      refine wx_f rfl (f_move rfl) ?_
      refine wx_f rfl (f_sliceA 1 (l := 0) (u := i) rfl Try.underlying33 (by kernel_rfl) rfl ⟨_, rfl⟩ (by omega) (by omega)) ?_
      refine wx_f rfl (f_move rfl) ?_
      refine wx_f rfl (f_move rfl) ?_
      refine wx_f rfl (f_nilCheck rfl) ?_
      refine wx_f rfl (f_fieldAddr 1 rfl Try.underlying79 rfl rfl (by kernel_rfl)) ?_
      (first | refine wx_f rfl (f_loadb 0 rfl Try.underlying33 rfl rfl rfl) ?_ | refine wx_f rfl (f_loadb 1 rfl Try.underlying33 rfl rfl rfl) ?_ | refine wx_f rfl (f_loadb 2 rfl Try.underlying33 rfl rfl rfl) ?_ | refine wx_f rfl (f_loadb 3 rfl Try.underlying33 rfl rfl rfl) ?_ | refine wx_f rfl (f_loadb 4 rfl Try.underlying33 rfl rfl rfl) ?_ | refine wx_f rfl (f_loadb 5 rfl Try.underlying33 rfl rfl rfl) ?_ | refine wx_f rfl (f_loadb 6 rfl Try.underlying33 rfl rfl rfl) ?_)
      refine wx_f rfl (f_move rfl) ?_
      refine wx_f rfl (f_sliceA 1 (l := i) (u := l.length) rfl Try.underlying33 (by kernel_rfl) ⟨_, rfl⟩ rfl (by omega) (by omega)) ?_
      refine wx_two ?_ ?_
      · skip
        refine ks_e rfl (e_lit0 t33) ?_
        rintro _ _ w3_1 ⟨b3_1, rfl, rfl⟩
        refine ⟨_, List.perm_middle.symm, ?_⟩
        refine wx_two ?_ ?_
        · skip
          refine ks_e rfl (e_appN 2 t33 rfl rfl rfl (fun w hh => (Rd.held0 hh (i := 1) rfl).cut (l := 0) (u := i) (by omega) (by omega)) (mid_one (iv_one _) _ _) (by omega) (by omega)) ?_
          rintro _ _ w3_8 ⟨⟨U1, a1, rfl⟩, rfl⟩
          refine ⟨_, List.Perm.refl _, ?_⟩
          refine wx_ef ?_
          refine ks_e rfl (e_lit1 (cs := [_]) t33 rfl rfl rfl (by omega)) ?_
          rintro _ _ w3_10 ⟨b3_10, rfl, rfl⟩
          refine ⟨_, List.perm_middle.symm, ?_⟩
          refine wx_ef ?_
          refine ks_e rfl (e_appN 3 t33 rfl rfl rfl (fun w hh => Rd.held0 hh (i := 2) rfl) (by simp [Value.oneCell']) (by omega) (by omega)) ?_
          rintro _ _ w3_11 ⟨⟨U2, a2, rfl⟩, rfl⟩
          refine ⟨_, List.Perm.refl _, ?_⟩
          refine wx_ef ?_
          refine ks_e rfl (e_appN 3 t33 rfl rfl rfl (fun w hh => (Rd.held0 hh (i := 1) rfl).cut (l := i) (u := l.length) (by omega) (by omega)) (mid_one (iv_one _) _ _) (by omega) (by omega)) ?_
          rintro _ _ w3_18 ⟨⟨U3, a3, rfl⟩, rfl⟩
          refine ⟨_, List.Perm.refl _, ?_⟩
          refine wx_f rfl (f_nilCheck rfl) ?_
          refine wx_f rfl (f_fieldAddr 1 rfl Try.underlying79 rfl rfl (by kernel_rfl)) ?_
          refine wx_ef ?_
          refine ks_e0 rfl (e_storeN 0 (us := [_]) rfl rfl rfl rfl (by kernel_rfl) (by simp [Value.oneCell']) rfl rfl) ?_
          rintro _ _ w3_21 rfl
          refine ⟨_, pick_perm [1] _ rfl, ?_⟩
          refine wx_endp [(0, _), (2, _), (6, _)] [1, 2, 2] ⟨rfl, rfl, rfl, trivial⟩ rfl ?_
          refine ⟨U3, a3, rfl, ?_⟩
          have hcells := ins_cells (ids l) i z (by rw [ids, List.length_map]; omega)
          rw [show (ids l).length = l.length by simp [ids]] at hcells
          rw [hlen, hcells]
          rfl
        · skip
          refine ks_e rfl (e_lit1 (cs := [_]) t33 rfl rfl rfl (by omega)) ?_
          rintro _ _ w3_10 ⟨b3_10, rfl, rfl⟩
          refine ⟨_, List.perm_middle.symm, ?_⟩
          refine wx_ef ?_
          refine ks_e rfl (e_appN 3 t33 rfl rfl rfl (fun w hh => (Rd.held0 hh (i := 1) rfl).cut (l := 0) (u := i) (by omega) (by omega)) (mid_one (iv_one _) _ _) (by omega) (by omega)) ?_
          rintro _ _ w3_8 ⟨⟨U1, a1, rfl⟩, rfl⟩
          refine ⟨_, List.Perm.refl _, ?_⟩
          refine wx_ef ?_
          refine ks_e rfl (e_appN 3 t33 rfl rfl rfl (fun w hh => Rd.held0 hh (i := 2) rfl) (by simp [Value.oneCell']) (by omega) (by omega)) ?_
          rintro _ _ w3_11 ⟨⟨U2, a2, rfl⟩, rfl⟩
          refine ⟨_, List.Perm.refl _, ?_⟩
          refine wx_ef ?_
          refine ks_e rfl (e_appN 3 t33 rfl rfl rfl (fun w hh => (Rd.held0 hh (i := 1) rfl).cut (l := i) (u := l.length) (by omega) (by omega)) (mid_one (iv_one _) _ _) (by omega) (by omega)) ?_
          rintro _ _ w3_18 ⟨⟨U3, a3, rfl⟩, rfl⟩
          refine ⟨_, List.Perm.refl _, ?_⟩
          refine wx_f rfl (f_nilCheck rfl) ?_
          refine wx_f rfl (f_fieldAddr 1 rfl Try.underlying79 rfl rfl (by kernel_rfl)) ?_
          refine wx_ef ?_
          refine ks_e0 rfl (e_storeN 0 (us := [_]) rfl rfl rfl rfl (by kernel_rfl) (by simp [Value.oneCell']) rfl rfl) ?_
          rintro _ _ w3_21 rfl
          refine ⟨_, pick_perm [1] _ rfl, ?_⟩
          refine wx_endp [(0, _), (2, _), (6, _)] [1, 2, 2] ⟨rfl, rfl, rfl, trivial⟩ rfl ?_
          refine ⟨U3, a3, rfl, ?_⟩
          have hcells := ins_cells (ids l) i z (by rw [ids, List.length_map]; omega)
          rw [show (ids l).length = l.length by simp [ids]] at hcells
          rw [hlen, hcells]
          rfl
      · skip
        refine ks_e rfl (e_lit1 (cs := [_]) t33 rfl rfl rfl (by omega)) ?_
        rintro _ _ w3_10 ⟨b3_10, rfl, rfl⟩
        refine ⟨_, List.perm_middle.symm, ?_⟩
        refine wx_ef ?_
        refine ks_e rfl (e_lit0 t33) ?_
        rintro _ _ w3_1 ⟨b3_1, rfl, rfl⟩
        refine ⟨_, List.perm_middle.symm, ?_⟩
        refine wx_ef ?_
        refine ks_e rfl (e_appN 2 t33 rfl rfl rfl (fun w hh => (Rd.held0 hh (i := 1) rfl).cut (l := 0) (u := i) (by omega) (by omega)) (mid_one (iv_one _) _ _) (by omega) (by omega)) ?_
        rintro _ _ w3_8 ⟨⟨U1, a1, rfl⟩, rfl⟩
        refine ⟨_, List.Perm.refl _, ?_⟩
        refine wx_ef ?_
        refine ks_e rfl (e_appN 2 t33 rfl rfl rfl (fun w hh => Rd.held0 hh (i := 3) rfl) (by simp [Value.oneCell']) (by omega) (by omega)) ?_
        rintro _ _ w3_11 ⟨⟨U2, a2, rfl⟩, rfl⟩
        refine ⟨_, List.Perm.refl _, ?_⟩
        refine wx_ef ?_
        refine ks_e rfl (e_appN 2 t33 rfl rfl rfl (fun w hh => (Rd.held0 hh (i := 1) rfl).cut (l := i) (u := l.length) (by omega) (by omega)) (mid_one (iv_one _) _ _) (by omega) (by omega)) ?_
        rintro _ _ w3_18 ⟨⟨U3, a3, rfl⟩, rfl⟩
        refine ⟨_, List.Perm.refl _, ?_⟩
        refine wx_f rfl (f_nilCheck rfl) ?_
        refine wx_f rfl (f_fieldAddr 1 rfl Try.underlying79 rfl rfl (by kernel_rfl)) ?_
        refine wx_ef ?_
        refine ks_e0 rfl (e_storeN 0 (us := [_]) rfl rfl rfl rfl (by kernel_rfl) (by simp [Value.oneCell']) rfl rfl) ?_
        rintro _ _ w3_21 rfl
        refine ⟨_, pick_perm [1] _ rfl, ?_⟩
        refine wx_endp [(0, _), (2, _), (6, _)] [1, 1, 2] ⟨rfl, rfl, rfl, trivial⟩ rfl ?_
        refine ⟨U3, a3, rfl, ?_⟩
        have hcells := ins_cells (ids l) i z (by rw [ids, List.length_map]; omega)
        rw [show (ids l).length = l.length by simp [ids]] at hcells
        rw [hlen, hcells]
        rfl
    rintro _ _ w3_ ⟨U6, a6, rfl, rfl⟩
    refine w_post (fun m H w' => ∃ (U : Option Addr) (cu : Nat), m = [] ∧ H = [blk q [.int .i64 (n : Int), .slice U6 (l.length + 1) a6, .slice U (l.length + 1) cu] 79, row (.slice U6 (l.length + 1) a6) 3 1 (l.length + 1) (iv ((ids l).take i ++ z :: (ids l).drop i)), row (.slice U (l.length + 1) cu) 63 1 (l.length + 1) (u64v ((l.map Prod.snd).take i ++ c :: (l.map Prod.snd).drop i))]) ?_ ?_
    · skip
      refine w_drawx (.fl 0 (.fl 2 (.fl 3 (.fl 4 (.fl 5 (.fl 6 (.fl 7 (.fl 9 (.fl 12 (.fl 13 (.fl 14 (.fl 15 (.fl 16 (.fl 17 (.two 1 (.two 8 (.ef 10 (.ef 11 (.ef 18 (.fl 19 (.fl 20 (.ef 21 .done)))))) 10 (.ef 8 (.ef 11 (.ef 18 (.fl 19 (.fl 20 (.ef 21 .done))))))) 10 (.ef 1 (.ef 8 (.ef 11 (.ef 18 (.fl 19 (.fl 20 (.ef 21 .done)))))))))))))))))))))) ([(_, some 21), (_, none)]) ([_]) mixed (by kernel_rfl) (by kernel_rfl) rfl rfl (pick_perm [0, 1] _ rfl) (fun w4_ => ?_)
      refine wx_f rfl (f_move rfl) ?_
      refine wx_f rfl (f_move rfl) ?_
      refine wx_f rfl (f_nilCheck rfl) ?_
      refine wx_f rfl (f_fieldAddr 2 rfl Try.underlying79 rfl rfl (by kernel_rfl)) ?_
      (first | refine wx_f rfl (f_loadb 0 rfl Try.underlying77 rfl rfl rfl) ?_ | refine wx_f rfl (f_loadb 1 rfl Try.underlying77 rfl rfl rfl) ?_ | refine wx_f rfl (f_loadb 2 rfl Try.underlying77 rfl rfl rfl) ?_ | refine wx_f rfl (f_loadb 3 rfl Try.underlying77 rfl rfl rfl) ?_ | refine wx_f rfl (f_loadb 4 rfl Try.underlying77 rfl rfl rfl) ?_ | refine wx_f rfl (f_loadb 5 rfl Try.underlying77 rfl rfl rfl) ?_ | refine wx_f rfl (f_loadb 6 rfl Try.underlying77 rfl rfl rfl) ?_)
      refine wx_f rfl (f_move rfl) ?_
      refine wx_f rfl (f_sliceA 1 (l := 0) (u := i) rfl Try.underlying77 (by kernel_rfl) rfl ⟨_, rfl⟩ (by omega) (by omega)) ?_
      refine wx_f rfl (f_move rfl) ?_
      refine wx_f rfl (f_move rfl) ?_
      refine wx_f rfl (f_nilCheck rfl) ?_
      refine wx_f rfl (f_fieldAddr 2 rfl Try.underlying79 rfl rfl (by kernel_rfl)) ?_
      (first | refine wx_f rfl (f_loadb 0 rfl Try.underlying77 rfl rfl rfl) ?_ | refine wx_f rfl (f_loadb 1 rfl Try.underlying77 rfl rfl rfl) ?_ | refine wx_f rfl (f_loadb 2 rfl Try.underlying77 rfl rfl rfl) ?_ | refine wx_f rfl (f_loadb 3 rfl Try.underlying77 rfl rfl rfl) ?_ | refine wx_f rfl (f_loadb 4 rfl Try.underlying77 rfl rfl rfl) ?_ | refine wx_f rfl (f_loadb 5 rfl Try.underlying77 rfl rfl rfl) ?_ | refine wx_f rfl (f_loadb 6 rfl Try.underlying77 rfl rfl rfl) ?_)
      refine wx_f rfl (f_move rfl) ?_
      refine wx_f rfl (f_sliceA 1 (l := i) (u := l.length) rfl Try.underlying77 (by kernel_rfl) ⟨_, rfl⟩ rfl (by omega) (by omega)) ?_
      refine wx_two ?_ ?_
      · skip
        refine ks_e rfl (e_lit0 t77) ?_
        rintro _ _ w4_1 ⟨b4_1, rfl, rfl⟩
        refine ⟨_, List.perm_middle.symm, ?_⟩
        refine wx_two ?_ ?_
        · skip
          refine ks_e rfl (e_appN 2 t77 rfl rfl rfl (fun w hh => (Rd.held0 hh (i := 1) rfl).cut (l := 0) (u := i) (by omega) (by omega)) (mid_one (u64v_one _) _ _) (by omega) (by omega)) ?_
          rintro _ _ w4_8 ⟨⟨U1, a1, rfl⟩, rfl⟩
          refine ⟨_, List.Perm.refl _, ?_⟩
          refine wx_ef ?_
          refine ks_e rfl (e_lit1 (cs := [_]) t77 rfl rfl rfl (by omega)) ?_
          rintro _ _ w4_10 ⟨b4_10, rfl, rfl⟩
          refine ⟨_, List.perm_middle.symm, ?_⟩
          refine wx_ef ?_
          refine ks_e rfl (e_appN 3 t77 rfl rfl rfl (fun w hh => Rd.held0 hh (i := 2) rfl) (by simp [Value.oneCell']) (by omega) (by omega)) ?_
          rintro _ _ w4_11 ⟨⟨U2, a2, rfl⟩, rfl⟩
          refine ⟨_, List.Perm.refl _, ?_⟩
          refine wx_ef ?_
          refine ks_e rfl (e_appN 3 t77 rfl rfl rfl (fun w hh => (Rd.held0 hh (i := 1) rfl).cut (l := i) (u := l.length) (by omega) (by omega)) (mid_one (u64v_one _) _ _) (by omega) (by omega)) ?_
          rintro _ _ w4_18 ⟨⟨U3, a3, rfl⟩, rfl⟩
          refine ⟨_, List.Perm.refl _, ?_⟩
          refine wx_f rfl (f_nilCheck rfl) ?_
          refine wx_f rfl (f_fieldAddr 2 rfl Try.underlying79 rfl rfl (by kernel_rfl)) ?_
          refine wx_ef ?_
          refine ks_e0 rfl (e_storeN 0 (us := [_]) rfl rfl rfl rfl (by kernel_rfl) (by simp [Value.oneCell']) rfl rfl) ?_
          rintro _ _ w4_21 rfl
          refine ⟨_, pick_perm [1] _ rfl, ?_⟩
          refine wx_endp [] [1, 3, 2] trivial rfl ?_
          refine ⟨U3, a3, rfl, ?_⟩
          have hcells := ins_cellsG (fun c : Nat => Value.int .u64 (c : Int)) (l.map Prod.snd) i c (by rw [List.length_map]; omega)
          rw [List.length_map] at hcells
          rw [hlen]
          simp only [u64v]
          rw [hcells]
          rfl
        · skip
          refine ks_e rfl (e_lit1 (cs := [_]) t77 rfl rfl rfl (by omega)) ?_
          rintro _ _ w4_10 ⟨b4_10, rfl, rfl⟩
          refine ⟨_, List.perm_middle.symm, ?_⟩
          refine wx_ef ?_
          refine ks_e rfl (e_appN 3 t77 rfl rfl rfl (fun w hh => (Rd.held0 hh (i := 1) rfl).cut (l := 0) (u := i) (by omega) (by omega)) (mid_one (u64v_one _) _ _) (by omega) (by omega)) ?_
          rintro _ _ w4_8 ⟨⟨U1, a1, rfl⟩, rfl⟩
          refine ⟨_, List.Perm.refl _, ?_⟩
          refine wx_ef ?_
          refine ks_e rfl (e_appN 3 t77 rfl rfl rfl (fun w hh => Rd.held0 hh (i := 2) rfl) (by simp [Value.oneCell']) (by omega) (by omega)) ?_
          rintro _ _ w4_11 ⟨⟨U2, a2, rfl⟩, rfl⟩
          refine ⟨_, List.Perm.refl _, ?_⟩
          refine wx_ef ?_
          refine ks_e rfl (e_appN 3 t77 rfl rfl rfl (fun w hh => (Rd.held0 hh (i := 1) rfl).cut (l := i) (u := l.length) (by omega) (by omega)) (mid_one (u64v_one _) _ _) (by omega) (by omega)) ?_
          rintro _ _ w4_18 ⟨⟨U3, a3, rfl⟩, rfl⟩
          refine ⟨_, List.Perm.refl _, ?_⟩
          refine wx_f rfl (f_nilCheck rfl) ?_
          refine wx_f rfl (f_fieldAddr 2 rfl Try.underlying79 rfl rfl (by kernel_rfl)) ?_
          refine wx_ef ?_
          refine ks_e0 rfl (e_storeN 0 (us := [_]) rfl rfl rfl rfl (by kernel_rfl) (by simp [Value.oneCell']) rfl rfl) ?_
          rintro _ _ w4_21 rfl
          refine ⟨_, pick_perm [1] _ rfl, ?_⟩
          refine wx_endp [] [1, 3, 2] trivial rfl ?_
          refine ⟨U3, a3, rfl, ?_⟩
          have hcells := ins_cellsG (fun c : Nat => Value.int .u64 (c : Int)) (l.map Prod.snd) i c (by rw [List.length_map]; omega)
          rw [List.length_map] at hcells
          rw [hlen]
          simp only [u64v]
          rw [hcells]
          rfl
      · skip
        refine ks_e rfl (e_lit1 (cs := [_]) t77 rfl rfl rfl (by omega)) ?_
        rintro _ _ w4_10 ⟨b4_10, rfl, rfl⟩
        refine ⟨_, List.perm_middle.symm, ?_⟩
        refine wx_ef ?_
        refine ks_e rfl (e_lit0 t77) ?_
        rintro _ _ w4_1 ⟨b4_1, rfl, rfl⟩
        refine ⟨_, List.perm_middle.symm, ?_⟩
        refine wx_ef ?_
        refine ks_e rfl (e_appN 2 t77 rfl rfl rfl (fun w hh => (Rd.held0 hh (i := 1) rfl).cut (l := 0) (u := i) (by omega) (by omega)) (mid_one (u64v_one _) _ _) (by omega) (by omega)) ?_
        rintro _ _ w4_8 ⟨⟨U1, a1, rfl⟩, rfl⟩
        refine ⟨_, List.Perm.refl _, ?_⟩
        refine wx_ef ?_
        refine ks_e rfl (e_appN 2 t77 rfl rfl rfl (fun w hh => Rd.held0 hh (i := 3) rfl) (by simp [Value.oneCell']) (by omega) (by omega)) ?_
        rintro _ _ w4_11 ⟨⟨U2, a2, rfl⟩, rfl⟩
        refine ⟨_, List.Perm.refl _, ?_⟩
        refine wx_ef ?_
        refine ks_e rfl (e_appN 2 t77 rfl rfl rfl (fun w hh => (Rd.held0 hh (i := 1) rfl).cut (l := i) (u := l.length) (by omega) (by omega)) (mid_one (u64v_one _) _ _) (by omega) (by omega)) ?_
        rintro _ _ w4_18 ⟨⟨U3, a3, rfl⟩, rfl⟩
        refine ⟨_, List.Perm.refl _, ?_⟩
        refine wx_f rfl (f_nilCheck rfl) ?_
        refine wx_f rfl (f_fieldAddr 2 rfl Try.underlying79 rfl rfl (by kernel_rfl)) ?_
        refine wx_ef ?_
        refine ks_e0 rfl (e_storeN 0 (us := [_]) rfl rfl rfl rfl (by kernel_rfl) (by simp [Value.oneCell']) rfl rfl) ?_
        rintro _ _ w4_21 rfl
        refine ⟨_, pick_perm [1] _ rfl, ?_⟩
        refine wx_endp [] [1, 3, 1] trivial rfl ?_
        refine ⟨U3, a3, rfl, ?_⟩
        have hcells := ins_cellsG (fun c : Nat => Value.int .u64 (c : Int)) (l.map Prod.snd) i c (by rw [List.length_map]; omega)
        rw [List.length_map] at hcells
        rw [hlen]
        simp only [u64v]
        rw [hcells]
        rfl
    rintro _ _ w4_ ⟨U7, a7, rfl, rfl⟩
    refine ⟨_, _, fun a ha hh => results_tmps (l := []) Try.results75 rfl a ha _, List.Sublist.refl _, ?_⟩
    refine ⟨.slice U6 (l.length + 1) a6, .slice U7 (l.length + 1) a7, ?_⟩
    have e2 : ids (ins l z c) = (ids l).take i ++ z :: (ids l).drop i := by rw [hins]; simp [ids, List.map_take, List.map_drop]
    have e3 : (ins l z c).map Prod.snd = (l.map Prod.snd).take i ++ c :: (l.map Prod.snd).drop i := by rw [hins]; simp [List.map_take, List.map_drop]
    rw [rrs, ins_len, e2, e3]

theorem rem_split {A B : Ord} {z : Int} {c : Nat} (h : z ∉ ids A) : rem (A ++ (z, c) :: B) z = A ++ B ∧ look (A ++ (z, c) :: B) z = some c := ⟨rem_at h, look_at h⟩
theorem get_cnt {A B : Ord} {z : Int} {c : Nat} : ((A ++ (z, c) :: B).map Prod.snd)[A.length]? = some c := by simp [List.getElem?_append]
theorem u64v_len (l : List Nat) : (u64v l).length = l.length := by simp [u64v]

set_option maxHeartbeats 4000000 in
theorem rfremove_spec (q n : Nat) (l : Ord) (z : Int) (r : Res) (w : World) (hl : l.length ≤ 8192) (hr : RfR q n l r) (hs : Holds w r.foot [r] w) :
    Spec Try.prog 58 [.pointer (some ⟨q, 0, .none⟩), .int .i64 z] w r.foot fun v H => v = .tuple #[.int .u64 ((orem l z).1 : Int), .int .i64 (orem l z).2.1] ∧ ∃ r', H = [r'] ∧ RfR q n (orem l z).2.2 r' := by
  refine enter (n := 59) Try.func58 rfl rfl [(0, _), (1, _)] rfl ⟨rfl, rfl, trivial⟩ hs ?_
  refine w_seq ?_
  refine w_reg ?_
  refine wl_f (f_assign rfl) ?_
  refine wl_f (f_assign rfl) ?_
  refine wl_end [(0, _), (1, _)] ⟨rfl, rfl, trivial⟩ ?_
  refine w_seq ?_
  refine w_reg ?_
  refine wl_f (f_move rfl) ?_
  refine wl_f (f_move rfl) ?_
  refine wl_e (e_call1 r [] rfl Try.func74 (by kernel_rfl) (List.Perm.refl _) (fun w hh hs => rfplace_spec q n l r z w hl hr hs)) ?_
  rintro _ _ w2 ⟨_, rfl, rfl, y, rfl, hy⟩
  refine wl_f (f_assign rfl) ?_
  refine wl_end [(0, _), (6, _)] ⟨rfl, rfl, trivial⟩ ?_
  refine w_seq ?_
  refine w_seq ?_
  refine w_reg ?_
  refine wl_f (f_move rfl) ?_
  refine wl_f (f_lss rfl rfl) ?_
  refine wl_end [(0, _), (6, _), (12, _)] ⟨rfl, rfl, rfl, trivial⟩ ?_
  refine w_ifd rfl (fun hc1 => ?_) (fun hc1 => ?_)
  · skip
    have hno := rpl_no hy hc1
    have e1 : orem l z = (0, 8, l) := by simp only [orem, look_none.2 hno]
    refine w_seq ?_
    refine w_reg ?_
    refine wl_f (f_assign rfl) ?_
    refine wl_f (f_assign rfl) ?_
    refine wl_end [(4, _), (5, _)] ⟨rfl, rfl, trivial⟩ ?_
    refine w_ret ?_
    refine ⟨_, _, fun a ha hh => results_tmps Try.results58 rfl a ha _, List.Sublist.refl _, ?_⟩
    rw [e1]; exact ⟨rfl, _, rfl, hr⟩
  · skip
    obtain ⟨A, c, B, rfl, hzA, rfl⟩ := rpl_at hy hc1
    have hAl : (A ++ (z, c) :: B).length = A.length + B.length + 1 := by simp; omega
    have e0 : orem (A ++ (z, c) :: B) z = (c, 0, A ++ B) := by simp only [orem, (rem_split (c := c) (B := B) hzA).1, (rem_split (c := c) (B := B) hzA).2]
    rw [e0]
    generalize hL : A ++ (z, c) :: B = L at hAl hl hr hs ⊢
    obtain ⟨NV, VV, rfl⟩ := id hr
    refine w_with fun hh => ?_
    obtain ⟨g1, cn, e1⟩ := rowB_form hh (i := 0) (j := 1) rfl rfl (by omega)
    obtain ⟨g2, cv, e2⟩ := rowB_form hh (i := 0) (j := 2) rfl rfl (by omega)
    subst e1; subst e2
    have hcn : L.length ≤ cn := by
      obtain ⟨_, _, e, _, h, _⟩ := Rd.heldB hh (i := 0) (j := 1) rfl rfl
      injection e with _ _ e
      subst e
      exact h
    have hcv : L.length ≤ cv := by
      obtain ⟨_, _, e, _, h, _⟩ := Rd.heldB hh (i := 0) (j := 2) rfl rfl
      injection e with _ _ e
      subst e
      exact h
    clear hh
    have hlen : 0 + (A.length - 0) + (L.length - (A.length + 1)) = L.length - 1 := by omega
    refine w_unb (H := []) (rrs q n L (.slice (some ⟨g1, 0, .none⟩) L.length cn) (.slice (some ⟨g2, 0, .none⟩) L.length cv)) ?_
    refine w_skip ?_
    refine w_seq ?_
    refine w_reg ?_
    refine wl_f (f_move rfl) ?_
    refine wl_f (f_nilCheck rfl) ?_
    refine wl_f (f_fieldAddr 2 rfl Try.underlying79 rfl rfl (by kernel_rfl)) ?_
    (first | refine wl_f (f_loadb 0 rfl Try.underlying77 rfl rfl rfl) ?_ | refine wl_f (f_loadb 1 rfl Try.underlying77 rfl rfl rfl) ?_ | refine wl_f (f_loadb 2 rfl Try.underlying77 rfl rfl rfl) ?_ | refine wl_f (f_loadb 3 rfl Try.underlying77 rfl rfl rfl) ?_ | refine wl_f (f_loadb 4 rfl Try.underlying77 rfl rfl rfl) ?_ | refine wl_f (f_loadb 5 rfl Try.underlying77 rfl rfl rfl) ?_ | refine wl_f (f_loadb 6 rfl Try.underlying77 rfl rfl rfl) ?_)
    refine wl_f (f_move rfl) ?_
    refine wl_f (f_indexAddr 1 (i := A.length) rfl rfl Try.underlying77 (by kernel_rfl) rfl (by omega)) ?_
    refine wl_f (f_loadr (v := .int .u64 c) 2 rfl Try.underlying63 rfl rfl (map_get (fun c : Nat => Value.int .u64 (c : Int)) (by rw [← hL]; exact get_cnt))) ?_
    refine wl_f (f_assign rfl) ?_
    refine wl_end [(0, _), (6, _), (7, _)] ⟨rfl, rfl, rfl, trivial⟩ ?_
    refine w_seq ?_
    refine w_post (fun m H w' => ∃ (U : Option Addr) (cu : Nat), m = [(0, .pointer (some ⟨q, 0, .none⟩)), (6, .int .i64 (A.length : Nat)), (7, .int .u64 c)] ∧ H = [blk q [.int .i64 (n : Int), .slice U (L.length - 1) cu, .slice (some ⟨g2, 0, .none⟩) L.length cv] 79, row (.slice U (L.length - 1) cu) 3 1 (L.length - 1) (iv ((ids L).take A.length ++ (ids L).drop (A.length + 1))), row (.slice (some ⟨g2, 0, .none⟩) L.length cv) 63 1 L.length (u64v (L.map Prod.snd))]) ?_ ?_
    · skip
      refine w_drawx (.fl 0 (.fl 2 (.fl 3 (.fl 4 (.fl 5 (.fl 6 (.fl 7 (.fl 9 (.fl 10 (.fl 11 (.fl 12 (.fl 13 (.fl 14 (.fl 15 (.ef 1 (.ef 8 (.ef 16 (.fl 17 (.fl 18 (.ef 19 .done)))))))))))))))))))) ([(_, some 19), (_, none)]) ([_]) mixed (by kernel_rfl) (by kernel_rfl) rfl rfl (List.Perm.refl _) (fun w5_ => ?_)
      refine wx_f rfl (f_move rfl) ?_
      refine wx_f rfl (f_move rfl) ?_
      refine wx_f rfl (f_nilCheck rfl) ?_
      refine wx_f rfl (f_fieldAddr 1 rfl Try.underlying79 rfl rfl (by kernel_rfl)) ?_
      (first | refine wx_f rfl (f_loadb 0 rfl Try.underlying33 rfl rfl rfl) ?_ | refine wx_f rfl (f_loadb 1 rfl Try.underlying33 rfl rfl rfl) ?_ | refine wx_f rfl (f_loadb 2 rfl Try.underlying33 rfl rfl rfl) ?_ | refine wx_f rfl (f_loadb 3 rfl Try.underlying33 rfl rfl rfl) ?_ | refine wx_f rfl (f_loadb 4 rfl Try.underlying33 rfl rfl rfl) ?_ | refine wx_f rfl (f_loadb 5 rfl Try.underlying33 rfl rfl rfl) ?_ | refine wx_f rfl (f_loadb 6 rfl Try.underlying33 rfl rfl rfl) ?_)
      refine wx_f rfl (f_move rfl) ?_
      refine wx_f rfl (f_sliceA 1 (l := 0) (u := A.length) rfl Try.underlying33 (by kernel_rfl) rfl ⟨_, rfl⟩ (by omega) (by omega)) ?_
      refine wx_f rfl (f_move rfl) ?_
      refine wx_f rfl (f_nilCheck rfl) ?_
      refine wx_f rfl (f_fieldAddr 1 rfl Try.underlying79 rfl rfl (by kernel_rfl)) ?_
      (first | refine wx_f rfl (f_loadb 0 rfl Try.underlying33 rfl rfl rfl) ?_ | refine wx_f rfl (f_loadb 1 rfl Try.underlying33 rfl rfl rfl) ?_ | refine wx_f rfl (f_loadb 2 rfl Try.underlying33 rfl rfl rfl) ?_ | refine wx_f rfl (f_loadb 3 rfl Try.underlying33 rfl rfl rfl) ?_ | refine wx_f rfl (f_loadb 4 rfl Try.underlying33 rfl rfl rfl) ?_ | refine wx_f rfl (f_loadb 5 rfl Try.underlying33 rfl rfl rfl) ?_ | refine wx_f rfl (f_loadb 6 rfl Try.underlying33 rfl rfl rfl) ?_)
      refine wx_f rfl (f_move rfl) ?_
      refine wx_f rfl (f_add rfl rfl (by omega)) ?_
      refine wx_f rfl (f_sliceA 1 (l := A.length + 1) (u := L.length) rfl Try.underlying33 (by kernel_rfl) ⟨_, rfl⟩ rfl (by omega) (by omega)) ?_
      refine wx_ef ?_
      refine ks_e rfl (e_lit0 t33) ?_
      rintro _ _ w5_1 ⟨b5_1, rfl, rfl⟩
      refine ⟨_, List.perm_middle.symm, ?_⟩
      refine wx_ef ?_
      refine ks_e rfl (e_appN 2 t33 rfl rfl rfl (fun w hh => (Rd.held0 hh (i := 1) rfl).cut (l := 0) (u := A.length) (by omega) (by omega)) (mid_one (iv_one _) _ _) (by omega) (by omega)) ?_
      rintro _ _ w5_8 ⟨⟨U1, a1, rfl⟩, rfl⟩
      refine ⟨_, List.Perm.refl _, ?_⟩
      refine wx_ef ?_
      refine ks_e rfl (e_appN 2 t33 rfl rfl rfl (fun w hh => (Rd.held0 hh (i := 1) rfl).cut (l := A.length + 1) (u := L.length) (by omega) (by omega)) (mid_one (iv_one _) _ _) (by omega) (by omega)) ?_
      rintro _ _ w5_16 ⟨⟨U3, a3, rfl⟩, rfl⟩
      refine ⟨_, List.Perm.refl _, ?_⟩
      refine wx_f rfl (f_nilCheck rfl) ?_
      refine wx_f rfl (f_fieldAddr 1 rfl Try.underlying79 rfl rfl (by kernel_rfl)) ?_
      refine wx_ef ?_
      refine ks_e0 rfl (e_storeN 0 (us := [_]) rfl rfl rfl rfl (by kernel_rfl) (by simp [Value.oneCell']) rfl rfl) ?_
      rintro _ _ w5_19 rfl
      refine ⟨_, pick_perm [1] _ rfl, ?_⟩
      refine wx_endp [(0, _), (6, _), (7, _)] [1, 1, 1] ⟨rfl, rfl, rfl, trivial⟩ rfl ?_
      refine ⟨U3, a3, rfl, ?_⟩
      have hcells := del_cells (ids L) A.length
      rw [show (ids L).length = L.length by simp [ids]] at hcells
      rw [hlen, hcells]
      rfl
    rintro _ _ w5_ ⟨U5, a5, rfl, rfl⟩
    refine w_seq ?_
    refine w_post (fun m H w' => ∃ (U : Option Addr) (cu : Nat), m = [(7, .int .u64 c)] ∧ H = [blk q [.int .i64 (n : Int), .slice U5 (L.length - 1) a5, .slice U (L.length - 1) cu] 79, row (.slice U5 (L.length - 1) a5) 3 1 (L.length - 1) (iv ((ids L).take A.length ++ (ids L).drop (A.length + 1))), row (.slice U (L.length - 1) cu) 63 1 (L.length - 1) (u64v ((L.map Prod.snd).take A.length ++ (L.map Prod.snd).drop (A.length + 1)))]) ?_ ?_
    · skip
      refine w_drawx (.fl 0 (.fl 2 (.fl 3 (.fl 4 (.fl 5 (.fl 6 (.fl 7 (.fl 9 (.fl 10 (.fl 11 (.fl 12 (.fl 13 (.fl 14 (.fl 15 (.ef 1 (.ef 8 (.ef 16 (.fl 17 (.fl 18 (.ef 19 .done)))))))))))))))))))) ([(_, some 19), (_, none)]) ([_]) mixed (by kernel_rfl) (by kernel_rfl) rfl rfl (pick_perm [0, 1] _ rfl) (fun w6_ => ?_)
      refine wx_f rfl (f_move rfl) ?_
      refine wx_f rfl (f_move rfl) ?_
      refine wx_f rfl (f_nilCheck rfl) ?_
      refine wx_f rfl (f_fieldAddr 2 rfl Try.underlying79 rfl rfl (by kernel_rfl)) ?_
      (first | refine wx_f rfl (f_loadb 0 rfl Try.underlying77 rfl rfl rfl) ?_ | refine wx_f rfl (f_loadb 1 rfl Try.underlying77 rfl rfl rfl) ?_ | refine wx_f rfl (f_loadb 2 rfl Try.underlying77 rfl rfl rfl) ?_ | refine wx_f rfl (f_loadb 3 rfl Try.underlying77 rfl rfl rfl) ?_ | refine wx_f rfl (f_loadb 4 rfl Try.underlying77 rfl rfl rfl) ?_ | refine wx_f rfl (f_loadb 5 rfl Try.underlying77 rfl rfl rfl) ?_ | refine wx_f rfl (f_loadb 6 rfl Try.underlying77 rfl rfl rfl) ?_)
      refine wx_f rfl (f_move rfl) ?_
      refine wx_f rfl (f_sliceA 1 (l := 0) (u := A.length) rfl Try.underlying77 (by kernel_rfl) rfl ⟨_, rfl⟩ (by omega) (by omega)) ?_
      refine wx_f rfl (f_move rfl) ?_
      refine wx_f rfl (f_nilCheck rfl) ?_
      refine wx_f rfl (f_fieldAddr 2 rfl Try.underlying79 rfl rfl (by kernel_rfl)) ?_
      (first | refine wx_f rfl (f_loadb 0 rfl Try.underlying77 rfl rfl rfl) ?_ | refine wx_f rfl (f_loadb 1 rfl Try.underlying77 rfl rfl rfl) ?_ | refine wx_f rfl (f_loadb 2 rfl Try.underlying77 rfl rfl rfl) ?_ | refine wx_f rfl (f_loadb 3 rfl Try.underlying77 rfl rfl rfl) ?_ | refine wx_f rfl (f_loadb 4 rfl Try.underlying77 rfl rfl rfl) ?_ | refine wx_f rfl (f_loadb 5 rfl Try.underlying77 rfl rfl rfl) ?_ | refine wx_f rfl (f_loadb 6 rfl Try.underlying77 rfl rfl rfl) ?_)
      refine wx_f rfl (f_move rfl) ?_
      refine wx_f rfl (f_add rfl rfl (by omega)) ?_
      refine wx_f rfl (f_sliceA 1 (l := A.length + 1) (u := L.length) rfl Try.underlying77 (by kernel_rfl) ⟨_, rfl⟩ rfl (by omega) (by omega)) ?_
      refine wx_ef ?_
      refine ks_e rfl (e_lit0 t77) ?_
      rintro _ _ w6_1 ⟨b6_1, rfl, rfl⟩
      refine ⟨_, List.perm_middle.symm, ?_⟩
      refine wx_ef ?_
      refine ks_e rfl (e_appN 2 t77 rfl rfl rfl (fun w hh => (Rd.held0 hh (i := 1) rfl).cut (l := 0) (u := A.length) (by omega) (by omega)) (mid_one (u64v_one _) _ _) (by omega) (by omega)) ?_
      rintro _ _ w6_8 ⟨⟨U1, a1, rfl⟩, rfl⟩
      refine ⟨_, List.Perm.refl _, ?_⟩
      refine wx_ef ?_
      refine ks_e rfl (e_appN 2 t77 rfl rfl rfl (fun w hh => (Rd.held0 hh (i := 1) rfl).cut (l := A.length + 1) (u := L.length) (by omega) (by omega)) (mid_one (u64v_one _) _ _) (by omega) (by omega)) ?_
      rintro _ _ w6_16 ⟨⟨U3, a3, rfl⟩, rfl⟩
      refine ⟨_, List.Perm.refl _, ?_⟩
      refine wx_f rfl (f_nilCheck rfl) ?_
      refine wx_f rfl (f_fieldAddr 2 rfl Try.underlying79 rfl rfl (by kernel_rfl)) ?_
      refine wx_ef ?_
      refine ks_e0 rfl (e_storeN 0 (us := [_]) rfl rfl rfl rfl (by kernel_rfl) (by simp [Value.oneCell']) rfl rfl) ?_
      rintro _ _ w6_19 rfl
      refine ⟨_, pick_perm [1] _ rfl, ?_⟩
      refine wx_endp [(7, _)] [1, 2, 1] ⟨rfl, trivial⟩ rfl ?_
      refine ⟨U3, a3, rfl, ?_⟩
      have hcells := del_cellsG (fun c : Nat => Value.int .u64 (c : Int)) (L.map Prod.snd) A.length
      rw [List.length_map] at hcells
      rw [hlen]
      simp only [u64v]
      rw [hcells]
      rfl
    rintro _ _ w6_ ⟨U6, a6, rfl, rfl⟩
    refine w_seq ?_
    refine w_reg ?_
    refine wl_f (f_move rfl) ?_
    refine wl_f (f_assign rfl) ?_
    refine wl_f (f_assign rfl) ?_
    refine wl_end [(4, _), (5, _)] ⟨rfl, rfl, trivial⟩ ?_
    refine w_bun (H := []) [_, _, _] ?_
    refine w_ret ?_
    refine ⟨_, _, fun a ha hh => results_tmps Try.results58 rfl a ha _, List.Sublist.refl _, ?_⟩
    subst hL
    refine ⟨rfl, _, rfl, .slice U5 ((A ++ (z, c) :: B).length - 1) a5, .slice U6 ((A ++ (z, c) :: B).length - 1) a6, ?_⟩
    have e1 : (A ++ B).length = (A ++ (z, c) :: B).length - 1 := by rw [hAl, List.length_append]; omega
    have e2 := del_map (Prod.fst : Int × Nat → Int) A B (z, c)
    have e3 := del_map (Prod.snd : Int × Nat → Nat) A B (z, c)
    show _ = bun (rrs q n (A ++ B) _ _)
    rw [rrs, e1, ids, ids, e2, e3]

set_option maxHeartbeats 1000000 in
theorem rfcount_spec (q n : Nat) (l : Ord) (z : Int) (r : Res) (w : World) (hl : l.length ≤ 8192) (hr : RfR q n l r) (hs : Holds w r.foot [r] w) :
    Spec Try.prog 59 [.pointer (some ⟨q, 0, .none⟩), .int .i64 z] w r.foot fun v H => v = .tuple #[.int .u64 (((look l z).getD 0 : Nat) : Int), .bool (look l z).isSome] ∧ H = [r] := by
  refine enter (n := 19) Try.func59 rfl rfl [(0, _), (1, _)] rfl ⟨rfl, rfl, trivial⟩ hs ?_
  refine w_seq ?_
  refine w_reg ?_
  refine wl_f (f_assign rfl) ?_
  refine wl_f (f_assign rfl) ?_
  refine wl_end [(0, _), (1, _)] ⟨rfl, rfl, trivial⟩ ?_
  refine w_seq ?_
  refine w_reg ?_
  refine wl_f (f_move rfl) ?_
  refine wl_f (f_move rfl) ?_
  refine wl_e (e_call1 r [] rfl Try.func74 (by kernel_rfl) (List.Perm.refl _) (fun w hh hs => rfplace_spec q n l r z w hl hr hs)) ?_
  rintro _ _ w2 ⟨_, rfl, rfl, y, rfl, hy⟩
  refine wl_f (f_assign rfl) ?_
  refine wl_end [(0, _), (6, _)] ⟨rfl, rfl, trivial⟩ ?_
  refine w_seq ?_
  refine w_seq ?_
  refine w_reg ?_
  refine wl_f (f_move rfl) ?_
  refine wl_f (f_lss rfl rfl) ?_
  refine wl_end [(0, _), (6, _), (11, _)] ⟨rfl, rfl, rfl, trivial⟩ ?_
  refine w_ifd rfl (fun hc1 => ?_) (fun hc1 => ?_)
  · skip
    refine w_seq ?_
    refine w_reg ?_
    refine wl_f (f_assign rfl) ?_
    refine wl_f (f_assign rfl) ?_
    refine wl_end [(4, _), (5, _)] ⟨rfl, rfl, trivial⟩ ?_
    refine w_ret ?_
    refine ⟨_, _, fun a ha hh => results_tmps Try.results59 rfl a ha _, List.Sublist.refl _, ?_⟩
    rw [look_none.2 (rpl_no hy hc1)]; exact ⟨rfl, rfl⟩
  · skip
    obtain ⟨A, c, B, rfl, hzA, rfl⟩ := rpl_at hy hc1
    have hAl : (A ++ (z, c) :: B).length = A.length + B.length + 1 := by simp; omega
    obtain ⟨NV, VV, rfl⟩ := id hr
    refine w_with fun hh => ?_
    obtain ⟨g, cap, e⟩ := rowB_form hh (i := 0) (j := 2) rfl rfl (by omega)
    subst e
    clear hh
    refine w_skip ?_
    refine w_seq ?_
    refine w_reg ?_
    refine wl_f (f_move rfl) ?_
    refine wl_f (f_nilCheck rfl) ?_
    refine wl_f (f_fieldAddr 2 rfl Try.underlying79 rfl rfl (by kernel_rfl)) ?_
    refine wl_f (f_loadB 0 0 rfl rfl rfl Try.underlying77 rfl rfl) ?_
    refine wl_f (f_move rfl) ?_
    refine wl_f (f_indexAddr 1 (i := A.length) rfl rfl Try.underlying77 (by kernel_rfl) rfl (by omega)) ?_
    refine wl_f (f_loadBr (v := .int .u64 c) 0 2 rfl rfl rfl Try.underlying63 rfl (map_get (fun c : Nat => Value.int .u64 (c : Int)) get_cnt)) ?_
    refine wl_f (f_assign rfl) ?_
    refine wl_f (f_assign rfl) ?_
    refine wl_end [(4, _), (5, _)] ⟨rfl, rfl, trivial⟩ ?_
    refine w_ret ?_
    refine ⟨_, _, fun a ha hh => results_tmps Try.results59 rfl a ha _, List.Sublist.refl _, ?_⟩
    rw [(rem_split (c := c) (B := B) hzA).2]; exact ⟨rfl, rfl⟩

set_option maxHeartbeats 1000000 in
theorem rfleast_spec (q n : Nat) (l : Ord) (r : Res) (w : World) (hl : l.length ≤ 8192) (hr : RfR q n l r) (hs : Holds w r.foot [r] w) :
    Spec Try.prog 60 [.pointer (some ⟨q, 0, .none⟩)] w r.foot fun v H => v = oleast l ∧ H = [r] := by
  obtain ⟨NV, VV, rfl⟩ := id hr
  refine enter (n := 23) Try.func60 rfl rfl [(0, _)] rfl ⟨rfl, trivial⟩ hs ?_
  refine w_with fun hh => ?_
  obtain ⟨N, cn, rfl⟩ := rowB_slice hh (i := 0) (j := 1) rfl rfl
  clear hh
  refine w_seq ?_
  refine w_reg ?_
  refine wl_f (f_assign rfl) ?_
  refine wl_f (f_assign rfl) ?_
  refine wl_f (f_assign rfl) ?_
  refine wl_end [(0, _)] ⟨rfl, trivial⟩ ?_
  refine w_seq ?_
  refine w_seq ?_
  refine w_reg ?_
  refine wl_f (f_move rfl) ?_
  refine wl_f (f_nilCheck rfl) ?_
  refine wl_f (f_fieldAddr 1 rfl Try.underlying79 rfl rfl (by kernel_rfl)) ?_
  refine wl_f (f_loadB 0 0 rfl rfl rfl Try.underlying33 rfl rfl) ?_
  refine wl_f (f_len rfl Try.underlying33) ?_
  refine wl_f (f_eql rfl rfl) ?_
  refine wl_end [(0, _), (10, _)] ⟨rfl, rfl, trivial⟩ ?_
  refine w_ifd rfl (fun hc1 => ?_) (fun hc1 => ?_)
  · skip
    obtain rfl : l = [] := by
      have : (l.length : Int) = 0 := hc1
      exact List.length_eq_zero_iff.1 (by omega)
    refine w_seq ?_
    refine w_reg ?_
    refine wl_f (f_assign rfl) ?_
    refine wl_f (f_assign rfl) ?_
    refine wl_f (f_assign rfl) ?_
    refine wl_end [(2, _), (3, _), (4, _)] ⟨rfl, rfl, rfl, trivial⟩ ?_
    refine w_ret ?_
    refine ⟨_, _, fun a ha hh => results_tmps Try.results60 rfl a ha _, List.Sublist.refl _, ?_⟩
    exact ⟨rfl, rfl⟩
  · skip
    obtain ⟨p, t, rfl⟩ : ∃ p t, l = p :: t := by
      cases l with
      | nil => exact absurd rfl hc1
      | cons p t => exact ⟨p, t, rfl⟩
    refine w_with fun hh => ?_
    obtain ⟨g1, c1, e⟩ := rowB_form hh (i := 0) (j := 1) rfl rfl (by simp)
    cases e
    obtain ⟨g2, c2, e⟩ := rowB_form hh (i := 0) (j := 2) rfl rfl (by simp)
    subst e
    clear hh
    refine w_skip ?_
    refine w_seq ?_
    refine w_draw [(0, true), (1, true), (2, true), (3, true), (4, true), (5, true), (6, true), (7, true), (8, true), (9, true), (10, true), (11, true), (12, true), (13, true), (14, true)] (_) ([]) mixed (by kernel_rfl) (by kernel_rfl) rfl (perm_all _) (fun w3_ => ?_)
    refine wd_f rfl (f_move rfl) ?_
    refine wd_f rfl (f_nilCheck rfl) ?_
    refine wd_f rfl (f_fieldAddr 1 rfl Try.underlying79 rfl rfl (by kernel_rfl)) ?_
    refine wd_f rfl (f_loadB 0 0 rfl rfl rfl Try.underlying33 rfl rfl) ?_
    refine wd_f rfl (f_indexAddr 1 (i := 0) rfl rfl Try.underlying33 (by kernel_rfl) rfl (by simp)) ?_
    refine wd_f rfl (f_loadBr (v := .int .i64 p.1) 0 1 rfl rfl rfl Try.underlying3 rfl (map_get (Value.int .i64) (x := 0) (l := ids (p :: t)) rfl)) ?_
    refine wd_f rfl (f_move rfl) ?_
    refine wd_f rfl (f_nilCheck rfl) ?_
    refine wd_f rfl (f_fieldAddr 2 rfl Try.underlying79 rfl rfl (by kernel_rfl)) ?_
    refine wd_f rfl (f_loadB 0 0 rfl rfl rfl Try.underlying77 rfl rfl) ?_
    refine wd_f rfl (f_indexAddr 1 (i := 0) rfl rfl Try.underlying77 (by kernel_rfl) rfl (by simp)) ?_
    refine wd_f rfl (f_loadBr (v := .int .u64 p.2) 0 2 rfl rfl rfl Try.underlying63 rfl (map_get (fun c : Nat => Value.int .u64 (c : Int)) (x := 0) (l := (p :: t).map Prod.snd) rfl)) ?_
    refine wd_f rfl (f_assign rfl) ?_
    refine wd_f rfl (f_assign rfl) ?_
    refine wd_f rfl (f_assign rfl) ?_
    refine wd_end [(2, _), (3, _), (4, _)] ⟨rfl, rfl, rfl, trivial⟩ ?_
    refine w_ret ?_
    refine ⟨_, _, fun a ha hh => results_tmps Try.results60 rfl a ha _, List.Sublist.refl _, ?_⟩
    exact ⟨rfl, rfl⟩
end Go.Proofs.Ytkabdnijhjccoaa
