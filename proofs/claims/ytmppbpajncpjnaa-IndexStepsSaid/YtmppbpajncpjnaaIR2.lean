/- The reference's tables: where a key is, putting, getting, taking out, the keys. -/
import Derived.Test.YtmppbpajncpjnaaIR1
import Derived.Test.YtmppbpajncpjnaaIC1
namespace Go.Proofs.Ytmppbpajncpjnaa
open Go.RowKit

theorem iv_one (l : List Int) : ∀ u ∈ iv l, u.oneCell' = true := by
  intro u hu; simp only [iv, List.mem_map] at hu; obtain ⟨b, _, rfl⟩ := hu; rfl
theorem sv_one (l : List ByteArray) : ∀ u ∈ sv l, u.oneCell' = true := by
  intro u hu; simp only [sv, List.mem_map] at hu; obtain ⟨b, _, rfl⟩ := hu; rfl
theorem mid_one {l : List Value} (h : ∀ u ∈ l, u.oneCell' = true) (a b : Nat) : ∀ u ∈ (l.drop a).take b, u.oneCell' = true := fun u hu => h u (List.mem_of_mem_drop (List.mem_of_mem_take hu))
theorem ins_cellsG {β : Type} (f : β → Value) (L : List β) (k : Nat) (x : β) (hk : k ≤ L.length) : [] ++ ((L.map f).drop (0 * 1)).take ((k - 0) * 1) ++ [f x] ++ ((L.map f).drop (k * 1)).take ((L.length - k) * 1) = (L.take k ++ x :: L.drop k).map f := by
  simp only [Nat.mul_one, List.drop_zero, Nat.sub_zero, List.nil_append]
  rw [List.take_of_length_le (i := L.length - k) (by rw [List.length_drop, List.length_map]; omega)]
  simp [List.map_take, List.map_drop]
theorem del_cellsG {β : Type} (f : β → Value) (L : List β) (k : Nat) : [] ++ ((L.map f).drop (0 * 1)).take ((k - 0) * 1) ++ ((L.map f).drop ((k + 1) * 1)).take ((L.length - (k + 1)) * 1) = (L.take k ++ L.drop (k + 1)).map f := by
  simp only [Nat.mul_one, List.drop_zero, Nat.sub_zero, List.nil_append]
  rw [List.take_of_length_le (i := L.length - (k + 1)) (by rw [List.length_drop, List.length_map]; omega)]
  simp [List.map_take, List.map_drop]
theorem map_set1 {β : Type} (f : β → Value) {l : List β} {x : Nat} (a : β) (hx : x < l.length) : (l.map f).take (0 + x * 1) ++ [f a] ++ (l.map f).drop (0 + x * 1 + 1) = (l.set x a).map f := by
  rw [List.set_eq_take_append_cons_drop, if_pos hx]
  simp [List.map_take, List.map_drop]

abbrev KL := List (ByteArray × Int)
def SrtK (M : KL) : Prop := Srts (keys M)
/-- The place of a key. -/
def AtG (M : KL) (k : ByteArray) (v : Value) : Prop :=
  ∃ (A B : KL) (is : Bool), M = A ++ B ∧ v = .tuple [.int .i64 (A.length : Nat), .bool is].toArray ∧ (∀ x ∈ A, nlt x.1 k = true) ∧ (is = true → ∃ y B', B = (k, y) :: B') ∧ (is = false → ∀ x, B[0]? = some x → nlt k x.1 = true)
theorem keys_app (A B : KL) : keys (A ++ B) = keys A ++ keys B := by simp [keys]
theorem keys_get {M : KL} {i : Nat} {x : ByteArray × Int} (h : M[i]? = some x) : (keys M)[i]? = some x.1 := by simp [keys, h]
/-- A key that is not at its place is not there. -/
theorem not_there {A B : KL} {k : ByteArray} (hs : SrtK (A ++ B)) (hA : ∀ x ∈ A, nlt x.1 k = true) (hB : ∀ x, B[0]? = some x → nlt k x.1 = true) : k ∉ keys (A ++ B) ∧ ∀ x ∈ B, nlt k x.1 = true := by
  have hall : ∀ x ∈ B, nlt k x.1 = true := by
    cases B with
    | nil => simp
    | cons b B =>
      have hb := hB b rfl
      intro x hx
      rcases List.mem_cons.1 hx with rfl | hx
      · exact hb
      · have h1 : Srts (keys A ++ keys (b :: B)) := by rw [← keys_app]; exact hs
        have h2 := (List.pairwise_append.1 h1).2.1
        have h3 := (List.pairwise_cons.1 h2).1 x.1 (List.mem_map_of_mem hx)
        exact nlt_trans hb h3
  refine ⟨fun h => ?_, hall⟩
  obtain ⟨v, hv⟩ := mem_keys.1 h
  rcases List.mem_append.1 hv with h | h
  · have := hA _ h; rw [nlt_irrefl] at this; cases this
  · have := hall _ h; rw [nlt_irrefl] at this; cases this
theorem srt_put {A B : KL} {k : ByteArray} {v : Int} (hs : SrtK (A ++ B)) (hA : ∀ x ∈ A, nlt x.1 k = true) (hB : ∀ x ∈ B, nlt k x.1 = true) : SrtK (A ++ (k, v) :: B) := by
  unfold SrtK Srts at *
  rw [keys_app, List.pairwise_append] at hs ⊢
  refine ⟨hs.1, List.pairwise_cons.2 ⟨fun y hy => ?_, hs.2.1⟩, fun a ha b hb => ?_⟩
  · obtain ⟨x, hx, rfl⟩ := List.mem_map.1 hy; exact hB x hx
  · rcases List.mem_cons.1 hb with rfl | hb
    · obtain ⟨x, hx, rfl⟩ := List.mem_map.1 ha; exact hA x hx
    · exact hs.2.2 a ha b hb
theorem srt_over {A B : KL} {k : ByteArray} {v y : Int} (hs : SrtK (A ++ (k, y) :: B)) : SrtK (A ++ (k, v) :: B) := by
  unfold SrtK at *
  rw [keys_app] at hs ⊢
  exact hs
theorem srt_del {A B : KL} {x : ByteArray × Int} (hs : SrtK (A ++ x :: B)) : SrtK (A ++ B) := by
  unfold SrtK Srts at *
  exact hs.sublist ((List.Sublist.append_left (List.sublist_cons_self ..) _).map _)
theorem srt_nd {M : KL} (hs : SrtK M) : (keys M).Nodup := hs.imp fun h => nlt_ne h
theorem del_mid {A B : KL} {k : ByteArray} {y : Int} (hs : SrtK (A ++ (k, y) :: B)) : (mdel (A ++ (k, y) :: B) k) = A ++ B := by
  have hnd := srt_nd hs
  have hp : (keys (A ++ (k, y) :: B)).Perm (k :: keys (A ++ B)) := by rw [keys_app, keys_app]; exact List.perm_middle
  have hn : k ∉ keys (A ++ B) := (List.nodup_cons.1 (hp.nodup_iff.1 hnd)).1
  have h1 : mdel A k = A := mdel_none fun h => hn (by rw [keys_app]; exact List.mem_append_left _ h)
  have h2 : mdel B k = B := mdel_none fun h => hn (by rw [keys_app]; exact List.mem_append_right _ h)
  have h3 : mdel ((k, y) :: B) k = B := by rw [mdel_self, h2]
  rw [mdel, List.filter_append]
  exact congr (congrArg _ h1) h3

theorem SrtK.len {M : KL} : (keys M).length = M.length := by simp [keys]
set_option maxHeartbeats 2000000 in
theorem rmat_spec (q n : Nat) (M : KL) (r : Res) (k : ByteArray) (w : World) (hl : M.length ≤ 8192) (hr : RmR q n M r) (hs : Holds w r.foot [r] w) :
    Spec Try.prog 39 [.pointer (some ⟨q, 0, .none⟩), .string k] w r.foot fun v H => AtG M k v ∧ H = [r] := by
  obtain ⟨KV, VV, rfl⟩ := hr
  refine enter (n := 46) Try.func39 rfl rfl [(0, _), (1, _)] rfl ⟨rfl, rfl, trivial⟩ hs ?_
  refine w_with fun hh => ?_
  obtain ⟨N, cn, rfl⟩ := rowB_slice hh (i := 0) (j := 1) rfl rfl
  clear hh
  refine w_seq ?_
  refine w_reg ?_
  refine wl_f (f_assign rfl) ?_
  refine wl_f (f_assign rfl) ?_
  refine wl_end [(0, _), (1, _)] ⟨rfl, rfl, trivial⟩ ?_
  refine w_seq ?_
  refine w_reg ?_
  refine wl_f (f_assign rfl) ?_
  refine wl_end [(0, _), (1, _), (6, _)] ⟨rfl, rfl, rfl, trivial⟩ ?_
  refine w_seq ?_
  refine w_block ?_
  refine w_loop (fun kk m H w => ∃ i : Nat, m = [(0, .pointer (some ⟨q, 0, .none⟩)), (1, .string k), (6, .int .i64 i)] ∧ H = [bun (rms q n M (.slice N M.length cn) VV)] ∧ kk + i = M.length ∧ ∀ x ∈ M.take i, nlt x.1 k = true) M.length
    ⟨0, rfl, rfl, rfl, by simp⟩ ?_
  rintro kk _ _ w1 ⟨i, rfl, rfl, hk, hall⟩
  refine w_seq ?_
  refine w_seq ?_
  refine w_reg ?_
  refine wl_f (f_move rfl) ?_
  refine wl_f (f_move rfl) ?_
  refine wl_f (f_nilCheck rfl) ?_
  refine wl_f (f_fieldAddr 1 rfl Try.underlying76 rfl rfl (by kernel_rfl)) ?_
  refine wl_f (f_loadB 0 0 rfl rfl rfl Try.underlying22 rfl rfl) ?_
  refine wl_f (f_len rfl Try.underlying22) ?_
  refine wl_f (f_lss rfl rfl) ?_
  refine wl_f (f_move rfl) ?_
  refine wl_and (j := 7) (c := nlt (M.getD i (ByteArray.empty, 0)).1 k) 9 [(0, _), (1, _), (6, _)] ⟨rfl, rfl, rfl, trivial⟩ rfl rfl rfl rfl rfl (fun hg2_17 => ?_) (fun w2_17 => ?_)
  · skip
    refine wl_gf rfl rfl (f_move rfl) ?_
    refine wl_gf rfl rfl (f_nilCheck rfl) ?_
    refine wl_gf rfl rfl (f_fieldAddr 1 rfl Try.underlying76 rfl rfl (by kernel_rfl)) ?_
    refine wl_gf rfl rfl (f_loadB 0 0 rfl rfl rfl Try.underlying22 rfl rfl) ?_
    refine wl_gf rfl rfl (f_move rfl) ?_
    have hi : i < M.length := by
      have := of_decide_eq_true hg2_17
      omega
    obtain ⟨x, hx⟩ : ∃ x, M[i]? = some x := ⟨_, List.getElem?_eq_getElem hi⟩
    refine wl_with fun hh => ?_
    obtain ⟨g, cap, e⟩ := rowB_form hh (i := 0) (j := 1) rfl rfl (by omega)
    injection e with e1 _ e3
    subst e1; subst e3
    clear hh
    refine wl_gf rfl rfl (f_indexAddr 1 (i := i) rfl rfl Try.underlying22 (by kernel_rfl) rfl hi) ?_
    refine wl_gf rfl rfl (f_eqv (v' := .string (M.getD i (ByteArray.empty, 0)).1) (f_loadBr (v := .string x.1) 0 1 rfl rfl rfl Try.underlying9 rfl (map_get Value.string (keys_get hx))) (by rw [List.getD_eq_getElem?_getD, hx]; rfl)) ?_
    refine wl_gf rfl rfl (f_move rfl) ?_
    refine wl_gf rfl rfl (f_lsss rfl rfl) ?_
    exact wl_pend rfl rfl ⟨rfl, rfl, rfl, trivial⟩ (List.Sublist.refl _)
  refine wl_end [(0, _), (1, _), (6, _), (24, _)] ⟨rfl, rfl, rfl, rfl, trivial⟩ ?_
  refine w_ifb rfl (fun hc1 => ?_) (fun hc1 => ?_)
  · skip
    simp only [Bool.and_eq_true, decide_eq_true_eq] at hc1
    refine w_skip ?_
    refine w_block ?_
    refine w_reg ?_
    refine wl_f (f_move rfl) ?_
    refine wl_f (f_add rfl rfl (by omega)) ?_
    refine wl_f (f_assign rfl) ?_
    refine wl_end [(0, _), (1, _), (6, _)] ⟨rfl, rfl, rfl, trivial⟩ ?_
    refine ⟨kk - 1, by omega, i + 1, rfl, rfl, by omega, fun x hx => ?_⟩
    have hi : i < M.length := by omega
    rw [List.take_add_one, List.getElem?_eq_getElem hi] at hx
    rcases List.mem_append.1 hx with h | h
    · exact hall x h
    · have h2 := hc1.2
      rw [List.getD_eq_getElem?_getD, List.getElem?_eq_getElem hi] at h2
      simp at h h2
      subst h
      exact h2
  · skip
    have hil : i ≤ M.length := by omega
    have hstop : ∀ x, M[i]? = some x → nlt x.1 k = false := fun x hx => by
      have hi : i < M.length := (List.getElem?_eq_some_iff.1 hx).1
      cases h : nlt x.1 k with
      | false => rfl
      | true =>
        exfalso
        refine hc1 ?_
        rw [List.getD_eq_getElem?_getD, hx, Bool.and_eq_true]
        exact ⟨decide_eq_true (by omega), h⟩
    refine w_exit0 ?_
    refine w_seq ?_
    refine w_post (fun m H w' => ∃ is : Bool, m = [(4, .int .i64 i), (5, .bool is)] ∧ H = [bun (rms q n M (.slice N M.length cn) VV)] ∧ (is = true → ∃ y, M[i]? = some (k, y)) ∧ (is = false → ∀ x, M[i]? = some x → x.1 ≠ k)) ?_ ?_
    · by_cases hG4 : (i : Int) < (M.length : Int)
      · skip
        have hi : i < M.length := by omega
        obtain ⟨x, hx⟩ : ∃ x, M[i]? = some x := ⟨_, List.getElem?_eq_getElem hi⟩
        refine w_with fun hh => ?_
        obtain ⟨g, cap, e⟩ := rowB_form hh (i := 0) (j := 1) rfl rfl (by omega)
        injection e with e1 _ e3
        subst e1; subst e3
        clear hh
        refine w_draw [(0, true), (1, true), (2, true), (3, true), (4, true), (5, true), (6, true), (7, true), (8, true), (9, true), (10, true), (11, true), (12, true), (13, true), (14, true), (15, true), (16, true), (17, true), (18, true), (19, true), (20, true)] (_) ([]) mixed (by kernel_rfl) (by kernel_rfl) rfl (perm_all _) (fun w4_ => ?_)
        refine wd_f rfl (f_move rfl) ?_
        refine wd_f rfl (f_move rfl) ?_
        refine wd_f rfl (f_move rfl) ?_
        refine wd_f rfl (f_nilCheck rfl) ?_
        refine wd_f rfl (f_fieldAddr 1 rfl Try.underlying76 rfl rfl (by kernel_rfl)) ?_
        refine wd_f rfl (f_loadB 0 0 rfl rfl rfl Try.underlying22 rfl rfl) ?_
        refine wd_f rfl (f_len rfl Try.underlying22) ?_
        refine wd_f rfl (f_eqv (f_lss rfl rfl) (congrArg Value.bool (decide_eq_true hG4))) ?_
        refine wd_f rfl (f_move rfl) ?_
        refine wd_gf rfl rfl rfl (f_move rfl) ?_
        refine wd_gf rfl rfl rfl (f_nilCheck rfl) ?_
        refine wd_gf rfl rfl rfl (f_fieldAddr 1 rfl Try.underlying76 rfl rfl (by kernel_rfl)) ?_
        refine wd_gf rfl rfl rfl (f_loadB 0 0 rfl rfl rfl Try.underlying22 rfl rfl) ?_
        refine wd_gf rfl rfl rfl (f_move rfl) ?_
        refine wd_gf rfl rfl rfl (f_indexAddr 1 (i := i) rfl rfl Try.underlying22 (by kernel_rfl) rfl hi) ?_
        refine wd_gf rfl rfl rfl (f_loadBr (v := .string x.1) 0 1 rfl rfl rfl Try.underlying9 rfl (map_get Value.string (keys_get hx))) ?_
        refine wd_gf rfl rfl rfl (f_move rfl) ?_
        refine wd_gf rfl rfl rfl (f_eqls rfl rfl) ?_
        refine wd_f rfl (f_pick rfl rfl rfl) ?_
        refine wd_f rfl (f_assign rfl) ?_
        refine wd_f rfl (f_assign rfl) ?_
        refine wd_end [(4, _), (5, _)] ⟨rfl, rfl, trivial⟩ ?_
        refine ⟨decide (x.1 = k), rfl, rfl, fun h => ⟨x.2, by rw [hx, ← of_decide_eq_true h]⟩, fun h z hz => ?_⟩
        rw [hx] at hz
        injection hz with hz
        subst hz
        exact of_decide_eq_false h
      · skip
        refine w_draw [(0, true), (1, true), (2, true), (3, true), (4, true), (5, true), (6, true), (7, true), (8, true), (9, true), (10, true), (11, true), (12, true), (13, true), (14, true), (15, true), (16, true), (17, true), (18, true), (19, true), (20, true)] (_) ([]) mixed (by kernel_rfl) (by kernel_rfl) rfl (perm_all _) (fun w4_ => ?_)
        refine wd_f rfl (f_move rfl) ?_
        refine wd_f rfl (f_move rfl) ?_
        refine wd_f rfl (f_move rfl) ?_
        refine wd_f rfl (f_nilCheck rfl) ?_
        refine wd_f rfl (f_fieldAddr 1 rfl Try.underlying76 rfl rfl (by kernel_rfl)) ?_
        refine wd_f rfl (f_loadB 0 0 rfl rfl rfl Try.underlying22 rfl rfl) ?_
        refine wd_f rfl (f_len rfl Try.underlying22) ?_
        refine wd_f rfl (f_eqv (f_lss rfl rfl) (congrArg Value.bool (decide_eq_false hG4))) ?_
        refine wd_f rfl (f_move rfl) ?_
        refine wd_gs rfl rfl rfl ?_
        refine wd_gs rfl rfl rfl ?_
        refine wd_gs rfl rfl rfl ?_
        refine wd_gs rfl rfl rfl ?_
        refine wd_gs rfl rfl rfl ?_
        refine wd_gs rfl rfl rfl ?_
        refine wd_gs rfl rfl rfl ?_
        refine wd_gs rfl rfl rfl ?_
        refine wd_gs rfl rfl rfl ?_
        refine wd_f rfl (f_pick rfl rfl rfl) ?_
        refine wd_f rfl (f_assign rfl) ?_
        refine wd_f rfl (f_assign rfl) ?_
        refine wd_end [(4, _), (5, _)] ⟨rfl, rfl, trivial⟩ ?_
        refine ⟨false, rfl, rfl, fun h => (by cases h), fun _ x hx => absurd (List.getElem?_eq_some_iff.1 hx).1 (by omega)⟩
    rintro _ _ w5 ⟨is, rfl, rfl, h1, h2⟩
    refine w_ret ?_
    refine ⟨_, _, fun a ha hh => results_tmps Try.results39 rfl a ha _, List.Sublist.refl _, ?_⟩
    refine ⟨⟨M.take i, M.drop i, is, (List.take_append_drop ..).symm, by rw [List.length_take, Nat.min_eq_left hil]; rfl, hall, fun h => ?_, fun h x hx => ?_⟩, rfl⟩
    · obtain ⟨y, hy⟩ := h1 h
      obtain ⟨hlt, e⟩ := List.getElem?_eq_some_iff.1 hy
      exact ⟨y, M.drop (i + 1), by rw [List.drop_eq_getElem_cons hlt, e]⟩
    · rw [List.getElem?_drop, Nat.add_zero] at hx
      cases h' : nlt k x.1 with
      | true => rfl
      | false => exact absurd (nlt_total (hstop x hx) h') (h2 h x hx)
end Go.Proofs.Ytmppbpajncpjnaa
