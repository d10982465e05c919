/- The reference's tables: all entries, sums, making one. -/
import Derived.Test.YtkoklfagmbaapaaT5
namespace Go.Proofs.Ytkoklfagmbaapaa
open Go.RowKit

theorem runtracked_spec (q mode n : Nat) (l : List En) (base sum : Nat) (r : Res) (w : World) (hr : RtR q mode n l base sum r) (hs : Holds w r.foot [r] w) :
    Spec Try.prog 29 [.pointer (some ⟨q, 0, .none⟩)] w r.foot fun v H => v = .int .u64 (base : Int) ∧ H = [r] := by
  obtain ⟨LV, rfl⟩ := hr
  refine enter (n := 7) Try.func29 rfl rfl [(0, _)] rfl ⟨rfl, trivial⟩ hs ?_
  refine w_seq ?_
  refine w_reg ?_
  refine wl_f (f_assign rfl) ?_
  refine wl_end [(0, _)] ⟨rfl, trivial⟩ ?_
  refine w_seq ?_
  refine w_reg ?_
  refine wl_f (f_move rfl) ?_
  refine wl_f (f_nilCheck rfl) ?_
  refine wl_f (f_fieldAddr 3 rfl Try.underlying58 rfl rfl (by kernel_rfl)) ?_
  refine wl_f (f_loadB 0 0 rfl rfl rfl Try.underlying33 rfl rfl) ?_
  refine wl_f (f_assign rfl) ?_
  refine wl_end [(2, _)] ⟨rfl, trivial⟩ ?_
  refine w_ret ?_
  refine ⟨_, _, fun a ha hh => results_tmps Try.results29 rfl a ha _, List.Sublist.refl _, ?_⟩
  exact ⟨rfl, rfl⟩
theorem rtotal_spec (q mode n : Nat) (l : List En) (base sum : Nat) (r : Res) (w : World) (hr : RtR q mode n l base sum r) (hs : Holds w r.foot [r] w) :
    Spec Try.prog 30 [.pointer (some ⟨q, 0, .none⟩)] w r.foot fun v H => v = .int .u64 (sum : Int) ∧ H = [r] := by
  obtain ⟨LV, rfl⟩ := hr
  refine enter (n := 7) Try.func30 rfl rfl [(0, _)] rfl ⟨rfl, trivial⟩ hs ?_
  refine w_seq ?_
  refine w_reg ?_
  refine wl_f (f_assign rfl) ?_
  refine wl_end [(0, _)] ⟨rfl, trivial⟩ ?_
  refine w_seq ?_
  refine w_reg ?_
  refine wl_f (f_move rfl) ?_
  refine wl_f (f_nilCheck rfl) ?_
  refine wl_f (f_fieldAddr 4 rfl Try.underlying58 rfl rfl (by kernel_rfl)) ?_
  refine wl_f (f_loadB 0 0 rfl rfl rfl Try.underlying33 rfl rfl) ?_
  refine wl_f (f_assign rfl) ?_
  refine wl_end [(2, _)] ⟨rfl, trivial⟩ ?_
  refine w_ret ?_
  refine ⟨_, _, fun a ha hh => results_tmps Try.results30 rfl a ha _, List.Sublist.refl _, ?_⟩
  exact ⟨rfl, rfl⟩
theorem loc_uniq {l : List En} (hn : (eks l).Nodup) {A B : List En} {k : ByteArray} {x y : Nat × Nat} (h : l = A ++ (k, x) :: B) (hm : (k, y) ∈ l) : x = y := by
  subst h
  have h1 : (k, x) ∈ A ++ (k, x) :: B := by simp
  rw [eks_app] at hn
  obtain ⟨_, h3, h4⟩ := List.nodup_append.1 hn
  rcases List.mem_append.1 hm with h | h
  · exact absurd rfl (h4 _ (eks_mem h) _ (by simp [eks]))
  · rcases List.mem_cons.1 h with h | h
    · injection h with _ h; exact h.symm
    · exact absurd (eks_mem h) (List.nodup_cons.1 h3).1
theorem RGet.here {mode : Nat} {l : List En} {base : Nat} {k k' : ByteArray} {o' s' : Nat} {is : Bool} (h : RGet mode l base k k' o' s' is) (hn : (eks l).Nodup) {o s : Nat} (hm : (k, o, s) ∈ l) :
    is = true ∧ k' = k ∧ o' = o ∧ s' = if mode = 2 then base else s := by
  rcases h with ⟨_, h, _⟩ | ⟨h1, A, s0, B, h2, _, h3, h4⟩
  · exact absurd (eks_mem hm) h
  · have := loc_uniq hn h2 hm
    injection this with e1 e2
    subst e1; subst e2
    exact ⟨h1, h3, rfl, h4⟩
def rent (mode base : Nat) (x : En) : En := (x.1, x.2.1, if mode = 2 then base else x.2.2)
theorem eks_rent (mode base : Nat) (l : List En) : eks (l.map (rent mode base)) = eks l := by rw [eks, List.map_map]; rfl
set_option maxHeartbeats 2000000 in
theorem rentries_spec (q mode n : Nat) (l : List En) (base sum : Nat) (r : Res) (w : World) (hl : l.length ≤ 64) (hnd : (eks l).Nodup) (hr : RtR q mode n l base sum r) (hs : Holds w r.foot [r] w) :
    Spec Try.prog 28 [.pointer (some ⟨q, 0, .none⟩)] w r.foot fun u H => ∃ es : List En, es.Perm (l.map (rent mode base)) ∧ Srts (eks es) ∧ H = [row u 36 3 es.length (encs es), r] := by
  have hr0 := hr
  obtain ⟨LV, rfl⟩ := hr
  refine enter (n := 31) Try.func28 rfl rfl [(0, _)] rfl ⟨rfl, trivial⟩ hs ?_
  refine w_with fun hh => ?_
  obtain ⟨L, cl, rfl⟩ := rowB_slice hh (i := 0) (j := 1) rfl rfl
  clear hh
  refine w_seq ?_
  refine w_reg ?_
  refine wl_f (f_assign rfl) ?_
  refine wl_end [(0, _)] ⟨rfl, trivial⟩ ?_
  refine w_seq ?_
  refine w_reg ?_
  refine wl_f (f_assign rfl) ?_
  refine wl_end [(0, _), (3, _)] ⟨rfl, rfl, trivial⟩ ?_
  refine w_seq ?_
  refine w_seq ?_
  refine w_reg ?_
  refine wl_f (f_move rfl) ?_
  refine wl_f (f_nilCheck rfl) ?_
  refine wl_f (f_fieldAddr 2 rfl Try.underlying58 rfl rfl (by kernel_rfl)) ?_
  refine wl_f (f_loadB 0 0 rfl rfl rfl Try.underlying40 rfl rfl) ?_
  refine wl_f (f_len rfl Try.underlying40) ?_
  refine wl_f (f_move rfl) ?_
  refine wl_end [(0, _), (3, _), (11, _), (12, _), (13, _)] ⟨rfl, rfl, rfl, rfl, rfl, trivial⟩ ?_
  refine w_block ?_
  refine w_nilrow 36 3 ?_
  refine w_loop (fun j m H w => ∃ (i : Nat) (O : Value), m = [(0, .pointer (some ⟨q, 0, .none⟩)), (3, O), (11, .slice L l.length cl), (12, .int .i64 l.length), (13, .int .i64 i)] ∧ H = [row O 36 3 ((l.take i).map (rent mode base)).length (encs ((l.take i).map (rent mode base))), bun (rts q mode n l (.slice L l.length cl) base sum)] ∧ j + i = l.length) l.length
    ⟨0, _, rfl, rfl, rfl⟩ ?_
  rintro j _ _ w1 ⟨i, O, rfl, rfl, hj⟩
  refine w_seq ?_
  refine w_reg ?_
  refine wl_f (f_lss rfl rfl) ?_
  refine wl_end [(0, _), (3, _), (11, _), (12, _), (13, _), (14, _)] ⟨rfl, rfl, rfl, rfl, rfl, rfl, trivial⟩ ?_
  refine w_seq ?_
  refine w_ifd rfl (fun hc1 => ?_) (fun hc1 => ?_)
  · skip
    have hi : i < l.length := by omega
    obtain ⟨p, hpi⟩ : ∃ p, l[i]? = some p := ⟨_, List.getElem?_eq_getElem hi⟩
    have hpm : (p.1, p.2.1, p.2.2) ∈ l := List.mem_of_getElem? hpi
    have hml : ((l.take i).map (rent mode base)).length = i := by rw [List.length_map, List.length_take]; omega
    refine w_with fun hh => ?_
    obtain ⟨g, cap, e⟩ := rowB_form hh (i := 1) (j := 1) rfl rfl (by omega)
    injection e with e1 _ e3
    subst e1; subst e3
    clear hh
    refine w_skip ?_
    refine w_seq ?_
    refine w_block ?_
    refine w_seq ?_
    refine w_reg ?_
    refine wl_f (f_indexAddr 3 (i := i) rfl rfl Try.underlying40 (by kernel_rfl) rfl hi) ?_
    refine wl_f (f_loadsBr (cs := ecell (some p)) 1 1 rfl rfl rfl Try.underlying36 rfl (by kernel_rfl) (encs_get hpi)) ?_
    refine wl_e (e_allocs [.string ByteArray.empty, .int .u64 0, .int .u64 0] (by kernel_rfl)) ?_
    rintro _ _ w4_2 ⟨b4_2, rfl, rfl⟩
    (first | refine wl_e0 (e_store0 (us := [_, _, _]) rfl rfl rfl (by kernel_rfl) (by simp [Value.oneCell']) rfl rfl) ?_ | refine wl_e0 (e_store1 (us := [_, _, _]) rfl rfl rfl (by kernel_rfl) (by simp [Value.oneCell']) rfl rfl) ?_ | refine wl_e0 (e_store2 (us := [_, _, _]) rfl rfl rfl (by kernel_rfl) (by simp [Value.oneCell']) rfl rfl) ?_ | refine wl_e0 (e_store3 (us := [_, _, _]) rfl rfl rfl (by kernel_rfl) (by simp [Value.oneCell']) rfl rfl) ?_)
    rintro _ _ w4_3 rfl
    refine wl_end [(0, _), (3, _), (5, _), (11, _), (12, _), (13, _)] ⟨rfl, rfl, rfl, rfl, rfl, rfl, trivial⟩ ?_
    refine w_seq ?_
    refine w_reg ?_
    refine wl_f (f_move rfl) ?_
    refine wl_f (f_fieldAddr 0 rfl Try.underlying36 rfl rfl (by kernel_rfl)) ?_
    (first | refine wl_f (f_loadb 0 rfl Try.underlying9 rfl rfl rfl) ?_ | refine wl_f (f_loadb 1 rfl Try.underlying9 rfl rfl rfl) ?_ | refine wl_f (f_loadb 2 rfl Try.underlying9 rfl rfl rfl) ?_ | refine wl_f (f_loadb 3 rfl Try.underlying9 rfl rfl rfl) ?_ | refine wl_f (f_loadb 4 rfl Try.underlying9 rfl rfl rfl) ?_ | refine wl_f (f_loadb 5 rfl Try.underlying9 rfl rfl rfl) ?_ | refine wl_f (f_loadb 6 rfl Try.underlying9 rfl rfl rfl) ?_)
    refine wl_e (e_call1 _ [_, _] rfl Try.func26 (by kernel_rfl) (pk1 2 rfl) (fun w hh hs' => rget_spec q mode n l base sum _ p.1 w (by omega) hr0 hs')) ?_
    rintro _ _ w2 ⟨_, rfl, rfl, k', o', s', is, rfl, hG⟩
    obtain ⟨rfl, rfl, rfl, rfl⟩ := hG.here hnd hpm
    refine wl_f (f_move rfl) ?_
    refine wl_f (f_extract rfl rfl) ?_
    refine wl_f (f_extract rfl rfl) ?_
    refine wl_e (e_allocs [.string ByteArray.empty, .int .u64 0, .int .u64 0] (by kernel_rfl)) ?_
    rintro _ _ w5_7 ⟨b5_7, rfl, rfl⟩
    (first | refine wl_e0 (e_store0 (us := [_, _, _]) rfl rfl rfl (by kernel_rfl) (by simp [Value.oneCell']) rfl rfl) ?_ | refine wl_e0 (e_store1 (us := [_, _, _]) rfl rfl rfl (by kernel_rfl) (by simp [Value.oneCell']) rfl rfl) ?_ | refine wl_e0 (e_store2 (us := [_, _, _]) rfl rfl rfl (by kernel_rfl) (by simp [Value.oneCell']) rfl rfl) ?_ | refine wl_e0 (e_store3 (us := [_, _, _]) rfl rfl rfl (by kernel_rfl) (by simp [Value.oneCell']) rfl rfl) ?_)
    rintro _ _ w5_8 rfl
    refine wl_f (f_assign rfl) ?_
    refine wl_pick [0, 2, 0] rfl ?_
    refine wl_end [(0, _), (3, _), (6, _), (11, _), (12, _), (13, _)] ⟨rfl, rfl, rfl, rfl, rfl, rfl, trivial⟩ ?_
    refine w_reg ?_
    refine wl_f (f_move rfl) ?_
    (first | refine wl_f (f_loadsb (cs := [_, _, _]) 0 rfl Try.underlying36 rfl (by kernel_rfl) rfl rfl) ?_ | refine wl_f (f_loadsb (cs := [_, _, _]) 1 rfl Try.underlying36 rfl (by kernel_rfl) rfl rfl) ?_ | refine wl_f (f_loadsb (cs := [_, _, _]) 2 rfl Try.underlying36 rfl (by kernel_rfl) rfl rfl) ?_ | refine wl_f (f_loadsb (cs := [_, _, _]) 3 rfl Try.underlying36 rfl (by kernel_rfl) rfl rfl) ?_ | refine wl_f (f_loadsb (cs := [_, _, _]) 4 rfl Try.underlying36 rfl (by kernel_rfl) rfl rfl) ?_ | refine wl_f (f_loadsb (cs := [_, _, _]) 5 rfl Try.underlying36 rfl (by kernel_rfl) rfl rfl) ?_ | refine wl_f (f_loadsb (cs := [_, _, _]) 6 rfl Try.underlying36 rfl (by kernel_rfl) rfl rfl) ?_)
    refine wl_e (e_lit1 (cs := [_, _, _]) t40 rfl rfl rfl (by omega)) ?_
    rintro _ _ w6_2 ⟨b6_2, rfl, rfl⟩
    refine wl_e (e_appN 2 t40 rfl rfl rfl (fun w hh => Rd.held0 hh (i := 0) rfl) (by simp [Value.oneCell']) (by omega) (by omega)) ?_
    rintro v2 _ w5 ⟨_, rfl⟩
    refine wl_f (f_assign rfl) ?_
    refine wl_pick [2, 2] rfl ?_
    refine wl_end [(0, _), (3, _), (11, _), (12, _), (13, _)] ⟨rfl, rfl, rfl, rfl, rfl, trivial⟩ ?_
    refine w_reg ?_
    refine wl_f (f_add rfl rfl (by omega)) ?_
    refine wl_f (f_move rfl) ?_
    refine wl_end [(0, _), (3, _), (11, _), (12, _), (13, _)] ⟨rfl, rfl, rfl, rfl, rfl, trivial⟩ ?_
    refine ⟨j - 1, by omega, i + 1, v2, rfl, ?_, by omega⟩
    rw [take_snoc' hpi, List.map_append, List.map_cons, List.map_nil, encs_snoc, List.length_append]
    rfl
  · skip
    refine w_exit0 ?_
    refine w_seq ?_
    refine w_reg ?_
    refine wl_f (f_move rfl) ?_
    refine wl_e (e_call0 rfl Try.func45 (by kernel_rfl) (fun w hh => rsorted_spec O (l.map (rent mode base)) w (by
      have h := Rd.held0 hh (i := 0) rfl
      rw [List.take_of_length_le (by omega)] at h
      exact h) (by rw [List.length_map]; exact hl) (by rw [eks_rent]; exact hnd))) ?_
    rintro v2 _ w5 ⟨_, rfl, es, hes, hse, rfl⟩
    refine wl_f (f_assign rfl) ?_
    refine wl_pick [0, 1] rfl ?_
    refine wl_end [(2, _)] ⟨rfl, trivial⟩ ?_
    refine w_ret ?_
    refine ⟨_, _, fun a ha hh => results_tmps Try.results28 rfl a ha _, List.Sublist.refl _, ?_⟩
    exact ⟨es, hes, hse, rfl⟩
theorem build_rtab (mode n : Int) (w : World) : (Instr.build 58 [(0, .int .i64 mode), (1, .int .i64 n)].toArray).run Try.prog w = .ok (.agg [.int .i64 mode, .int .i64 n, .slice .none 0 0, .int .u64 0, .int .u64 0].toArray) w := by kernel_rfl
theorem rtnew_ok (mode n : Nat) (w : World) (hm : mode = 1 ∨ mode = 2) (h1 : 1 ≤ n) (h2 : n ≤ 64) : Spec Try.prog 17 [.int .i64 mode, .int .i64 n] w Nil fun r H => ∃ q r', r = .tuple [.pointer (some ⟨q, 0, .none⟩), .int .i64 0].toArray ∧ H = [r'] ∧ RtR q mode n [] 0 0 r' := by
  refine enter (n := 22) Try.func17 rfl rfl [(0, _), (1, _)] rfl ⟨rfl, rfl, trivial⟩ (Holds.start _ _) ?_
  refine w_seq ?_
  refine w_reg ?_
  refine wl_f (f_assign rfl) ?_
  refine wl_f (f_assign rfl) ?_
  refine wl_end [(0, _), (1, _)] ⟨rfl, rfl, trivial⟩ ?_
  refine w_seq ?_
  refine w_seq ?_
  refine w_reg ?_
  refine wl_f (f_move rfl) ?_
  refine wl_f (f_neq rfl rfl) ?_
  refine wl_f (f_move rfl) ?_
  refine wl_and (j := 2) (c := decide ((mode : Int) ≠ 2)) 2 [(0, _), (1, _)] ⟨rfl, rfl, trivial⟩ rfl rfl rfl rfl rfl (fun hg1_5 => ?_) (fun w1_5 => ?_)
  · skip
    refine wl_gf rfl rfl (f_move rfl) ?_
    refine wl_gf rfl rfl (f_neq rfl rfl) ?_
    exact wl_pend rfl rfl ⟨rfl, rfl, trivial⟩ (List.Sublist.refl _)
  refine wl_end [(0, _), (1, _), (11, _)] ⟨rfl, rfl, rfl, trivial⟩ ?_
  refine w_ifb rfl (fun h => absurd h (by rcases hm with rfl | rfl <;> decide)) (fun _ => ?_)
  refine w_skip ?_
  refine w_seq ?_
  refine w_seq ?_
  refine w_reg ?_
  refine wl_f (f_move rfl) ?_
  refine wl_f (f_lss rfl rfl) ?_
  refine wl_f (f_move rfl) ?_
  refine wl_or (j := 2) (c := decide (64 < (n : Int))) 2 [(0, _), (1, _)] ⟨rfl, rfl, trivial⟩ rfl rfl rfl rfl rfl (fun hg3_5 => ?_) (fun w3_5 => ?_)
  · skip
    refine wl_gf rfl rfl (f_move rfl) ?_
    refine wl_gf rfl rfl (f_gtr rfl rfl) ?_
    exact wl_pend rfl rfl ⟨rfl, rfl, trivial⟩ (List.Sublist.refl _)
  refine wl_end [(0, _), (1, _), (17, _)] ⟨rfl, rfl, rfl, trivial⟩ ?_
  refine w_ifb rfl (fun h => absurd h (by simp; omega)) (fun _ => ?_)
  refine w_skip ?_
  refine w_seq ?_
  refine w_reg ?_
  refine wl_f (f_move rfl) ?_
  refine wl_f (f_move rfl) ?_
  refine wl_f (f_build rfl (fun w => build_rtab _ _ w)) ?_
  refine wl_e (e_box (cs := [_, _, _, _, _]) rfl rfl) ?_
  rintro _ _ w5_3 ⟨b5_3, rfl, rfl⟩
  refine wl_f (f_assign rfl) ?_
  refine wl_f (f_assign rfl) ?_
  refine wl_end [(4, _), (5, _)] ⟨rfl, rfl, trivial⟩ ?_
  refine w_nilrow 36 3 ?_
  refine w_pick [1, 0] rfl ?_
  refine w_bun (H := []) [_, _] ?_
  refine w_ret ?_
  refine ⟨_, _, fun a ha hh => results_tmps Try.results17 rfl a ha _, List.Sublist.refl _, ?_⟩
  exact ⟨b5_3, _, rfl, rfl, _, rfl⟩
end Go.Proofs.Ytkoklfagmbaapaa
