/- Texts of this proof, part 11: what the code does, step by step. They have no conditions. -/
import Derived.Test.YtmagdjlcckgkpaaGreatML10
import Derived.Test.YtmagdjlcckgkpaaGreatML8
import Derived.Test.YtmagdjlcckgkpaaGreatML2
import Derived.ProofKit
import Derived.Deep.Slices
import Derived.Test.YtmagdjlcckgkpaaGreatML4
import Derived.Test.YtmagdjlcckgkpaaGreatRows
/- The reference's tables: all entries, sums, making one. -/
namespace Go.Proofs.YtmagdjlcckgkpaaGreat
open Go.RowKit

theorem runtracked_spec (q mode n : Nat) (l : List En) (base sum : Nat) (r : Res) (w : World) (hr : RtR q mode n l base sum r) (hs : Holds w r.foot [r] w) :
    Spec Tryz.prog 31 [.pointer (some ⟨q, 0, .none⟩)] w r.foot fun v H => v = .int .u64 (base : Int) ∧ H = [r] := by
  obtain ⟨LV, rfl⟩ := hr
  refine enter (n := 7) Tryz.func31 rfl rfl [(0, _)] rfl ⟨rfl, trivial⟩ hs ?_
  refine w_seq ?_
  refine w_reg ?_
  refine wl_f (f_assign rfl) ?_
  refine wl_end [(0, _)] ⟨rfl, trivial⟩ ?_
  refine w_seq ?_
  refine w_reg ?_
  refine wl_f (f_move rfl) ?_
  refine wl_f (f_nilCheck rfl) ?_
  refine wl_f (f_fieldAddr 3 rfl Tryz.underlying65 rfl rfl (by kernel_rfl)) ?_
  refine wl_f (f_loadB 0 0 rfl rfl rfl Tryz.underlying33 rfl rfl) ?_
  refine wl_f (f_assign rfl) ?_
  refine wl_end [(2, _)] ⟨rfl, trivial⟩ ?_
  refine w_ret ?_
  refine ⟨_, _, fun a ha hh => results_tmps Tryz.results31 rfl a ha _, List.Sublist.refl _, ?_⟩
  exact ⟨rfl, rfl⟩
theorem rtotal_spec (q mode n : Nat) (l : List En) (base sum : Nat) (r : Res) (w : World) (hr : RtR q mode n l base sum r) (hs : Holds w r.foot [r] w) :
    Spec Tryz.prog 32 [.pointer (some ⟨q, 0, .none⟩)] w r.foot fun v H => v = .int .u64 (sum : Int) ∧ H = [r] := by
  obtain ⟨LV, rfl⟩ := hr
  refine enter (n := 7) Tryz.func32 rfl rfl [(0, _)] rfl ⟨rfl, trivial⟩ hs ?_
  refine w_seq ?_
  refine w_reg ?_
  refine wl_f (f_assign rfl) ?_
  refine wl_end [(0, _)] ⟨rfl, trivial⟩ ?_
  refine w_seq ?_
  refine w_reg ?_
  refine wl_f (f_move rfl) ?_
  refine wl_f (f_nilCheck rfl) ?_
  refine wl_f (f_fieldAddr 4 rfl Tryz.underlying65 rfl rfl (by kernel_rfl)) ?_
  refine wl_f (f_loadB 0 0 rfl rfl rfl Tryz.underlying33 rfl rfl) ?_
  refine wl_f (f_assign rfl) ?_
  refine wl_end [(2, _)] ⟨rfl, trivial⟩ ?_
  refine w_ret ?_
  refine ⟨_, _, fun a ha hh => results_tmps Tryz.results32 rfl a ha _, List.Sublist.refl _, ?_⟩
  exact ⟨rfl, rfl⟩
theorem loc_uniq {l : List En} (hn : (eks l).Nodup) {A B : List En} {k : ByteArray} {x y : Nat × Nat} (h : l = A ++ (k, x) :: B) (hm : (k, y) ∈ l) : x = y := by
  subst h
  have h1 : (k, x) ∈ A ++ (k, x) :: B := by simp
  rw [eks_app] at hn
  obtain ⟨_, h3, h4⟩ := List.nodup_append.1 hn
  rcases List.mem_append.1 hm with h | h
  · exact absurd rfl (h4 _ (eks_mem h) _ (by simp [eks]))
  · rcases List.mem_cons.1 h with h | h
    · injection h with _ h; exact h.symm
    · exact absurd (eks_mem h) (List.nodup_cons.1 h3).1
theorem RGet.here {mode : Nat} {l : List En} {base : Nat} {k k' : ByteArray} {o' s' : Nat} {is : Bool} (h : RGet mode l base k k' o' s' is) (hn : (eks l).Nodup) {o s : Nat} (hm : (k, o, s) ∈ l) :
    is = true ∧ k' = k ∧ o' = o ∧ s' = if mode = 2 then base else s := by
  rcases h with ⟨_, h, _⟩ | ⟨h1, A, s0, B, h2, _, h3, h4⟩
  · exact absurd (eks_mem hm) h
  · have := loc_uniq hn h2 hm
    injection this with e1 e2
    subst e1; subst e2
    exact ⟨h1, h3, rfl, h4⟩
def rent (mode base : Nat) (x : En) : En := (x.1, x.2.1, if mode = 2 then base else x.2.2)
theorem eks_rent (mode base : Nat) (l : List En) : eks (l.map (rent mode base)) = eks l := by rw [eks, List.map_map]; rfl
set_option maxHeartbeats 2000000 in
theorem rentries_spec (q mode n : Nat) (l : List En) (base sum : Nat) (r : Res) (w : World) (hl : l.length ≤ 64) (hnd : (eks l).Nodup) (hr : RtR q mode n l base sum r) (hs : Holds w r.foot [r] w) :
    Spec Tryz.prog 30 [.pointer (some ⟨q, 0, .none⟩)] w r.foot fun u H => ∃ es : List En, es.Perm (l.map (rent mode base)) ∧ Srts (eks es) ∧ H = [row u 46 3 es.length (encs es), r] := by
  have hr0 := hr
  obtain ⟨LV, rfl⟩ := hr
  refine enter (n := 31) Tryz.func30 rfl rfl [(0, _)] rfl ⟨rfl, trivial⟩ hs ?_
  refine w_with fun hh => ?_
  obtain ⟨L, cl, rfl⟩ := rowB_slice hh (i := 0) (j := 1) rfl rfl
  clear hh
  refine w_seq ?_
  refine w_reg ?_
  refine wl_f (f_assign rfl) ?_
  refine wl_end [(0, _)] ⟨rfl, trivial⟩ ?_
  refine w_seq ?_
  refine w_reg ?_
  refine wl_f (f_assign rfl) ?_
  refine wl_end [(0, _), (3, _)] ⟨rfl, rfl, trivial⟩ ?_
  refine w_seq ?_
  refine w_seq ?_
  refine w_reg ?_
  refine wl_f (f_move rfl) ?_
  refine wl_f (f_nilCheck rfl) ?_
  refine wl_f (f_fieldAddr 2 rfl Tryz.underlying65 rfl rfl (by kernel_rfl)) ?_
  refine wl_f (f_loadB 0 0 rfl rfl rfl Tryz.underlying42 rfl rfl) ?_
  refine wl_f (f_len rfl Tryz.underlying42) ?_
  refine wl_f (f_move rfl) ?_
  refine wl_end [(0, _), (3, _), (11, _), (12, _), (13, _)] ⟨rfl, rfl, rfl, rfl, rfl, trivial⟩ ?_
  refine w_block ?_
  refine w_nilrow 46 3 ?_
  refine w_loop (fun j m H w => ∃ (i : Nat) (O : Value), m = [(0, .pointer (some ⟨q, 0, .none⟩)), (3, O), (11, .slice L l.length cl), (12, .int .i64 l.length), (13, .int .i64 i)] ∧ H = [row O 46 3 ((l.take i).map (rent mode base)).length (encs ((l.take i).map (rent mode base))), bun (rts q mode n l (.slice L l.length cl) base sum)] ∧ j + i = l.length) l.length
    ⟨0, _, rfl, rfl, rfl⟩ ?_
  rintro j _ _ w1 ⟨i, O, rfl, rfl, hj⟩
  refine w_seq ?_
  refine w_reg ?_
  refine wl_f (f_lss rfl rfl) ?_
  refine wl_end [(0, _), (3, _), (11, _), (12, _), (13, _), (14, _)] ⟨rfl, rfl, rfl, rfl, rfl, rfl, trivial⟩ ?_
  refine w_seq ?_
  refine w_ifd rfl (fun hc1 => ?_) (fun hc1 => ?_)
  · skip
    have hi : i < l.length := by omega
    obtain ⟨p, hpi⟩ : ∃ p, l[i]? = some p := ⟨_, List.getElem?_eq_getElem hi⟩
    have hpm : (p.1, p.2.1, p.2.2) ∈ l := List.mem_of_getElem? hpi
    have hml : ((l.take i).map (rent mode base)).length = i := by rw [List.length_map, List.length_take]; omega
    refine w_with fun hh => ?_
    obtain ⟨g, cap, e⟩ := rowB_form hh (i := 1) (j := 1) rfl rfl (by omega)
    injection e with e1 _ e3
    subst e1; subst e3
    clear hh
    refine w_skip ?_
    refine w_seq ?_
    refine w_block ?_
    refine w_seq ?_
    refine w_reg ?_
    refine wl_f (f_indexAddr 3 (i := i) rfl rfl Tryz.underlying42 (by kernel_rfl) rfl hi) ?_
    refine wl_f (f_loadsBr (cs := ecell (some p)) 1 1 rfl rfl rfl Tryz.underlying46 rfl (by kernel_rfl) (encs_get hpi)) ?_
    refine wl_e (e_allocs [.string ByteArray.empty, .int .u64 0, .int .u64 0] (by kernel_rfl)) ?_
    rintro _ _ w4_2 ⟨b4_2, rfl, rfl⟩
    (first | refine wl_e0 (e_store0 (us := [_, _, _]) rfl rfl rfl (by kernel_rfl) (by simp [Value.oneCell']) rfl rfl) ?_ | refine wl_e0 (e_store1 (us := [_, _, _]) rfl rfl rfl (by kernel_rfl) (by simp [Value.oneCell']) rfl rfl) ?_ | refine wl_e0 (e_store2 (us := [_, _, _]) rfl rfl rfl (by kernel_rfl) (by simp [Value.oneCell']) rfl rfl) ?_ | refine wl_e0 (e_store3 (us := [_, _, _]) rfl rfl rfl (by kernel_rfl) (by simp [Value.oneCell']) rfl rfl) ?_)
    rintro _ _ w4_3 rfl
    refine wl_end [(0, _), (3, _), (5, _), (11, _), (12, _), (13, _)] ⟨rfl, rfl, rfl, rfl, rfl, rfl, trivial⟩ ?_
    refine w_seq ?_
    refine w_reg ?_
    refine wl_f (f_move rfl) ?_
    refine wl_f (f_fieldAddr 0 rfl Tryz.underlying46 rfl rfl (by kernel_rfl)) ?_
    (first | refine wl_f (f_loadb 0 rfl Tryz.underlying9 rfl rfl rfl) ?_ | refine wl_f (f_loadb 1 rfl Tryz.underlying9 rfl rfl rfl) ?_ | refine wl_f (f_loadb 2 rfl Tryz.underlying9 rfl rfl rfl) ?_ | refine wl_f (f_loadb 3 rfl Tryz.underlying9 rfl rfl rfl) ?_ | refine wl_f (f_loadb 4 rfl Tryz.underlying9 rfl rfl rfl) ?_ | refine wl_f (f_loadb 5 rfl Tryz.underlying9 rfl rfl rfl) ?_ | refine wl_f (f_loadb 6 rfl Tryz.underlying9 rfl rfl rfl) ?_)
    refine wl_e (e_call1 _ [_, _] rfl Tryz.func38 (by kernel_rfl) (pk1 2 rfl) (fun w hh hs' => rget_spec q mode n l base sum _ p.1 w (by omega) hr0 hs')) ?_
    rintro _ _ w2 ⟨_, rfl, rfl, k', o', s', is, rfl, hG⟩
    obtain ⟨rfl, rfl, rfl, rfl⟩ := hG.here hnd hpm
    refine wl_f (f_move rfl) ?_
    refine wl_f (f_extract rfl rfl) ?_
    refine wl_f (f_extract rfl rfl) ?_
    refine wl_e (e_allocs [.string ByteArray.empty, .int .u64 0, .int .u64 0] (by kernel_rfl)) ?_
    rintro _ _ w5_7 ⟨b5_7, rfl, rfl⟩
    (first | refine wl_e0 (e_store0 (us := [_, _, _]) rfl rfl rfl (by kernel_rfl) (by simp [Value.oneCell']) rfl rfl) ?_ | refine wl_e0 (e_store1 (us := [_, _, _]) rfl rfl rfl (by kernel_rfl) (by simp [Value.oneCell']) rfl rfl) ?_ | refine wl_e0 (e_store2 (us := [_, _, _]) rfl rfl rfl (by kernel_rfl) (by simp [Value.oneCell']) rfl rfl) ?_ | refine wl_e0 (e_store3 (us := [_, _, _]) rfl rfl rfl (by kernel_rfl) (by simp [Value.oneCell']) rfl rfl) ?_)
    rintro _ _ w5_8 rfl
    refine wl_f (f_assign rfl) ?_
    refine wl_pick [0, 2, 0] rfl ?_
    refine wl_end [(0, _), (3, _), (6, _), (11, _), (12, _), (13, _)] ⟨rfl, rfl, rfl, rfl, rfl, rfl, trivial⟩ ?_
    refine w_reg ?_
    refine wl_f (f_move rfl) ?_
    (first | refine wl_f (f_loadsb (cs := [_, _, _]) 0 rfl Tryz.underlying46 rfl (by kernel_rfl) rfl rfl) ?_ | refine wl_f (f_loadsb (cs := [_, _, _]) 1 rfl Tryz.underlying46 rfl (by kernel_rfl) rfl rfl) ?_ | refine wl_f (f_loadsb (cs := [_, _, _]) 2 rfl Tryz.underlying46 rfl (by kernel_rfl) rfl rfl) ?_ | refine wl_f (f_loadsb (cs := [_, _, _]) 3 rfl Tryz.underlying46 rfl (by kernel_rfl) rfl rfl) ?_ | refine wl_f (f_loadsb (cs := [_, _, _]) 4 rfl Tryz.underlying46 rfl (by kernel_rfl) rfl rfl) ?_ | refine wl_f (f_loadsb (cs := [_, _, _]) 5 rfl Tryz.underlying46 rfl (by kernel_rfl) rfl rfl) ?_ | refine wl_f (f_loadsb (cs := [_, _, _]) 6 rfl Tryz.underlying46 rfl (by kernel_rfl) rfl rfl) ?_)
    refine wl_e (e_lit1 (cs := [_, _, _]) t42 rfl rfl rfl (by omega)) ?_
    rintro _ _ w6_2 ⟨b6_2, rfl, rfl⟩
    refine wl_e (e_appN 2 t42 rfl rfl rfl (fun w hh => Rd.held0 hh (i := 0) rfl) (by simp [Value.oneCell']) (by omega) (by omega)) ?_
    rintro v2 _ w5 ⟨_, rfl⟩
    refine wl_f (f_assign rfl) ?_
    refine wl_pick [2, 2] rfl ?_
    refine wl_end [(0, _), (3, _), (11, _), (12, _), (13, _)] ⟨rfl, rfl, rfl, rfl, rfl, trivial⟩ ?_
    refine w_reg ?_
    refine wl_f (f_add rfl rfl (by omega)) ?_
    refine wl_f (f_move rfl) ?_
    refine wl_end [(0, _), (3, _), (11, _), (12, _), (13, _)] ⟨rfl, rfl, rfl, rfl, rfl, trivial⟩ ?_
    refine ⟨j - 1, by omega, i + 1, v2, rfl, ?_, by omega⟩
    rw [take_snoc' hpi, List.map_append, List.map_cons, List.map_nil, encs_snoc, List.length_append]
    rfl
  · skip
    refine w_exit0 ?_
    refine w_seq ?_
    refine w_reg ?_
    refine wl_f (f_move rfl) ?_
    refine wl_e (e_call0 rfl Tryz.func45 (by kernel_rfl) (fun w hh => rsorted_spec O (l.map (rent mode base)) w (by
      have h := Rd.held0 hh (i := 0) rfl
      rw [List.take_of_length_le (by omega)] at h
      exact h) (by rw [List.length_map]; exact hl) (by rw [eks_rent]; exact hnd))) ?_
    rintro v2 _ w5 ⟨_, rfl, es, hes, hse, rfl⟩
    refine wl_f (f_assign rfl) ?_
    refine wl_pick [0, 1] rfl ?_
    refine wl_end [(2, _)] ⟨rfl, trivial⟩ ?_
    refine w_ret ?_
    refine ⟨_, _, fun a ha hh => results_tmps Tryz.results30 rfl a ha _, List.Sublist.refl _, ?_⟩
    exact ⟨es, hes, hse, rfl⟩
theorem build_rtab (mode n : Int) (w : World) : (Instr.build 65 [(0, .int .i64 mode), (1, .int .i64 n)].toArray).run Tryz.prog w = .ok (.agg [.int .i64 mode, .int .i64 n, .slice .none 0 0, .int .u64 0, .int .u64 0].toArray) w := by kernel_rfl
theorem rtnew_ok (mode n : Nat) (w : World) (hm : mode = 1 ∨ mode = 2) (h1 : 1 ≤ n) (h2 : n ≤ 64) : Spec Tryz.prog 22 [.int .i64 mode, .int .i64 n] w Nil fun r H => ∃ q r', r = .tuple [.pointer (some ⟨q, 0, .none⟩), .int .i64 0].toArray ∧ H = [r'] ∧ RtR q mode n [] 0 0 r' := by
  refine enter (n := 22) Tryz.func22 rfl rfl [(0, _), (1, _)] rfl ⟨rfl, rfl, trivial⟩ (Holds.start _ _) ?_
  refine w_seq ?_
  refine w_reg ?_
  refine wl_f (f_assign rfl) ?_
  refine wl_f (f_assign rfl) ?_
  refine wl_end [(0, _), (1, _)] ⟨rfl, rfl, trivial⟩ ?_
  refine w_seq ?_
  refine w_seq ?_
  refine w_reg ?_
  refine wl_f (f_move rfl) ?_
  refine wl_f (f_neq rfl rfl) ?_
  refine wl_f (f_move rfl) ?_
  refine wl_and (j := 2) (c := decide ((mode : Int) ≠ 2)) 2 [(0, _), (1, _)] ⟨rfl, rfl, trivial⟩ rfl rfl rfl rfl rfl (fun hg1_5 => ?_) (fun w1_5 => ?_)
  · skip
    refine wl_gf rfl rfl (f_move rfl) ?_
    refine wl_gf rfl rfl (f_neq rfl rfl) ?_
    exact wl_pend rfl rfl ⟨rfl, rfl, trivial⟩ (List.Sublist.refl _)
  refine wl_end [(0, _), (1, _), (11, _)] ⟨rfl, rfl, rfl, trivial⟩ ?_
  refine w_ifb rfl (fun h => absurd h (by rcases hm with rfl | rfl <;> decide)) (fun _ => ?_)
  refine w_skip ?_
  refine w_seq ?_
  refine w_seq ?_
  refine w_reg ?_
  refine wl_f (f_move rfl) ?_
  refine wl_f (f_lss rfl rfl) ?_
  refine wl_f (f_move rfl) ?_
  refine wl_or (j := 2) (c := decide (64 < (n : Int))) 2 [(0, _), (1, _)] ⟨rfl, rfl, trivial⟩ rfl rfl rfl rfl rfl (fun hg3_5 => ?_) (fun w3_5 => ?_)
  · skip
    refine wl_gf rfl rfl (f_move rfl) ?_
    refine wl_gf rfl rfl (f_gtr rfl rfl) ?_
    exact wl_pend rfl rfl ⟨rfl, rfl, trivial⟩ (List.Sublist.refl _)
  refine wl_end [(0, _), (1, _), (17, _)] ⟨rfl, rfl, rfl, trivial⟩ ?_
  refine w_ifb rfl (fun h => absurd h (by simp; omega)) (fun _ => ?_)
  refine w_skip ?_
  refine w_seq ?_
  refine w_reg ?_
  refine wl_f (f_move rfl) ?_
  refine wl_f (f_move rfl) ?_
  refine wl_f (f_build rfl (fun w => build_rtab _ _ w)) ?_
  refine wl_e (e_box (cs := [_, _, _, _, _]) rfl rfl) ?_
  rintro _ _ w5_3 ⟨b5_3, rfl, rfl⟩
  refine wl_f (f_assign rfl) ?_
  refine wl_f (f_assign rfl) ?_
  refine wl_end [(4, _), (5, _)] ⟨rfl, rfl, trivial⟩ ?_
  refine w_nilrow 46 3 ?_
  refine w_pick [1, 0] rfl ?_
  refine w_bun (H := []) [_, _] ?_
  refine w_ret ?_
  refine ⟨_, _, fun a ha hh => results_tmps Tryz.results22 rfl a ha _, List.Sublist.refl _, ?_⟩
  exact ⟨b5_3, _, rfl, rfl, _, rfl⟩
end Go.Proofs.YtmagdjlcckgkpaaGreat

/- Tables of either mode: making one; limits; nil tables. -/
namespace Go.Proofs.YtmagdjlcckgkpaaGreat
open Go.RowKit

def tabE (mode n : Int) : Int := if mode = 1 ∨ mode = 2 then if n < 1 ∨ 64 < n then 1 else 0 else 11
theorem build_tab (ty : TypeId) (p : Option Addr) (w : World) : (Instr.build 75 [(0, .iface ty (.pointer p))].toArray).run Tryz.prog w = .ok (.agg [.iface ty (.pointer p)].toArray) w := by kernel_rfl
theorem tnew_ok (mode m : Nat) (w : World) (hmode : mode = 1 ∨ mode = 2) (h1 : 1 ≤ m) (h2 : m ≤ 64) : Spec Tryz.prog 8 [.int .i64 mode, .int .i64 m] w Nil fun r H => ∃ t r', r = .tuple [.pointer (some ⟨t, 0, .none⟩), .int .i64 0].toArray ∧ H = [r'] ∧ TbS t m (TS.new mode m) r' := by
  refine enter (n := 31) Tryz.func8 rfl rfl [(0, _), (1, _)] rfl ⟨rfl, rfl, trivial⟩ (Holds.start _ _) ?_
  refine w_seq ?_
  refine w_reg ?_
  refine wl_f (f_assign rfl) ?_
  refine wl_f (f_assign rfl) ?_
  refine wl_end [(0, _), (1, _)] ⟨rfl, rfl, trivial⟩ ?_
  refine w_seq ?_
  refine w_reg ?_
  refine wl_f (f_assign rfl) ?_
  refine wl_end [(0, _), (1, _), (6, _)] ⟨rfl, rfl, rfl, trivial⟩ ?_
  refine w_seq ?_
  refine w_reg ?_
  refine wl_f (f_assign rfl) ?_
  refine wl_end [(0, _), (1, _), (6, _)] ⟨rfl, rfl, rfl, trivial⟩ ?_
  refine w_seq ?_
  refine w_seq ?_
  refine w_reg ?_
  refine wl_f (f_move rfl) ?_
  refine wl_end [(1, _), (6, _), (8, _)] ⟨rfl, rfl, rfl, trivial⟩ ?_
  refine w_post (fun m' H w' => ∃ (b : Nat) (r' : Res) (ty : TypeId), m' = [(6, .iface ty (.pointer (some ⟨b, 0, .none⟩))), (7, .int .i64 0)] ∧ H = [r'] ∧ ∀ t, TbS t m (TS.new mode m) (bun [thd t ty b, r'])) ?_ ?_
  · skip
    refine w_block ?_
    refine w_seq ?_
    refine w_reg ?_
    refine wl_f (f_eql rfl rfl) ?_
    refine wl_f (f_assign rfl) ?_
    refine wl_end [(1, _), (6, _), (8, _), (9, _)] ⟨rfl, rfl, rfl, rfl, trivial⟩ ?_
    refine w_ifd rfl (fun hc1 => ?_) (fun hc1 => ?_)
    · skip
      have hm1 : mode = 1 := by
        have : (mode : Int) = 1 := hc1
        omega
      refine w_reg ?_
      refine wl_f (f_move rfl) ?_
      refine wl_e (e_call0 rfl Tryz.func33 (by kernel_rfl) (fun w hh => svnew_ok m w h1 h2)) ?_
      rintro _ _ w1 ⟨_, rfl, b, r', rfl, rfl, hr'⟩
      refine wl_f (f_move rfl) ?_
      refine wl_f (f_extract rfl rfl) ?_
      refine wl_f (f_iface rfl Tryz.underlying68 rfl) ?_
      refine wl_f (f_extract rfl rfl) ?_
      refine wl_f (f_assign rfl) ?_
      refine wl_f (f_assign rfl) ?_
      refine wl_end [(6, _), (7, _)] ⟨rfl, rfl, trivial⟩ ?_
      refine ⟨b, r', _, rfl, rfl, fun t => ?_⟩
      rw [TS.new, if_pos hm1]
      exact ⟨b, r', rfl, hr'⟩
    · skip
      have hm1 : mode = 2 := by
        have : ¬ (mode : Int) = 1 := hc1
        omega
      refine w_seq ?_
      refine w_reg ?_
      refine wl_f (f_eql rfl rfl) ?_
      refine wl_f (f_assign rfl) ?_
      refine wl_end [(1, _), (6, _), (17, _)] ⟨rfl, rfl, rfl, trivial⟩ ?_
      refine w_ifd rfl (fun _ => ?_) (fun h => absurd (show (mode : Int) = 2 by omega) h)
      refine w_reg ?_
      refine wl_f (f_move rfl) ?_
      refine wl_e (e_call0 rfl Tryz.func34 (by kernel_rfl) (fun w hh => frnew_ok m w h1 h2)) ?_
      rintro _ _ w1 ⟨_, rfl, b, r', rfl, rfl, hr'⟩
      refine wl_f (f_move rfl) ?_
      refine wl_f (f_extract rfl rfl) ?_
      refine wl_f (f_iface rfl Tryz.underlying71 rfl) ?_
      refine wl_f (f_extract rfl rfl) ?_
      refine wl_f (f_assign rfl) ?_
      refine wl_f (f_assign rfl) ?_
      refine wl_end [(6, _), (7, _)] ⟨rfl, rfl, trivial⟩ ?_
      refine ⟨b, r', _, rfl, rfl, fun t => ?_⟩
      rw [TS.new, if_neg (by omega)]
      exact ⟨b, r', rfl, hr'⟩
  · rintro _ _ w2 ⟨b, r', ty, rfl, rfl, hr'⟩
    refine w_seq ?_
    refine w_seq ?_
    refine w_reg ?_
    refine wl_f (f_move rfl) ?_
    refine wl_f (f_neq rfl rfl) ?_
    refine wl_end [(6, _), (7, _), (26, _)] ⟨rfl, rfl, rfl, trivial⟩ ?_
    refine w_ifd rfl (fun h => absurd rfl h) (fun _ => ?_)
    refine w_skip ?_
    refine w_seq ?_
    refine w_reg ?_
    refine wl_f (f_move rfl) ?_
    refine wl_f (f_build rfl (fun w => build_tab _ _ w)) ?_
    refine wl_e (e_box (cs := [_]) rfl rfl) ?_
    rintro _ _ w11_2 ⟨b11_2, rfl, rfl⟩
    refine wl_f (f_assign rfl) ?_
    refine wl_f (f_assign rfl) ?_
    refine wl_end [(4, _), (5, _)] ⟨rfl, rfl, trivial⟩ ?_
    refine w_bun (H := []) [thd b11_2 ty b, r'] ?_
    refine w_ret ?_
    refine ⟨_, _, fun a ha hh => results_tmps Tryz.results8 rfl a ha _, List.Sublist.refl _, ?_⟩
    exact ⟨b11_2, _, rfl, rfl, hr' _⟩
theorem svnew_form (n : Int) (w : World) : Spec Tryz.prog 33 [.int .i64 n] w Nil fun r H => ∃ (p : Option Addr), r = .tuple [.pointer p, .int .i64 (if n < 1 ∨ 64 < n then 1 else 0)].toArray ∧ p.isNone = decide (n < 1 ∨ 64 < n) := by
  by_cases h : n < 1 ∨ 64 < n
  · exact (svnew_bad n w h).mono fun v H hv => ⟨.none, by rw [hv.1, if_pos h], (decide_eq_true h).symm⟩
  · obtain ⟨k, rfl⟩ : ∃ k : Nat, n = k := ⟨n.toNat, by omega⟩
    exact (svnew_ok k w (by omega) (by omega)).mono fun v H hv => by
      obtain ⟨b, r', rfl, _⟩ := hv
      exact ⟨some ⟨b, 0, .none⟩, by rw [if_neg h], (decide_eq_false h).symm⟩
theorem frnew_form (n : Int) (w : World) : Spec Tryz.prog 34 [.int .i64 n] w Nil fun r H => ∃ (p : Option Addr), r = .tuple [.pointer p, .int .i64 (if n < 1 ∨ 64 < n then 1 else 0)].toArray ∧ p.isNone = decide (n < 1 ∨ 64 < n) := by
  by_cases h : n < 1 ∨ 64 < n
  · exact (frnew_bad n w h).mono fun v H hv => ⟨.none, by rw [hv.1, if_pos h], (decide_eq_true h).symm⟩
  · obtain ⟨k, rfl⟩ : ∃ k : Nat, n = k := ⟨n.toNat, by omega⟩
    exact (frnew_ok k w (by omega) (by omega)).mono fun v H hv => by
      obtain ⟨b, r', rfl, _⟩ := hv
      exact ⟨some ⟨b, 0, .none⟩, by rw [if_neg h], (decide_eq_false h).symm⟩
theorem tnew_form (mode n : Int) (w : World) : Spec Tryz.prog 8 [.int .i64 mode, .int .i64 n] w Nil fun r H => ∃ (p : Option Addr), r = .tuple [.pointer p, .int .i64 (tabE mode n)].toArray ∧ p.isNone = decide (tabE mode n ≠ 0) := by
  refine enter (n := 31) Tryz.func8 rfl rfl [(0, _), (1, _)] rfl ⟨rfl, rfl, trivial⟩ (Holds.start _ _) ?_
  refine w_seq ?_
  refine w_reg ?_
  refine wl_f (f_assign rfl) ?_
  refine wl_f (f_assign rfl) ?_
  refine wl_end [(0, _), (1, _)] ⟨rfl, rfl, trivial⟩ ?_
  refine w_seq ?_
  refine w_reg ?_
  refine wl_f (f_assign rfl) ?_
  refine wl_end [(0, _), (1, _), (6, _)] ⟨rfl, rfl, rfl, trivial⟩ ?_
  refine w_seq ?_
  refine w_reg ?_
  refine wl_f (f_assign rfl) ?_
  refine wl_end [(0, _), (1, _), (6, _)] ⟨rfl, rfl, rfl, trivial⟩ ?_
  refine w_seq ?_
  refine w_seq ?_
  refine w_reg ?_
  refine wl_f (f_move rfl) ?_
  refine wl_end [(1, _), (6, _), (8, _)] ⟨rfl, rfl, rfl, trivial⟩ ?_
  refine w_post (fun m' H w' => ∃ (v : Value), m' = [(6, v), (7, .int .i64 (tabE mode n))] ∧ H = [] ∧ (tabE mode n = 0 → ∃ ty p, v = .iface ty (.pointer p))) ?_ ?_
  · skip
    refine w_block ?_
    refine w_seq ?_
    refine w_reg ?_
    refine wl_f (f_eql rfl rfl) ?_
    refine wl_f (f_assign rfl) ?_
    refine wl_end [(1, _), (6, _), (8, _), (9, _)] ⟨rfl, rfl, rfl, rfl, trivial⟩ ?_
    refine w_ifd rfl (fun hc1 => ?_) (fun hc1 => ?_)
    · skip
      have he : tabE mode n = if n < 1 ∨ 64 < n then 1 else 0 := if_pos (.inl hc1)
      refine w_reg ?_
      refine wl_f (f_move rfl) ?_
      refine wl_e (e_call0 rfl Tryz.func33 (by kernel_rfl) (fun w hh => svnew_form n w)) ?_
      rintro _ _ w1 ⟨H1, rfl, p, rfl, hp⟩
      refine wl_drop _ (List.sublist_append_right _ _) ?_
      refine wl_f (f_move rfl) ?_
      refine wl_f (f_extract rfl rfl) ?_
      refine wl_f (f_iface rfl Tryz.underlying68 rfl) ?_
      refine wl_f (f_extract rfl rfl) ?_
      refine wl_f (f_assign rfl) ?_
      refine wl_f (f_assign rfl) ?_
      refine wl_end [(6, _), (7, _)] ⟨rfl, rfl, trivial⟩ ?_
      exact ⟨_, by rw [he], rfl, fun _ => ⟨_, _, rfl⟩⟩
    · skip
      refine w_seq ?_
      refine w_reg ?_
      refine wl_f (f_eql rfl rfl) ?_
      refine wl_f (f_assign rfl) ?_
      refine wl_end [(1, _), (6, _), (17, _)] ⟨rfl, rfl, rfl, trivial⟩ ?_
      refine w_ifd rfl (fun hc2 => ?_) (fun hc2 => ?_)
      · skip
        have he : tabE mode n = if n < 1 ∨ 64 < n then 1 else 0 := if_pos (.inr hc2)
        refine w_reg ?_
        refine wl_f (f_move rfl) ?_
        refine wl_e (e_call0 rfl Tryz.func34 (by kernel_rfl) (fun w hh => frnew_form n w)) ?_
        rintro _ _ w1 ⟨H1, rfl, p, rfl, hp⟩
        refine wl_drop _ (List.sublist_append_right _ _) ?_
        refine wl_f (f_move rfl) ?_
        refine wl_f (f_extract rfl rfl) ?_
        refine wl_f (f_iface rfl Tryz.underlying71 rfl) ?_
        refine wl_f (f_extract rfl rfl) ?_
        refine wl_f (f_assign rfl) ?_
        refine wl_f (f_assign rfl) ?_
        refine wl_end [(6, _), (7, _)] ⟨rfl, rfl, trivial⟩ ?_
        exact ⟨_, by rw [he], rfl, fun _ => ⟨_, _, rfl⟩⟩
      · skip
        have he : tabE mode n = 11 := if_neg (fun h => h.elim hc1 hc2)
        refine w_reg ?_
        refine wl_f (f_assign rfl) ?_
        refine wl_end [(6, _), (7, _)] ⟨rfl, rfl, trivial⟩ ?_
        exact ⟨_, by rw [he], rfl, fun h => by rw [he] at h; cases h⟩
  · rintro _ _ w2 ⟨v, rfl, rfl, hv⟩
    refine w_seq ?_
    refine w_seq ?_
    refine w_reg ?_
    refine wl_f (f_move rfl) ?_
    refine wl_f (f_neq rfl rfl) ?_
    refine wl_end [(6, _), (7, _), (26, _)] ⟨rfl, rfl, rfl, trivial⟩ ?_
    refine w_ifd rfl (fun hc3 => ?_) (fun hc3 => ?_)
    · skip
      refine w_seq ?_
      refine w_reg ?_
      refine wl_f (f_move rfl) ?_
      refine wl_f (f_assign rfl) ?_
      refine wl_f (f_assign rfl) ?_
      refine wl_end [(4, _), (5, _)] ⟨rfl, rfl, trivial⟩ ?_
      refine w_ret ?_
      refine ⟨_, _, fun a ha hh => results_tmps Tryz.results8 rfl a ha _, List.Sublist.refl _, ?_⟩
      exact ⟨.none, rfl, (decide_eq_true hc3).symm⟩
    · skip
      have h0 : tabE mode n = 0 := Classical.not_not.1 hc3
      obtain ⟨ty, p, rfl⟩ := hv h0
      refine w_skip ?_
      refine w_seq ?_
      refine w_reg ?_
      refine wl_f (f_move rfl) ?_
      refine wl_f (f_build rfl (fun w => build_tab _ _ w)) ?_
      refine wl_e (e_box (cs := [_]) rfl rfl) ?_
      rintro _ _ w11_2 ⟨b11_2, rfl, rfl⟩
      refine wl_f (f_assign rfl) ?_
      refine wl_f (f_assign rfl) ?_
      refine wl_end [(4, _), (5, _)] ⟨rfl, rfl, trivial⟩ ?_
      refine w_ret ?_
      refine ⟨_, _, fun a ha hh => results_tmps Tryz.results8 rfl a ha _, List.Sublist.refl _, ?_⟩
      exact ⟨some ⟨b11_2, 0, .none⟩, by rw [h0]; rfl, by rw [decide_eq_false hc3]; rfl⟩
theorem rnew_form (mode n : Int) (w : World) : Spec Tryz.prog 22 [.int .i64 mode, .int .i64 n] w Nil fun r H => ∃ (p : Option Addr), r = .tuple [.pointer p, .int .i64 (tabE mode n)].toArray := by
  refine enter (n := 22) Tryz.func22 rfl rfl [(0, _), (1, _)] rfl ⟨rfl, rfl, trivial⟩ (Holds.start _ _) ?_
  refine w_seq ?_
  refine w_reg ?_
  refine wl_f (f_assign rfl) ?_
  refine wl_f (f_assign rfl) ?_
  refine wl_end [(0, _), (1, _)] ⟨rfl, rfl, trivial⟩ ?_
  refine w_seq ?_
  refine w_seq ?_
  refine w_reg ?_
  refine wl_f (f_move rfl) ?_
  refine wl_f (f_neq rfl rfl) ?_
  refine wl_f (f_move rfl) ?_
  refine wl_and (j := 2) (c := decide (mode ≠ 2)) 2 [(0, _), (1, _)] ⟨rfl, rfl, trivial⟩ rfl rfl rfl rfl rfl (fun hg1_5 => ?_) (fun w1_5 => ?_)
  · skip
    refine wl_gf rfl rfl (f_move rfl) ?_
    refine wl_gf rfl rfl (f_neq rfl rfl) ?_
    exact wl_pend rfl rfl ⟨rfl, rfl, trivial⟩ (List.Sublist.refl _)
  refine wl_end [(0, _), (1, _), (11, _)] ⟨rfl, rfl, rfl, trivial⟩ ?_
  refine w_ifb rfl (fun hc1 => ?_) (fun hc1 => ?_)
  · skip
    have he : tabE mode n = 11 := by
      simp only [Bool.and_eq_true, decide_eq_true_eq] at hc1
      exact if_neg (fun h => h.elim hc1.1 hc1.2)
    refine w_seq ?_
    refine w_reg ?_
    refine wl_f (f_assign rfl) ?_
    refine wl_f (f_assign rfl) ?_
    refine wl_end [(4, _), (5, _)] ⟨rfl, rfl, trivial⟩ ?_
    refine w_ret ?_
    refine ⟨_, _, fun a ha hh => results_tmps Tryz.results22 rfl a ha _, List.Sublist.refl _, ?_⟩
    exact ⟨.none, by rw [he]; rfl⟩
  · skip
    have hm : mode = 1 ∨ mode = 2 := by
      simp only [Bool.and_eq_true, decide_eq_true_eq] at hc1
      omega
    refine w_skip ?_
    refine w_seq ?_
    refine w_seq ?_
    refine w_reg ?_
    refine wl_f (f_move rfl) ?_
    refine wl_f (f_lss rfl rfl) ?_
    refine wl_f (f_move rfl) ?_
    refine wl_or (j := 2) (c := decide (64 < n)) 2 [(0, _), (1, _)] ⟨rfl, rfl, trivial⟩ rfl rfl rfl rfl rfl (fun hg3_5 => ?_) (fun w3_5 => ?_)
    · skip
      refine wl_gf rfl rfl (f_move rfl) ?_
      refine wl_gf rfl rfl (f_gtr rfl rfl) ?_
      exact wl_pend rfl rfl ⟨rfl, rfl, trivial⟩ (List.Sublist.refl _)
    refine wl_end [(0, _), (1, _), (17, _)] ⟨rfl, rfl, rfl, trivial⟩ ?_
    refine w_ifb rfl (fun hc2 => ?_) (fun hc2 => ?_)
    · skip
      have he : tabE mode n = 1 := (if_pos hm).trans (if_pos (by simpa [Bool.or_eq_true] using hc2))
      refine w_seq ?_
      refine w_reg ?_
      refine wl_f (f_assign rfl) ?_
      refine wl_f (f_assign rfl) ?_
      refine wl_end [(4, _), (5, _)] ⟨rfl, rfl, trivial⟩ ?_
      refine w_ret ?_
      refine ⟨_, _, fun a ha hh => results_tmps Tryz.results22 rfl a ha _, List.Sublist.refl _, ?_⟩
      exact ⟨.none, by rw [he]; rfl⟩
    · skip
      have he : tabE mode n = 0 := (if_pos hm).trans (if_neg (by simpa [Bool.or_eq_true] using hc2))
      refine w_skip ?_
      refine w_seq ?_
      refine w_reg ?_
      refine wl_f (f_move rfl) ?_
      refine wl_f (f_move rfl) ?_
      refine wl_f (f_build rfl (fun w => build_rtab _ _ w)) ?_
      refine wl_e (e_box (cs := [_, _, _, _, _]) rfl rfl) ?_
      rintro _ _ w5_3 ⟨b5_3, rfl, rfl⟩
      refine wl_f (f_assign rfl) ?_
      refine wl_f (f_assign rfl) ?_
      refine wl_end [(4, _), (5, _)] ⟨rfl, rfl, trivial⟩ ?_
      refine w_ret ?_
      refine ⟨_, _, fun a ha hh => results_tmps Tryz.results22 rfl a ha _, List.Sublist.refl _, ?_⟩
      exact ⟨some ⟨b5_3, 0, .none⟩, by rw [he]; rfl⟩
def tabL (mode n : Int) (total : Nat) : Nat := if n < 1 ∨ 64 < n then total else if mode = 1 then total / n.toNat else if mode = 2 then total / (n.toNat + 1) else total
theorem share_spec (total parts : Nat) (w : World) (ht : total < 18446744073709551616) (hp : 1 ≤ parts) (hp2 : parts ≤ 65) : Spec Tryz.prog 37 [.int .u64 (total : Int), .int .i64 (parts : Int)] w Nil fun r H => r = .int .u64 ((total / parts : Nat) : Int) ∧ H = [] := by
  refine enter (n := 12) Tryz.func37 rfl rfl [(0, _), (1, _)] rfl ⟨rfl, rfl, trivial⟩ (Holds.start _ _) ?_
  refine w_seq ?_
  refine w_reg ?_
  refine wl_f (f_assign rfl) ?_
  refine wl_end [(0, _), (1, _)] ⟨rfl, rfl, trivial⟩ ?_
  refine w_seq ?_
  refine w_seq ?_
  refine w_reg ?_
  refine wl_f (f_move rfl) ?_
  refine wl_f (f_lss rfl rfl) ?_
  refine wl_end [(0, _), (1, _), (6, _)] ⟨rfl, rfl, rfl, trivial⟩ ?_
  refine w_ifd rfl (fun h => absurd (show (parts : Int) < 1 from h) (by omega)) (fun _ => ?_)
  refine w_skip ?_
  refine w_seq ?_
  refine w_reg ?_
  refine wl_f (f_move rfl) ?_
  refine wl_f (f_move rfl) ?_
  refine wl_f (f_convu rfl Tryz.underlying3 Tryz.underlying33 (by omega)) ?_
  refine wl_f (f_quou rfl rfl (by omega)) ?_
  refine wl_f (f_assign rfl) ?_
  refine wl_end [(4, _)] ⟨rfl, trivial⟩ ?_
  refine w_ret ?_
  refine ⟨_, _, fun a ha hh => results_tmps Tryz.results37 rfl a ha _, List.Sublist.refl _, ?_⟩
  exact ⟨by rw [Int.natCast_ediv]; rfl, rfl⟩
theorem tlimit_spec (mode n : Int) (total : Nat) (w : World) (ht : total < 18446744073709551616) : Spec Tryz.prog 21 [.int .i64 mode, .int .i64 n, .int .u64 (total : Int)] w Nil fun r H => r = .int .u64 (tabL mode n total : Nat) ∧ H = [] := by
  refine enter (n := 27) Tryz.func21 rfl rfl [(0, _), (1, _), (2, _)] rfl ⟨rfl, rfl, rfl, trivial⟩ (Holds.start _ _) ?_
  refine w_seq ?_
  refine w_reg ?_
  refine wl_f (f_assign rfl) ?_
  refine wl_end [(0, _), (1, _), (2, _)] ⟨rfl, rfl, rfl, trivial⟩ ?_
  refine w_seq ?_
  refine w_seq ?_
  refine w_reg ?_
  refine wl_f (f_move rfl) ?_
  refine wl_f (f_lss rfl rfl) ?_
  refine wl_f (f_move rfl) ?_
  refine wl_or (j := 2) (c := decide (64 < n)) 2 [(0, _), (1, _), (2, _)] ⟨rfl, rfl, rfl, trivial⟩ rfl rfl rfl rfl rfl (fun hg1_5 => ?_) (fun w1_5 => ?_)
  · skip
    refine wl_gf rfl rfl (f_move rfl) ?_
    refine wl_gf rfl rfl (f_gtr rfl rfl) ?_
    exact wl_pend rfl rfl ⟨rfl, rfl, rfl, trivial⟩ (List.Sublist.refl _)
  refine wl_end [(0, _), (1, _), (2, _), (12, _)] ⟨rfl, rfl, rfl, rfl, trivial⟩ ?_
  refine w_ifb rfl (fun hc1 => ?_) (fun hc1 => ?_)
  · skip
    have h : n < 1 ∨ 64 < n := by simpa [Bool.or_eq_true] using hc1
    refine w_seq ?_
    refine w_reg ?_
    refine wl_f (f_move rfl) ?_
    refine wl_f (f_assign rfl) ?_
    refine wl_end [(6, _)] ⟨rfl, trivial⟩ ?_
    refine w_ret ?_
    refine ⟨_, _, fun a ha hh => results_tmps Tryz.results21 rfl a ha _, List.Sublist.refl _, ?_⟩
    have e : tabL mode n total = total := if_pos h
    rw [e]; exact ⟨rfl, rfl⟩
  · skip
    have h : ¬ (n < 1 ∨ 64 < n) := by simpa [Bool.or_eq_true] using hc1
    obtain ⟨k, rfl⟩ : ∃ k : Nat, n = k := ⟨n.toNat, by omega⟩
    refine w_skip ?_
    refine w_seq ?_
    refine w_seq ?_
    refine w_reg ?_
    refine wl_f (f_move rfl) ?_
    refine wl_end [(1, _), (2, _), (14, _)] ⟨rfl, rfl, rfl, trivial⟩ ?_
    refine w_block ?_
    refine w_seq ?_
    refine w_reg ?_
    refine wl_f (f_eql rfl rfl) ?_
    refine wl_f (f_assign rfl) ?_
    refine wl_end [(1, _), (2, _), (14, _), (15, _)] ⟨rfl, rfl, rfl, rfl, trivial⟩ ?_
    refine w_ifd rfl (fun hc2 => ?_) (fun hc2 => ?_)
    · skip
      refine w_seq ?_
      refine w_reg ?_
      refine wl_f (f_move rfl) ?_
      refine wl_f (f_move rfl) ?_
      refine wl_e (e_call0 rfl Tryz.func37 (by kernel_rfl) (fun w hh => share_spec total k w ht (by omega) (by omega))) ?_
      rintro _ _ w1 ⟨_, rfl, rfl, rfl⟩
      refine wl_f (f_assign rfl) ?_
      refine wl_end [(6, _)] ⟨rfl, trivial⟩ ?_
      refine w_ret ?_
      refine ⟨_, _, fun a ha hh => results_tmps Tryz.results21 rfl a ha _, List.Sublist.refl _, ?_⟩
      have e : tabL mode k total = total / k := (if_neg h).trans (if_pos hc2)
      rw [e]; exact ⟨rfl, rfl⟩
    · skip
      refine w_seq ?_
      refine w_reg ?_
      refine wl_f (f_eql rfl rfl) ?_
      refine wl_f (f_assign rfl) ?_
      refine wl_end [(1, _), (2, _), (20, _)] ⟨rfl, rfl, rfl, trivial⟩ ?_
      refine w_ifd rfl (fun hc3 => ?_) (fun hc3 => ?_)
      · skip
        refine w_seq ?_
        refine w_reg ?_
        refine wl_f (f_move rfl) ?_
        refine wl_f (f_move rfl) ?_
        refine wl_f (f_eqv (v' := .int .i64 ((k + 1 : Nat) : Int)) (f_add rfl rfl (by omega)) (by congr 1)) ?_
        refine wl_e (e_call0 rfl Tryz.func37 (by kernel_rfl) (fun w hh => share_spec total (k + 1) w ht (by omega) (by omega))) ?_
        rintro _ _ w1 ⟨_, rfl, rfl, rfl⟩
        refine wl_f (f_assign rfl) ?_
        refine wl_end [(6, _)] ⟨rfl, trivial⟩ ?_
        refine w_ret ?_
        refine ⟨_, _, fun a ha hh => results_tmps Tryz.results21 rfl a ha _, List.Sublist.refl _, ?_⟩
        have e : tabL mode k total = total / (k + 1) := (if_neg h).trans ((if_neg hc2).trans (if_pos hc3))
        rw [e]; exact ⟨rfl, rfl⟩
      · skip
        refine w_skip ?_
        refine w_seq ?_
        refine w_reg ?_
        refine wl_f (f_move rfl) ?_
        refine wl_f (f_assign rfl) ?_
        refine wl_end [(6, _)] ⟨rfl, trivial⟩ ?_
        refine w_ret ?_
        refine ⟨_, _, fun a ha hh => results_tmps Tryz.results21 rfl a ha _, List.Sublist.refl _, ?_⟩
        have e : tabL mode k total = total := (if_neg h).trans ((if_neg hc2).trans (if_neg hc3))
        rw [e]; exact ⟨rfl, rfl⟩
theorem awake15_spec (w : World) : Spec Tryz.prog 13 [] w Nil fun r H => r = .bool true := by
  refine enter (n := 15) Tryz.func13 rfl rfl [] rfl trivial (Holds.start _ _) ?_
  refine w_seq ?_
  refine w_reg ?_
  refine wl_f (f_assign rfl) ?_
  refine wl_end [] trivial ?_
  refine w_seq ?_
  refine w_reg ?_
  refine wl_e (e_call0 rfl Tryz.func21 (by kernel_rfl) (fun w hh => tlimit_spec 1 4 10 w (by omega))) ?_
  rintro _ _ w1 ⟨_, rfl, rfl, rfl⟩
  refine wl_f (f_eql rfl rfl) ?_
  refine wl_f (f_move rfl) ?_
  refine wl_and (j := 2) (c := true) 2 [] trivial rfl rfl rfl rfl rfl (fun hg1_5 => ?_) (fun w1_5 => ?_)
  · skip
    refine wl_ge rfl rfl (e_call0 rfl Tryz.func21 (by kernel_rfl) (fun w hh => tlimit_spec 2 4 10 w (by omega))) ?_
    rintro _ _ w2 ⟨_, rfl, rfl, rfl⟩
    refine wl_gf rfl rfl (f_eql rfl rfl) ?_
    exact wl_pend rfl rfl trivial (List.Sublist.refl _)
  refine wl_f (f_move rfl) ?_
  refine wl_and (j := 6) (c := true) 2 [] trivial rfl rfl rfl rfl rfl (fun hg1_9 => ?_) (fun w1_9 => ?_)
  · skip
    refine wl_ge rfl rfl (e_call0 rfl Tryz.func21 (by kernel_rfl) (fun w hh => tlimit_spec 1 4 12 w (by omega))) ?_
    rintro _ _ w3 ⟨_, rfl, rfl, rfl⟩
    refine wl_gf rfl rfl (f_eql rfl rfl) ?_
    exact wl_pend rfl rfl trivial (List.Sublist.refl _)
  refine wl_f (f_move rfl) ?_
  refine wl_and (j := 10) (c := true) 2 [] trivial rfl rfl rfl rfl rfl (fun hg1_13 => ?_) (fun w1_13 => ?_)
  · skip
    refine wl_ge rfl rfl (e_call0 rfl Tryz.func21 (by kernel_rfl) (fun w hh => tlimit_spec 2 4 12 w (by omega))) ?_
    rintro _ _ w4 ⟨_, rfl, rfl, rfl⟩
    refine wl_gf rfl rfl (f_eql rfl rfl) ?_
    exact wl_pend rfl rfl trivial (List.Sublist.refl _)
  refine wl_f (f_assign rfl) ?_
  refine wl_end [(0, _)] ⟨rfl, trivial⟩ ?_
  refine w_ret ?_
  refine ⟨_, _, fun a ha hh => results_tmps Tryz.results13 rfl a ha _, List.Sublist.refl _, ?_⟩
  rfl
theorem tuntracked_nil (w : World) : Spec Tryz.prog 15 [.pointer .none] w Nil fun r H => r = .int .u64 0 := by
  refine enter (n := 10) Tryz.func15 rfl rfl [(0, _)] rfl ⟨rfl, trivial⟩ (Holds.start _ _) ?_
  refine w_seq ?_
  refine w_reg ?_
  refine wl_f (f_assign rfl) ?_
  refine wl_end [(0, _)] ⟨rfl, trivial⟩ ?_
  refine w_seq ?_
  refine w_seq ?_
  refine w_reg ?_
  refine wl_f (f_move rfl) ?_
  refine wl_f (f_eqlnil rfl rfl Tryz.underlying24) ?_
  refine wl_end [(0, _), (4, _)] ⟨rfl, rfl, trivial⟩ ?_
  refine w_ift rfl ?_
  refine w_seq ?_
  refine w_reg ?_
  refine wl_f (f_assign rfl) ?_
  refine wl_end [(2, _)] ⟨rfl, trivial⟩ ?_
  refine w_ret ?_
  refine ⟨_, _, fun a ha hh => results_tmps Tryz.results15 rfl a ha _, List.Sublist.refl _, ?_⟩
  rfl
theorem ttotal_nil (w : World) : Spec Tryz.prog 16 [.pointer .none] w Nil fun r H => r = .int .u64 0 := by
  refine enter (n := 10) Tryz.func16 rfl rfl [(0, _)] rfl ⟨rfl, trivial⟩ (Holds.start _ _) ?_
  refine w_seq ?_
  refine w_reg ?_
  refine wl_f (f_assign rfl) ?_
  refine wl_end [(0, _)] ⟨rfl, trivial⟩ ?_
  refine w_seq ?_
  refine w_seq ?_
  refine w_reg ?_
  refine wl_f (f_move rfl) ?_
  refine wl_f (f_eqlnil rfl rfl Tryz.underlying24) ?_
  refine wl_end [(0, _), (4, _)] ⟨rfl, rfl, trivial⟩ ?_
  refine w_ift rfl ?_
  refine w_seq ?_
  refine w_reg ?_
  refine wl_f (f_assign rfl) ?_
  refine wl_end [(2, _)] ⟨rfl, trivial⟩ ?_
  refine w_ret ?_
  refine ⟨_, _, fun a ha hh => results_tmps Tryz.results16 rfl a ha _, List.Sublist.refl _, ?_⟩
  rfl
theorem tlen_nil (w : World) : Spec Tryz.prog 25 [.pointer .none] w Nil fun r H => r = .int .i64 0 := by
  refine enter (n := 10) Tryz.func25 rfl rfl [(0, _)] rfl ⟨rfl, trivial⟩ (Holds.start _ _) ?_
  refine w_seq ?_
  refine w_reg ?_
  refine wl_f (f_assign rfl) ?_
  refine wl_end [(0, _)] ⟨rfl, trivial⟩ ?_
  refine w_seq ?_
  refine w_seq ?_
  refine w_reg ?_
  refine wl_f (f_move rfl) ?_
  refine wl_f (f_eqlnil rfl rfl Tryz.underlying24) ?_
  refine wl_end [(0, _), (4, _)] ⟨rfl, rfl, trivial⟩ ?_
  refine w_ift rfl ?_
  refine w_seq ?_
  refine w_reg ?_
  refine wl_f (f_assign rfl) ?_
  refine wl_end [(2, _)] ⟨rfl, trivial⟩ ?_
  refine w_ret ?_
  refine ⟨_, _, fun a ha hh => results_tmps Tryz.results25 rfl a ha _, List.Sublist.refl _, ?_⟩
  rfl
theorem tentries_nil (w : World) : Spec Tryz.prog 14 [.pointer .none] w Nil fun r H => r = .slice .none 0 0 := by
  refine enter (n := 10) Tryz.func14 rfl rfl [(0, _)] rfl ⟨rfl, trivial⟩ (Holds.start _ _) ?_
  refine w_seq ?_
  refine w_reg ?_
  refine wl_f (f_assign rfl) ?_
  refine wl_end [(0, _)] ⟨rfl, trivial⟩ ?_
  refine w_seq ?_
  refine w_seq ?_
  refine w_reg ?_
  refine wl_f (f_move rfl) ?_
  refine wl_f (f_eqlnil rfl rfl Tryz.underlying24) ?_
  refine wl_end [(0, _), (4, _)] ⟨rfl, rfl, trivial⟩ ?_
  refine w_ift rfl ?_
  refine w_seq ?_
  refine w_reg ?_
  refine wl_f (f_assign rfl) ?_
  refine wl_end [(2, _)] ⟨rfl, trivial⟩ ?_
  refine w_ret ?_
  refine ⟨_, _, fun a ha hh => results_tmps Tryz.results14 rfl a ha _, List.Sublist.refl _, ?_⟩
  rfl
theorem tadd_nil (k : ByteArray) (v : Int) (w : World) : Spec Tryz.prog 11 [.pointer .none, .string k, .int .u64 v] w Nil fun r H => r = .int .i64 8 := by
  refine enter (n := 16) Tryz.func11 rfl rfl [(0, _), (1, _), (2, _)] rfl ⟨rfl, rfl, rfl, trivial⟩ (Holds.start _ _) ?_
  refine w_seq ?_
  refine w_reg ?_
  refine wl_f (f_assign rfl) ?_
  refine wl_end [(0, _), (1, _), (2, _)] ⟨rfl, rfl, rfl, trivial⟩ ?_
  refine w_seq ?_
  refine w_seq ?_
  refine w_reg ?_
  refine wl_f (f_move rfl) ?_
  refine wl_f (f_eqlnil rfl rfl Tryz.underlying24) ?_
  refine wl_end [(0, _), (1, _), (2, _), (8, _)] ⟨rfl, rfl, rfl, rfl, trivial⟩ ?_
  refine w_ift rfl ?_
  refine w_seq ?_
  refine w_reg ?_
  refine wl_f (f_assign rfl) ?_
  refine wl_end [(6, _)] ⟨rfl, trivial⟩ ?_
  refine w_ret ?_
  refine ⟨_, _, fun a ha hh => results_tmps Tryz.results11 rfl a ha _, List.Sublist.refl _, ?_⟩
  rfl
theorem tget_nil (k : ByteArray) (w : World) : Spec Tryz.prog 24 [.pointer .none, .string k] w Nil fun v H => v = .tuple [enZ, .bool false].toArray := by
  refine enter (n := 17) Tryz.func24 rfl rfl [(0, _), (1, _)] rfl ⟨rfl, rfl, trivial⟩ (Holds.start _ _) ?_
  refine w_seq ?_
  refine w_reg ?_
  refine wl_e (e_allocs [.string ByteArray.empty, .int .u64 0, .int .u64 0] (by kernel_rfl)) ?_
  rintro _ _ w0_0 ⟨b0_0, rfl, rfl⟩
  refine wl_f (f_assign rfl) ?_
  refine wl_end [(0, _), (1, _), (4, _)] ⟨rfl, rfl, rfl, trivial⟩ ?_
  refine w_seq ?_
  refine w_seq ?_
  refine w_reg ?_
  refine wl_f (f_move rfl) ?_
  refine wl_f (f_eqlnil rfl rfl Tryz.underlying24) ?_
  refine wl_end [(0, _), (1, _), (4, _), (7, _)] ⟨rfl, rfl, rfl, rfl, trivial⟩ ?_
  refine w_ift rfl ?_
  refine w_seq ?_
  refine w_reg ?_
  refine wl_f (f_build rfl build_entry0) ?_
  (first | refine wl_e0 (e_store0 (us := [_, _, _]) rfl rfl rfl (by kernel_rfl) (by simp [Value.oneCell']) rfl rfl) ?_ | refine wl_e0 (e_store1 (us := [_, _, _]) rfl rfl rfl (by kernel_rfl) (by simp [Value.oneCell']) rfl rfl) ?_ | refine wl_e0 (e_store2 (us := [_, _, _]) rfl rfl rfl (by kernel_rfl) (by simp [Value.oneCell']) rfl rfl) ?_ | refine wl_e0 (e_store3 (us := [_, _, _]) rfl rfl rfl (by kernel_rfl) (by simp [Value.oneCell']) rfl rfl) ?_)
  rintro _ _ w2_1 rfl
  refine wl_f (f_assign rfl) ?_
  refine wl_end [(4, _), (5, _)] ⟨rfl, rfl, trivial⟩ ?_
  refine w_ret ?_
  refine ⟨_, _, fun a ha hh => results_mix Tryz.results24 (rm_cell (cell_agg 0 rfl Tryz.underlying46 rfl (by kernel_rfl) rfl) (rm_tmp rfl rm_nil)) a ha _ hh, List.nil_sublist _, ?_⟩
  rfl
theorem ttake_nil (k : ByteArray) (w : World) : Spec Tryz.prog 17 [.pointer .none, .string k] w Nil fun v H => v = .tuple [enZ, .bool false].toArray := by
  refine enter (n := 17) Tryz.func17 rfl rfl [(0, _), (1, _)] rfl ⟨rfl, rfl, trivial⟩ (Holds.start _ _) ?_
  refine w_seq ?_
  refine w_reg ?_
  refine wl_e (e_allocs [.string ByteArray.empty, .int .u64 0, .int .u64 0] (by kernel_rfl)) ?_
  rintro _ _ w0_0 ⟨b0_0, rfl, rfl⟩
  refine wl_f (f_assign rfl) ?_
  refine wl_end [(0, _), (1, _), (4, _)] ⟨rfl, rfl, rfl, trivial⟩ ?_
  refine w_seq ?_
  refine w_seq ?_
  refine w_reg ?_
  refine wl_f (f_move rfl) ?_
  refine wl_f (f_eqlnil rfl rfl Tryz.underlying24) ?_
  refine wl_end [(0, _), (1, _), (4, _), (7, _)] ⟨rfl, rfl, rfl, rfl, trivial⟩ ?_
  refine w_ift rfl ?_
  refine w_seq ?_
  refine w_reg ?_
  refine wl_f (f_build rfl build_entry0) ?_
  (first | refine wl_e0 (e_store0 (us := [_, _, _]) rfl rfl rfl (by kernel_rfl) (by simp [Value.oneCell']) rfl rfl) ?_ | refine wl_e0 (e_store1 (us := [_, _, _]) rfl rfl rfl (by kernel_rfl) (by simp [Value.oneCell']) rfl rfl) ?_ | refine wl_e0 (e_store2 (us := [_, _, _]) rfl rfl rfl (by kernel_rfl) (by simp [Value.oneCell']) rfl rfl) ?_ | refine wl_e0 (e_store3 (us := [_, _, _]) rfl rfl rfl (by kernel_rfl) (by simp [Value.oneCell']) rfl rfl) ?_)
  rintro _ _ w2_1 rfl
  refine wl_f (f_assign rfl) ?_
  refine wl_end [(4, _), (5, _)] ⟨rfl, rfl, trivial⟩ ?_
  refine w_ret ?_
  refine ⟨_, _, fun a ha hh => results_mix Tryz.results17 (rm_cell (cell_agg 0 rfl Tryz.underlying46 rfl (by kernel_rfl) rfl) (rm_tmp rfl rm_nil)) a ha _ hh, List.nil_sublist _, ?_⟩
  rfl
theorem tswap_nil (k x : ByteArray) (o s : Int) (w : World) : Spec Tryz.prog 20 [.pointer .none, .string k, .agg #[.string x, .int .u64 o, .int .u64 s]] w Nil fun v H => v = .tuple [enZ, .int .i64 8].toArray := by
  refine enter (n := 20) Tryz.func20 rfl rfl [(0, _), (1, _), (2, _)] rfl ⟨rfl, rfl, rfl, trivial⟩ (Holds.start _ _) ?_
  refine w_seq ?_
  refine w_reg ?_
  refine wl_e (e_box (cs := [_, _, _]) rfl rfl) ?_
  rintro _ _ w0_0 ⟨b0_0, rfl, rfl⟩
  refine wl_e (e_allocs [.string ByteArray.empty, .int .u64 0, .int .u64 0] (by kernel_rfl)) ?_
  rintro _ _ w0_1 ⟨b0_1, rfl, rfl⟩
  refine wl_f (f_assign rfl) ?_
  refine wl_end [(0, _), (1, _), (5, _), (6, _)] ⟨rfl, rfl, rfl, rfl, trivial⟩ ?_
  refine w_seq ?_
  refine w_seq ?_
  refine w_reg ?_
  refine wl_f (f_move rfl) ?_
  refine wl_f (f_eqlnil rfl rfl Tryz.underlying24) ?_
  refine wl_end [(0, _), (1, _), (5, _), (6, _), (9, _)] ⟨rfl, rfl, rfl, rfl, rfl, trivial⟩ ?_
  refine w_ift rfl ?_
  refine w_seq ?_
  refine w_reg ?_
  refine wl_f (f_build rfl build_entry0) ?_
  (first | refine wl_e0 (e_store0 (us := [_, _, _]) rfl rfl rfl (by kernel_rfl) (by simp [Value.oneCell']) rfl rfl) ?_ | refine wl_e0 (e_store1 (us := [_, _, _]) rfl rfl rfl (by kernel_rfl) (by simp [Value.oneCell']) rfl rfl) ?_ | refine wl_e0 (e_store2 (us := [_, _, _]) rfl rfl rfl (by kernel_rfl) (by simp [Value.oneCell']) rfl rfl) ?_ | refine wl_e0 (e_store3 (us := [_, _, _]) rfl rfl rfl (by kernel_rfl) (by simp [Value.oneCell']) rfl rfl) ?_)
  rintro _ _ w2_1 rfl
  refine wl_f (f_assign rfl) ?_
  refine wl_end [(6, _), (7, _)] ⟨rfl, rfl, trivial⟩ ?_
  refine w_ret ?_
  refine ⟨_, _, fun a ha hh => results_mix Tryz.results20 (rm_cell (cell_agg 0 rfl Tryz.underlying46 rfl (by kernel_rfl) rfl) (rm_tmp rfl rm_nil)) a ha _ hh, List.nil_sublist _, ?_⟩
  rfl
theorem tbounds_nil (k : ByteArray) (w : World) : Spec Tryz.prog 12 [.pointer .none, .string k] w Nil fun v H => v = .tuple [bnV 0 0, .bool false].toArray := by
  refine enter (n := 42) Tryz.func12 rfl rfl [(0, _), (1, _)] rfl ⟨rfl, rfl, trivial⟩ (Holds.start _ _) ?_
  refine w_seq ?_
  refine w_reg ?_
  refine wl_e (e_allocs [.int .u64 0, .int .u64 0] (by kernel_rfl)) ?_
  rintro _ _ w0_0 ⟨b0_0, rfl, rfl⟩
  refine wl_f (f_assign rfl) ?_
  refine wl_end [(0, _), (1, _), (4, _)] ⟨rfl, rfl, rfl, trivial⟩ ?_
  refine w_seq ?_
  refine w_seq ?_
  refine w_reg ?_
  refine wl_f (f_move rfl) ?_
  refine wl_f (f_eqlnil rfl rfl Tryz.underlying24) ?_
  refine wl_end [(0, _), (1, _), (4, _), (11, _)] ⟨rfl, rfl, rfl, rfl, trivial⟩ ?_
  refine w_ift rfl ?_
  refine w_seq ?_
  refine w_reg ?_
  refine wl_f (f_build rfl (fun w => build_bounds0 w)) ?_
  (first | refine wl_e0 (e_store0 (us := [_, _]) rfl rfl rfl (by kernel_rfl) (by simp [Value.oneCell']) rfl rfl) ?_ | refine wl_e0 (e_store1 (us := [_, _]) rfl rfl rfl (by kernel_rfl) (by simp [Value.oneCell']) rfl rfl) ?_ | refine wl_e0 (e_store2 (us := [_, _]) rfl rfl rfl (by kernel_rfl) (by simp [Value.oneCell']) rfl rfl) ?_ | refine wl_e0 (e_store3 (us := [_, _]) rfl rfl rfl (by kernel_rfl) (by simp [Value.oneCell']) rfl rfl) ?_)
  rintro _ _ w2_1 rfl
  refine wl_f (f_assign rfl) ?_
  refine wl_end [(4, _), (5, _)] ⟨rfl, rfl, trivial⟩ ?_
  refine w_ret ?_
  refine ⟨_, _, fun a ha hh => results_mix Tryz.results12 (rm_cell (cell_agg 0 rfl Tryz.underlying36 rfl (by kernel_rfl) rfl) (rm_tmp rfl rm_nil)) a ha _ hh, List.nil_sublist _, ?_⟩
  rfl
end Go.Proofs.YtmagdjlcckgkpaaGreat

/- The law TableLimit: the call returns true. -/
namespace Go.Proofs.YtmagdjlcckgkpaaGreat
open Go.RowKit

def TS.mode : TS → Nat
  | .sv _ _ _ _ => 1
  | .fr _ _ _ => 2
section
variable {m : Nat} {S S' : TS} {k x : ByteArray} {v : Nat} {e : Int}
theorem TS.new_mode {mode m : Nat} (h : mode = 1 ∨ mode = 2) : (TS.new mode m).mode = mode := by
  rcases h with rfl | rfl <;> rfl
theorem AddS.mode (h : AddS m k v e S S') : S'.mode = S.mode := by
  cases S <;> cases S' <;> first | rfl | cases h
theorem TakeS.mode {u : Value} (h : TakeS k u S S') : S'.mode = S.mode := by
  cases S <;> cases S' <;> first | rfl | cases h
theorem SwapS.mode {xo xs : Nat} {u : Value} (h : SwapS k x xo xs u S S') : S'.mode = S.mode := by
  cases S <;> cases S' <;> first | rfl | cases h
theorem TsI.top (h : TsI m S) : S.total ≤ 9223372036854775808 := by
  cases S with
  | sv E l base total => exact h.2.2.2.2
  | fr M ded total => exact h.2.top
theorem TsI.limit (h : TsI m S) (hm : m ≤ 64) : S.base ≤ tabL S.mode m S.total := by
  cases S with
  | sv E l base total =>
    obtain ⟨h1, h2, h3, h4, h5⟩ := h
    have h6 := h3.mbase
    rw [h2, Nat.mul_comm] at h6
    have e : tabL (TS.sv E l base total).mode m total = total / m := (if_neg (by omega)).trans (if_pos rfl)
    show base ≤ tabL (TS.sv E l base total).mode m total
    rw [e]
    exact (Nat.le_div_iff_mul_le (by omega)).2 h6
  | fr M ded total =>
    obtain ⟨h1, h2⟩ := h
    have h6 := h2.sum
    have e : tabL (TS.fr M ded total).mode m total = total / (m + 1) := (if_neg (by omega)).trans ((if_neg (show ¬ ((2 : Nat) : Int) = 1 by decide)).trans (if_pos rfl))
    show ded ≤ tabL (TS.fr M ded total).mode m total
    rw [e]
    exact (Nat.le_div_iff_mul_le (by omega)).2 (by rw [Nat.mul_comm]; omega)
theorem TsI.slack {k' : ByteArray} {o s : Nat} {is : Bool} (h : TsI m S) (hg : GetS k k' o s is S) (his : is = true) : s ≤ S.base := by
  cases S with
  | sv E l base total =>
    obtain ⟨i, hi, _⟩ := hg.1 his
    exact h.2.2.2.1 k i o s hi
  | fr M ded total =>
    obtain ⟨_, h1, _⟩ := hg.1 his
    exact Nat.le_of_eq h1
end
set_option maxHeartbeats 8000000 in
theorem tableLimit_spec (sv : Bool) (z : Nat) (A1 : Option Addr) (c1 : Nat) (L1 : List Int) (A2 : Option Addr) (c2 : Nat) (L2 : List Int) (w : World) (hz : z < 256)
    (h1 : Rd w Nil 1 (.slice A1 L1.length c1) L1.length (iv L1)) (hL1 : L1.length ≤ 140737488355328) (h2 : Rd w Nil 1 (.slice A2 L2.length c2) L2.length (iv L2)) (hL2 : L2.length ≤ 140737488355328) :
    Spec Tryz.prog 5 [.bool sv, .int .u8 z, .slice A1 L1.length c1, .slice A2 L2.length c2] w Nil fun r _ => r = .bool true := by
  obtain ⟨A', c', e, hxl, hxc, hxA⟩ := id h2
  injection e with e1 _ e3
  subst e1; subst e3
  refine enter (n := 118) Tryz.func5 rfl rfl [(0, _), (1, _), (2, _), (3, _)] rfl ⟨rfl, rfl, rfl, rfl, trivial⟩ (Holds.start _ _) ?_
  refine w_seq ?_
  refine w_reg ?_
  refine wl_f (f_assign rfl) ?_
  refine wl_end [(0, _), (1, _), (2, _), (3, _)] ⟨rfl, rfl, rfl, rfl, trivial⟩ ?_
  refine w_seq ?_
  refine w_reg ?_
  refine wl_f (f_move rfl) ?_
  refine wl_f (f_convi rfl Tryz.underlying5 Tryz.underlying3 (by omega)) ?_
  refine wl_f (f_rem rfl rfl (by omega)) ?_
  refine wl_f (f_eqv (v' := .int .i64 ((1 + z % 6 : Nat) : Int)) (f_add rfl rfl (by omega)) (by congr 1)) ?_
  obtain ⟨m, hm, hm1, hm6⟩ : ∃ m, 1 + z % 6 = m ∧ 1 ≤ m ∧ m ≤ 6 := ⟨_, rfl, by omega, by omega⟩
  rw [hm]
  refine wl_f (f_assign rfl) ?_
  refine wl_f (f_assign rfl) ?_
  refine wl_end [(0, _), (2, _), (3, _), (9, _), (10, _)] ⟨rfl, rfl, rfl, rfl, rfl, trivial⟩ ?_
  refine w_seq ?_
  refine w_seq ?_
  refine w_reg ?_
  refine wl_f (f_move rfl) ?_
  refine wl_end [(2, _), (3, _), (9, _), (10, _), (25, _)] ⟨rfl, rfl, rfl, rfl, rfl, trivial⟩ ?_
  refine w_post (fun m' H w' => ∃ mode : Nat, m' = [(2, .slice A1 L1.length c1), (3, .slice A2 L2.length c2), (9, .int .i64 mode), (10, .int .i64 m)] ∧ H = [] ∧ (mode = 1 ∨ mode = 2)) ?_ ?_
  · skip
    refine w_ifb rfl (fun hc1 => ?_) (fun hc1 => ?_)
    · skip
      refine w_reg ?_
      refine wl_f (f_assign rfl) ?_
      refine wl_end [(2, _), (3, _), (9, _), (10, _)] ⟨rfl, rfl, rfl, rfl, trivial⟩ ?_
      exact ⟨1, rfl, rfl, .inl rfl⟩
    · skip
      refine w_sub [(2, _), (3, _), (9, _), (10, _)] ⟨rfl, rfl, rfl, rfl, trivial⟩ (w_skip ?_)
      exact ⟨2, rfl, rfl, .inr rfl⟩
  · rintro _ _ w0 ⟨mode, rfl, rfl, hmode⟩
    refine w_seq ?_
    refine w_reg ?_
    refine wl_f (f_move rfl) ?_
    refine wl_f (f_move rfl) ?_
    refine wl_e (e_call0 rfl Tryz.func8 (by kernel_rfl) (fun w hh => tnew_ok mode m w hmode hm1 (by omega))) ?_
    rintro _ _ w1 ⟨_, rfl, t, r0, rfl, rfl, hr0⟩
    refine wl_f (f_move rfl) ?_
    refine wl_f (f_extract rfl rfl) ?_
    refine wl_f (f_extract rfl rfl) ?_
    refine wl_f (f_assign rfl) ?_
    refine wl_f (f_assign rfl) ?_
    refine wl_end [(2, _), (3, _), (9, _), (10, _), (11, _), (12, _)] ⟨rfl, rfl, rfl, rfl, rfl, rfl, trivial⟩ ?_
    refine w_seq ?_
    refine w_seq ?_
    refine w_reg ?_
    refine wl_f (f_move rfl) ?_
    refine wl_f (f_neq rfl rfl) ?_
    refine wl_f (f_move rfl) ?_
    refine wl_or (j := 2) (c := false) 2 [(2, _), (3, _), (9, _), (10, _), (11, _)] ⟨rfl, rfl, rfl, rfl, rfl, trivial⟩ rfl rfl rfl rfl rfl (fun hg5_5 => ?_) (fun w5_5 => ?_)
    · skip
      refine wl_gf rfl rfl (f_move rfl) ?_
      refine wl_gf rfl rfl (f_eqlnil rfl rfl Tryz.underlying24) ?_
      exact wl_pend rfl rfl ⟨rfl, rfl, rfl, rfl, rfl, trivial⟩ (List.Sublist.refl _)
    refine wl_end [(2, _), (3, _), (9, _), (10, _), (11, _), (37, _)] ⟨rfl, rfl, rfl, rfl, rfl, rfl, trivial⟩ ?_
    refine w_iff rfl ?_
    refine w_skip ?_
    refine w_seq ?_
    refine w_reg ?_
    refine wl_f (f_move rfl) ?_
    refine wl_e (e_call0 rfl Tryz.func9 (by kernel_rfl) (fun w hh => new_spec A1 L1.length c1 w)) ?_
    rintro _ _ w2 ⟨_, rfl, bd, rfl, rfl⟩
    refine wl_f (f_assign rfl) ?_
    refine wl_pick [1, 0] rfl ?_
    refine wl_end [(3, _), (9, _), (10, _), (11, _), (13, _)] ⟨rfl, rfl, rfl, rfl, rfl, trivial⟩ ?_
    refine w_seq ?_
    refine w_seq ?_
    refine w_reg ?_
    refine wl_f (f_assign rfl) ?_
    refine wl_end [(3, _), (9, _), (10, _), (11, _), (13, _), (14, _)] ⟨rfl, rfl, rfl, rfl, rfl, rfl, trivial⟩ ?_
    refine w_block ?_
    refine w_loop (fun kk m' H w' => ∃ (i : Nat) (S : TS) (r : Res) (p : Nat), m' = [(3, .slice A2 L2.length c2), (9, .int .i64 mode), (10, .int .i64 m), (11, .pointer (some ⟨t, 0, .none⟩)), (13, .pointer (some ⟨bd, 0, .none⟩)), (14, .int .i64 i)] ∧
      H = [r, deck bd (.slice A1 L1.length c1) p] ∧ TbS t m S r ∧ TsI m S ∧ S.mode = mode ∧ kk + i = 80 ∧ i ≤ L2.length ∧ p ≤ L1.length) 80
      ⟨0, _, r0, 0, rfl, rfl, hr0, TsI.new mode m hm1, TS.new_mode hmode, rfl, Nat.zero_le _, Nat.zero_le _⟩ ?_
    rintro kk _ _ w3 ⟨i, S, r, p, rfl, rfl, hr, hI, hSm, hkk, hiL, hp⟩
    refine w_seq ?_
    refine w_seq ?_
    refine w_reg ?_
    refine wl_f (f_move rfl) ?_
    refine wl_f (f_move rfl) ?_
    refine wl_f (f_len rfl Tryz.underlying22) ?_
    refine wl_f (f_lss rfl rfl) ?_
    refine wl_f (f_move rfl) ?_
    refine wl_and (j := 4) (c := decide ((i : Int) < 80)) 2 [(3, _), (9, _), (10, _), (11, _), (13, _), (14, _)] ⟨rfl, rfl, rfl, rfl, rfl, rfl, trivial⟩ rfl rfl rfl rfl rfl (fun hg9_7 => ?_) (fun w9_7 => ?_)
    · skip
      refine wl_gf rfl rfl (f_move rfl) ?_
      refine wl_gf rfl rfl (f_lss rfl rfl) ?_
      exact wl_pend rfl rfl ⟨rfl, rfl, rfl, rfl, rfl, rfl, trivial⟩ (List.Sublist.refl _)
    refine wl_end [(3, _), (9, _), (10, _), (11, _), (13, _), (14, _), (47, _)] ⟨rfl, rfl, rfl, rfl, rfl, rfl, rfl, trivial⟩ ?_
    refine w_ifb rfl (fun hc3 => ?_) (fun hc3 => ?_)
    · skip
      simp only [Bool.and_eq_true, decide_eq_true_eq] at hc3
      have hi : i < L2.length := by omega
      obtain ⟨s, hsi⟩ : ∃ s, L2[i]? = some s := ⟨_, List.getElem?_eq_getElem hi⟩
      obtain ⟨b2, off, rfl, _, _, hcell⟩ := hxA.resolve_left (by omega)
      refine w_skip ?_
      refine w_seq ?_
      refine w_block ?_
      refine w_seq ?_
      refine w_draw [(0, true), (1, true), (2, true), (3, true), (4, true), (5, false), (6, true), (7, true)] ([]) ([_, _]) mixed (by kernel_rfl) (by kernel_rfl) rfl (List.Perm.refl _) (fun w11_ => ?_)
      refine wd_f rfl (f_move rfl) ?_
      refine wd_f rfl (f_move rfl) ?_
      refine wd_f rfl (f_indexAddr 1 (i := i) rfl rfl Tryz.underlying22 (by kernel_rfl) rfl hi) ?_
      refine wd_f rfl (f_loado (v := .int .i64 s) rfl Tryz.underlying3 rfl (hcell _ _ (by simp [iv, hsi])) id) ?_
      refine wd_f rfl (f_move rfl) ?_
      refine wd_e rfl (e_call1 (deck bd (.slice A1 L1.length c1) p) [_] rfl Tryz.func10 (by kernel_rfl) (pk1 1 rfl) (fun w hh hs' => short3_spec bd _ L1 p w ⟨h1.old1 hh (pk1 1 rfl), hL1, hp⟩ hs')) ?_
      rintro _ _ w4 ⟨_, rfl, key, p2, rfl, hk3, rfl, hp2⟩
      have hks : small key := small_of (by omega)
      refine ⟨_, List.Perm.swap .., ?_⟩
      refine wd_f rfl (f_assign rfl) ?_
      refine wd_f rfl (f_assign rfl) ?_
      refine wd_end [(3, _), (9, _), (10, _), (11, _), (13, _), (14, _), (15, _), (16, _)] ⟨rfl, rfl, rfl, rfl, rfl, rfl, rfl, rfl, trivial⟩ ?_
      refine w_seq ?_
      refine w_seq ?_
      refine w_reg ?_
      refine wl_f (f_move rfl) ?_
      refine wl_f (f_and rfl rfl rfl) ?_
      generalize bits .and .i64 s 7 = s7
      refine wl_end [(3, _), (9, _), (10, _), (11, _), (13, _), (14, _), (15, _), (16, _), (57, _)] ⟨rfl, rfl, rfl, rfl, rfl, rfl, rfl, rfl, rfl, trivial⟩ ?_
      refine w_post (fun m' H w' => ∃ (S : TS) (r : Res) (p : Nat), m' = [(3, .slice (some ⟨b2, off, .none⟩) L2.length c2), (9, .int .i64 mode), (10, .int .i64 m), (11, .pointer (some ⟨t, 0, .none⟩)), (13, .pointer (some ⟨bd, 0, .none⟩)), (14, .int .i64 i), (16, .string key)] ∧
        H = [r, deck bd (.slice A1 L1.length c1) p] ∧ TbS t m S r ∧ TsI m S ∧ S.mode = mode ∧ p ≤ L1.length) ?_ ?_
      · skip
        refine w_block ?_
        refine w_seq ?_
        refine w_reg ?_
        refine wl_f (f_eql rfl rfl) ?_
        refine wl_f (f_assign rfl) ?_
        refine wl_end [(3, _), (9, _), (10, _), (11, _), (13, _), (14, _), (15, _), (16, _), (57, _), (66, _)] ⟨rfl, rfl, rfl, rfl, rfl, rfl, rfl, rfl, rfl, rfl, trivial⟩ ?_
        refine w_ifd rfl (fun hc4 => ?_) (fun hc4 => ?_)
        · skip
          refine w_reg ?_
          refine wl_f (f_move rfl) ?_
          refine wl_f (f_move rfl) ?_
          refine wl_e (e_call1 r [_] rfl Tryz.func17 (by kernel_rfl) (List.Perm.refl _) (fun w hh hs => ttake_spec key hks hr hs)) ?_
          rintro _ _ w5 ⟨_, rfl, k', o', s', is, S1, r1, rfl, rfl, hr1, hg, hT⟩
          refine wl_end [(3, _), (9, _), (10, _), (11, _), (13, _), (14, _), (16, _)] ⟨rfl, rfl, rfl, rfl, rfl, rfl, rfl, trivial⟩ ?_
          exact ⟨S1, r1, p2, rfl, rfl, hr1, hI.take hT, by rw [hT.mode]; exact hSm, hp2⟩
        · skip
          refine w_seq ?_
          refine w_seq ?_
          refine w_reg ?_
          refine wl_f (f_eql rfl rfl) ?_
          refine wl_f (f_assign rfl) ?_
          refine wl_end [(3, _), (9, _), (10, _), (11, _), (13, _), (14, _), (15, _), (16, _), (57, _), (71, _)] ⟨rfl, rfl, rfl, rfl, rfl, rfl, rfl, rfl, rfl, rfl, trivial⟩ ?_
          refine w_post (fun m' H w' => ∃ bb : Bool, m' = [(3, .slice (some ⟨b2, off, .none⟩) L2.length c2), (9, .int .i64 mode), (10, .int .i64 m), (11, .pointer (some ⟨t, 0, .none⟩)), (13, .pointer (some ⟨bd, 0, .none⟩)), (14, .int .i64 i), (15, .int .i64 s), (16, .string key), (71, .bool bb)] ∧ H = [r, deck bd (.slice A1 L1.length c1) p2]) ?_ ?_
          · skip
            refine w_ifd rfl (fun hc5 => ?_) (fun hc5 => ?_)
            · skip
              refine w_sub [(3, _), (9, _), (10, _), (11, _), (13, _), (14, _), (15, _), (16, _), (71, _)] ⟨rfl, rfl, rfl, rfl, rfl, rfl, rfl, rfl, rfl, trivial⟩ (w_skip ?_)
              exact ⟨_, rfl, rfl⟩
            · skip
              refine w_reg ?_
              refine wl_f (f_eql rfl rfl) ?_
              refine wl_f (f_assign rfl) ?_
              refine wl_end [(3, _), (9, _), (10, _), (11, _), (13, _), (14, _), (15, _), (16, _), (71, _)] ⟨rfl, rfl, rfl, rfl, rfl, rfl, rfl, rfl, rfl, trivial⟩ ?_
              exact ⟨_, rfl, rfl⟩
          · rintro _ _ w10 ⟨bb, rfl, rfl⟩
            refine w_ifb rfl (fun hc6 => ?_) (fun hc6 => ?_)
            · skip
              refine w_seq ?_
              refine w_reg ?_
              refine wl_f (f_move rfl) ?_
              refine wl_e (e_call1 (deck bd (.slice A1 L1.length c1) p2) [_] rfl Tryz.func19 (by kernel_rfl) (pk1 1 rfl) (fun w hh hs' => entry_spec bd _ L1 p2 w ⟨h1.old1 hh (pk1 1 rfl), hL1, hp2⟩ hs')) ?_
              rintro _ _ w5 ⟨_, rfl, x, xo, xs, p3, rfl, hx3, hxo, hxs, rfl, hp3⟩
              have hxsm : small x := small_of (by omega)
              refine wl_e (e_allocs [.string ByteArray.empty, .int .u64 0, .int .u64 0] (by kernel_rfl)) ?_
              rintro _ _ w18_2 ⟨b18_2, rfl, rfl⟩
              (first | refine wl_e0 (e_store0 (us := [_, _, _]) rfl rfl rfl (by kernel_rfl) (by simp [Value.oneCell']) rfl rfl) ?_ | refine wl_e0 (e_store1 (us := [_, _, _]) rfl rfl rfl (by kernel_rfl) (by simp [Value.oneCell']) rfl rfl) ?_ | refine wl_e0 (e_store2 (us := [_, _, _]) rfl rfl rfl (by kernel_rfl) (by simp [Value.oneCell']) rfl rfl) ?_ | refine wl_e0 (e_store3 (us := [_, _, _]) rfl rfl rfl (by kernel_rfl) (by simp [Value.oneCell']) rfl rfl) ?_)
              rintro _ _ w18_3 rfl
              refine wl_end [(3, _), (9, _), (10, _), (11, _), (13, _), (14, _), (16, _), (17, _)] ⟨rfl, rfl, rfl, rfl, rfl, rfl, rfl, rfl, trivial⟩ ?_
              refine w_seq ?_
              refine w_drawk [(0, true), (1, true), (2, true), (3, false), (4, true), (5, true), (6, false)] ([(blk b18_2 [.string x, .int .u64 xo, .int .u64 xs] 46, some 6)]) ([deck bd (.slice A1 L1.length c1) p3, r]) mixed (by kernel_rfl) (by kernel_rfl) rfl rfl (pick_perm [0] _ rfl) (fun w19_ => ?_)
              refine wk_f rfl (f_fieldAddr 2 rfl Tryz.underlying46 rfl rfl (by kernel_rfl)) ?_
              (first | refine wk_f rfl (f_loadb 0 rfl Tryz.underlying33 rfl rfl rfl) ?_ | refine wk_f rfl (f_loadb 1 rfl Tryz.underlying33 rfl rfl rfl) ?_ | refine wk_f rfl (f_loadb 2 rfl Tryz.underlying33 rfl rfl rfl) ?_ | refine wk_f rfl (f_loadb 3 rfl Tryz.underlying33 rfl rfl rfl) ?_ | refine wk_f rfl (f_loadb 4 rfl Tryz.underlying33 rfl rfl rfl) ?_ | refine wk_f rfl (f_loadb 5 rfl Tryz.underlying33 rfl rfl rfl) ?_ | refine wk_f rfl (f_loadb 6 rfl Tryz.underlying33 rfl rfl rfl) ?_)
              refine wk_f rfl (f_move rfl) ?_
              refine wk_e rfl (e_call1 r [_, _] rfl Tryz.func15 (by kernel_rfl) (pk1 2 rfl) (fun w hh hs => tuntracked_spec hr hs)) ?_
              rintro _ _ w6 ⟨_, rfl, rfl, rfl⟩
              refine ⟨_, List.Perm.swap .., ?_⟩
              refine wk_f rfl (f_min (r := ((min xs S.base : Nat) : Int)) rfl rfl (by split <;> omega)) ?_
              refine wk_f rfl (f_fieldAddr 2 rfl Tryz.underlying46 rfl rfl (by kernel_rfl)) ?_
              refine wk_e0 rfl (e_storeN 0 (us := [_]) rfl rfl rfl rfl (by kernel_rfl) (by simp [Value.oneCell']) rfl rfl) ?_
              rintro _ _ w19_6 rfl
              refine ⟨_, List.Perm.refl _, ?_⟩
              refine wk_end [(3, _), (9, _), (10, _), (11, _), (13, _), (14, _), (16, _), (17, _)] ⟨rfl, rfl, rfl, rfl, rfl, rfl, rfl, rfl, trivial⟩ ?_
              refine w_reg ?_
              refine wl_f (f_move rfl) ?_
              refine wl_f (f_move rfl) ?_
              (first | refine wl_f (f_loadsb (cs := [_, _, _]) 0 rfl Tryz.underlying46 rfl (by kernel_rfl) rfl rfl) ?_ | refine wl_f (f_loadsb (cs := [_, _, _]) 1 rfl Tryz.underlying46 rfl (by kernel_rfl) rfl rfl) ?_ | refine wl_f (f_loadsb (cs := [_, _, _]) 2 rfl Tryz.underlying46 rfl (by kernel_rfl) rfl rfl) ?_ | refine wl_f (f_loadsb (cs := [_, _, _]) 3 rfl Tryz.underlying46 rfl (by kernel_rfl) rfl rfl) ?_ | refine wl_f (f_loadsb (cs := [_, _, _]) 4 rfl Tryz.underlying46 rfl (by kernel_rfl) rfl rfl) ?_ | refine wl_f (f_loadsb (cs := [_, _, _]) 5 rfl Tryz.underlying46 rfl (by kernel_rfl) rfl rfl) ?_ | refine wl_f (f_loadsb (cs := [_, _, _]) 6 rfl Tryz.underlying46 rfl (by kernel_rfl) rfl rfl) ?_)
              refine wl_e (e_call1 r [_, _] rfl Tryz.func20 (by kernel_rfl) (pk1 1 rfl) (fun w hh hs => tswap_spec key x xo (min xs S.base) hks hxsm (by omega) (by omega) hI hr hs)) ?_
              rintro _ _ w8 ⟨_, rfl, k', o', s', e', S1, r1, rfl, rfl, hr1, hW⟩
              refine wl_pick [0, 1] rfl ?_
              refine wl_end [(3, _), (9, _), (10, _), (11, _), (13, _), (14, _), (16, _)] ⟨rfl, rfl, rfl, rfl, rfl, rfl, rfl, trivial⟩ ?_
              exact ⟨S1, r1, p3, rfl, rfl, hr1, hI.swap (by omega) hW, by rw [hW.mode]; exact hSm, hp3⟩
            · skip
              obtain ⟨wn, hwn, hwn32⟩ := mod32 (s.fdiv (2 ^ min ((3 : Int).toNat) (IntKind.bits .i64)))
              refine w_reg ?_
              refine wl_f (f_move rfl) ?_
              refine wl_f (f_move rfl) ?_
              refine wl_f (f_move rfl) ?_
              refine wl_f (f_shr rfl rfl (by omega) rfl) ?_
              refine wl_f (f_and rfl rfl hwn) ?_
              refine wl_f (f_eqv (v' := .int .i64 ((1 + wn : Nat) : Int)) (f_add rfl rfl (by omega)) (by congr 1)) ?_
              refine wl_f (f_convu rfl Tryz.underlying3 Tryz.underlying33 (by omega)) ?_
              refine wl_e (e_call1 r [_] rfl Tryz.func11 (by kernel_rfl) (List.Perm.refl _) (fun w hh hs => tadd_spec key (1 + wn) (by omega) hks (by omega) hI hr hs)) ?_
              rintro _ _ w6 ⟨_, rfl, e1, S1, r1, rfl, rfl, hr1, hA⟩
              refine wl_end [(3, _), (9, _), (10, _), (11, _), (13, _), (14, _), (16, _)] ⟨rfl, rfl, rfl, rfl, rfl, rfl, rfl, trivial⟩ ?_
              exact ⟨S1, r1, p2, rfl, rfl, hr1, hI.add hA, by rw [hA.mode]; exact hSm, hp2⟩
      · clear hr hI hSm
        rintro _ _ w9 ⟨S, r, p, rfl, rfl, hr, hI, hSm, hp⟩
        refine w_seq ?_
        refine w_reg ?_
        refine wl_f (f_move rfl) ?_
        refine wl_f (f_move rfl) ?_
        refine wl_f (f_move rfl) ?_
        refine wl_e (e_call1 r [_] rfl Tryz.func16 (by kernel_rfl) (List.Perm.refl _) (fun w hh hs => ttotal_spec hr hs)) ?_
        rintro _ _ w11 ⟨_, rfl, rfl, rfl⟩
        have htop := hI.top
        refine wl_e (e_call0 rfl Tryz.func21 (by kernel_rfl) (fun w hh => tlimit_spec mode m S.total w (by omega))) ?_
        rintro _ _ w12 ⟨_, rfl, rfl, rfl⟩
        have hlim := hI.limit (by omega)
        rw [hSm] at hlim
        generalize tabL mode m S.total = lim at hlim ⊢
        refine wl_f (f_assign rfl) ?_
        refine wl_end [(3, _), (9, _), (10, _), (11, _), (13, _), (14, _), (16, _), (18, _)] ⟨rfl, rfl, rfl, rfl, rfl, rfl, rfl, rfl, trivial⟩ ?_
        refine w_seq ?_
        refine w_reg ?_
        refine wl_f (f_move rfl) ?_
        refine wl_f (f_move rfl) ?_
        refine wl_e (e_call1 r [_] rfl Tryz.func12 (by kernel_rfl) (List.Perm.refl _) (fun w hh hs => tbounds_spec key hks hI hr hs)) ?_
        rintro _ _ w13 ⟨_, rfl, k', o', s', is, rfl, rfl, hg⟩
        have hfit := hI.fits hg
        obtain ⟨lo, hi', hlo, hhi, hbd⟩ : ∃ lo hi', (if is then o' else 0) = lo ∧ (if is then o' + s' else S.base) = hi' ∧ lo ≤ hi' ∧ hi' - lo ≤ lim ∧ hi' < 18446744073709551616 := by
          refine ⟨_, _, rfl, rfl, ?_⟩
          cases is with
          | true => have := hI.slack hg rfl; simp only [if_true]; omega
          | false =>
            have hb : S.base < 18446744073709551616 := by
              cases S with
              | sv E l base total => obtain ⟨h1', h2', h3', h4', h5'⟩ := id hI; have := (h3'.tok (by omega) h5').2.1; show base < _; omega
              | fr M ded total => have := hI.2.ded_le; have := hI.2.top; show ded < _; omega
            simp only [Bool.false_eq_true, if_false]; omega
        rw [hlo, hhi]
        refine wl_f (f_move rfl) ?_
        refine wl_f (f_extract rfl rfl) ?_
        refine wl_f (f_extract rfl rfl) ?_
        refine wl_e (e_allocs [.int .u64 0, .int .u64 0] (by kernel_rfl)) ?_
        rintro _ _ w22_6 ⟨b22_6, rfl, rfl⟩
        (first | refine wl_e0 (e_store0 (us := [_, _]) rfl rfl rfl (by kernel_rfl) (by simp [Value.oneCell']) rfl rfl) ?_ | refine wl_e0 (e_store1 (us := [_, _]) rfl rfl rfl (by kernel_rfl) (by simp [Value.oneCell']) rfl rfl) ?_ | refine wl_e0 (e_store2 (us := [_, _]) rfl rfl rfl (by kernel_rfl) (by simp [Value.oneCell']) rfl rfl) ?_ | refine wl_e0 (e_store3 (us := [_, _]) rfl rfl rfl (by kernel_rfl) (by simp [Value.oneCell']) rfl rfl) ?_)
        rintro _ _ w22_7 rfl
        refine wl_f (f_assign rfl) ?_
        refine wl_end [(3, _), (9, _), (10, _), (11, _), (13, _), (14, _), (18, _), (19, _)] ⟨rfl, rfl, rfl, rfl, rfl, rfl, rfl, rfl, trivial⟩ ?_
        refine w_seq ?_
        refine w_reg ?_
        refine wl_f (f_move rfl) ?_
        refine wl_e (e_call1 r [_, _] rfl Tryz.func15 (by kernel_rfl) (pk1 1 rfl) (fun w hh hs => tuntracked_spec hr hs)) ?_
        rintro _ _ w14 ⟨_, rfl, rfl, rfl⟩
        refine wl_f (f_move rfl) ?_
        refine wl_f (f_eqv (v' := .bool false) (f_gtr rfl rfl) (by rw [decide_eq_false (by omega)])) ?_
        refine wl_f (f_move rfl) ?_
        refine wl_or (j := 4) (c := false) 5 [(3, _), (9, _), (10, _), (11, _), (13, _), (14, _), (18, _), (19, _)] ⟨rfl, rfl, rfl, rfl, rfl, rfl, rfl, rfl, trivial⟩ rfl rfl rfl rfl rfl (fun hg23_10 => ?_) (fun w23_10 => ?_)
        · skip
          refine wl_gf rfl rfl (f_fieldAddr 0 rfl Tryz.underlying36 rfl rfl (by kernel_rfl)) ?_
          (first | refine wl_gf rfl rfl (f_loadb 0 rfl Tryz.underlying33 rfl rfl rfl) ?_ | refine wl_gf rfl rfl (f_loadb 1 rfl Tryz.underlying33 rfl rfl rfl) ?_ | refine wl_gf rfl rfl (f_loadb 2 rfl Tryz.underlying33 rfl rfl rfl) ?_ | refine wl_gf rfl rfl (f_loadb 3 rfl Tryz.underlying33 rfl rfl rfl) ?_ | refine wl_gf rfl rfl (f_loadb 4 rfl Tryz.underlying33 rfl rfl rfl) ?_ | refine wl_gf rfl rfl (f_loadb 5 rfl Tryz.underlying33 rfl rfl rfl) ?_ | refine wl_gf rfl rfl (f_loadb 6 rfl Tryz.underlying33 rfl rfl rfl) ?_)
          refine wl_gf rfl rfl (f_fieldAddr 1 rfl Tryz.underlying36 rfl rfl (by kernel_rfl)) ?_
          (first | refine wl_gf rfl rfl (f_loadb 0 rfl Tryz.underlying33 rfl rfl rfl) ?_ | refine wl_gf rfl rfl (f_loadb 1 rfl Tryz.underlying33 rfl rfl rfl) ?_ | refine wl_gf rfl rfl (f_loadb 2 rfl Tryz.underlying33 rfl rfl rfl) ?_ | refine wl_gf rfl rfl (f_loadb 3 rfl Tryz.underlying33 rfl rfl rfl) ?_ | refine wl_gf rfl rfl (f_loadb 4 rfl Tryz.underlying33 rfl rfl rfl) ?_ | refine wl_gf rfl rfl (f_loadb 5 rfl Tryz.underlying33 rfl rfl rfl) ?_ | refine wl_gf rfl rfl (f_loadb 6 rfl Tryz.underlying33 rfl rfl rfl) ?_)
          refine wl_gf rfl rfl (f_eqv (v' := .bool false) (f_gtr rfl rfl) (by rw [decide_eq_false (by omega)])) ?_
          exact wl_pend rfl rfl ⟨rfl, rfl, rfl, rfl, rfl, rfl, rfl, rfl, trivial⟩ (List.Sublist.refl _)
        refine wl_f (f_move rfl) ?_
        refine wl_or (j := 11) (c := false) 7 [(3, _), (9, _), (10, _), (11, _), (13, _), (14, _)] ⟨rfl, rfl, rfl, rfl, rfl, rfl, trivial⟩ rfl rfl rfl rfl rfl (fun hg23_19 => ?_) (fun w23_19 => ?_)
        · skip
          refine wl_gf rfl rfl (f_fieldAddr 1 rfl Tryz.underlying36 rfl rfl (by kernel_rfl)) ?_
          (first | refine wl_gf rfl rfl (f_loadb 0 rfl Tryz.underlying33 rfl rfl rfl) ?_ | refine wl_gf rfl rfl (f_loadb 1 rfl Tryz.underlying33 rfl rfl rfl) ?_ | refine wl_gf rfl rfl (f_loadb 2 rfl Tryz.underlying33 rfl rfl rfl) ?_ | refine wl_gf rfl rfl (f_loadb 3 rfl Tryz.underlying33 rfl rfl rfl) ?_ | refine wl_gf rfl rfl (f_loadb 4 rfl Tryz.underlying33 rfl rfl rfl) ?_ | refine wl_gf rfl rfl (f_loadb 5 rfl Tryz.underlying33 rfl rfl rfl) ?_ | refine wl_gf rfl rfl (f_loadb 6 rfl Tryz.underlying33 rfl rfl rfl) ?_)
          refine wl_gf rfl rfl (f_fieldAddr 0 rfl Tryz.underlying36 rfl rfl (by kernel_rfl)) ?_
          (first | refine wl_gf rfl rfl (f_loadb 0 rfl Tryz.underlying33 rfl rfl rfl) ?_ | refine wl_gf rfl rfl (f_loadb 1 rfl Tryz.underlying33 rfl rfl rfl) ?_ | refine wl_gf rfl rfl (f_loadb 2 rfl Tryz.underlying33 rfl rfl rfl) ?_ | refine wl_gf rfl rfl (f_loadb 3 rfl Tryz.underlying33 rfl rfl rfl) ?_ | refine wl_gf rfl rfl (f_loadb 4 rfl Tryz.underlying33 rfl rfl rfl) ?_ | refine wl_gf rfl rfl (f_loadb 5 rfl Tryz.underlying33 rfl rfl rfl) ?_ | refine wl_gf rfl rfl (f_loadb 6 rfl Tryz.underlying33 rfl rfl rfl) ?_)
          refine wl_gf rfl rfl (f_eqv (v' := .int .u64 ((hi' - lo : Nat) : Int)) (f_subu rfl rfl (by omega)) (by congr 1; omega)) ?_
          refine wl_gf rfl rfl (f_move rfl) ?_
          refine wl_gf rfl rfl (f_eqv (v' := .bool false) (f_gtr rfl rfl) (by rw [decide_eq_false (by omega)])) ?_
          exact wl_pend rfl rfl ⟨rfl, rfl, rfl, rfl, rfl, rfl, trivial⟩ (List.Sublist.refl _)
        refine wl_pick [0, 1] rfl ?_
        refine wl_end [(3, _), (9, _), (10, _), (11, _), (13, _), (14, _), (116, _)] ⟨rfl, rfl, rfl, rfl, rfl, rfl, rfl, trivial⟩ ?_
        refine w_iff rfl ?_
        refine w_skip ?_
        refine w_reg ?_
        refine wl_f (f_move rfl) ?_
        refine wl_f (f_add rfl rfl (by omega)) ?_
        refine wl_f (f_assign rfl) ?_
        refine wl_end [(3, _), (9, _), (10, _), (11, _), (13, _), (14, _)] ⟨rfl, rfl, rfl, rfl, rfl, rfl, trivial⟩ ?_
        exact ⟨kk - 1, by omega, i + 1, S, r, p, rfl, rfl, hr, hI, hSm, by omega, by omega, hp⟩
    · skip
      refine w_exit0 ?_
      refine w_seq ?_
      refine w_reg ?_
      refine wl_e (e_call0 rfl Tryz.func13 (by kernel_rfl) (fun w hh => awake15_spec w)) ?_
      rintro _ _ w20 ⟨_, rfl, rfl⟩
      refine wl_f (f_assign rfl) ?_
      refine wl_end [(8, _)] ⟨rfl, trivial⟩ ?_
      refine w_ret ?_
      refine ⟨_, _, fun a ha hh => results_tmps Tryz.results5 rfl a ha _, List.Sublist.refl _, ?_⟩
      rfl
end Go.Proofs.YtmagdjlcckgkpaaGreat

/- The proof kit, sixth part: what comes in with a call of a law, and the step to the given row. -/
namespace Go.Proofs.YtmagdjlcckgkpaaGreat
open Go.RowKit Go.WideShapes Go.ChangeShapes

/-! ### Sizes -/
section
variable {H : Type} {P : Program}

theorem weightsAll_mem {e : TypeId} : ∀ {ds : List (DataW H)} {d : DataW H} {x : Nat}, d ∈ ds → x ∈ d.weights P e → x ∈ DataW.weightsAll P e ds
  | [], _, _, h, _ => by cases h
  | c :: ds, d, x, h, hx => by
    rw [DataW.weightsAll, List.mem_append]
    rcases List.mem_cons.1 h with rfl | h
    · exact .inl hx
    · exact .inr (weightsAll_mem h hx)

theorem weightsEach_mem : ∀ {ts : List TypeId} {ds : List (DataW H)} {i : Nat} {t : TypeId} {d : DataW H} {x : Nat}, ts[i]? = some t → ds[i]? = some d → x ∈ d.weights P t → x ∈ DataW.weightsEach P ts ds
  | [], _, _, _, _, _, h, _, _ => by simp at h
  | _ :: _, [], _, _, _, _, _, h, _ => by simp at h
  | s :: ts, c :: ds, 0, t, d, x, h1, h2, hx => by
    simp at h1 h2
    subst h1; subst h2
    rw [DataW.weightsEach, List.mem_append]
    exact .inl hx
  | s :: ts, c :: ds, i + 1, t, d, x, h1, h2, hx => by
    rw [DataW.weightsEach, List.mem_append]
    exact .inr (weightsEach_mem (by simpa using h1) (by simpa using h2) hx)
end

/-! ### What a value reads as -/
section
variable {H : Type} (enc : TypeId × Value → H) (P : Program) (w : World)

/-- The cells read as a value of the type, no part of which is too large. -/
def Arg (t : TypeId) (cs : List Value) : Prop :=
  ∃ (fuel : Nat) (d : DataW H) (ps : List MemPlace), DataW.trod enc P w 0 (fun _ => true) true fuel t cs = some (d, ps) ∧ ∀ x ∈ d.weights P t, x ≤ reachBytes

variable {enc} {P} {w}

theorem arg_int {t : TypeId} {k : IntKind} {cs : List Value} (ht : P.underlying t = some (.int k)) (h : Arg enc P w t cs) : ∃ n, cs = [.int k n] ∧ (Lit.int k n).wf = true := by
  obtain ⟨fuel, d, ps, h, _⟩ := h
  obtain ⟨n, h1, _, h3⟩ := DataW.trod_int ht h
  exact ⟨n, h1, h3⟩
theorem arg_bool {t : TypeId} {cs : List Value} (ht : P.underlying t = some .bool) (h : Arg enc P w t cs) : ∃ b, cs = [.bool b] := by
  obtain ⟨fuel, d, ps, h, _⟩ := h
  obtain ⟨n, h1, _⟩ := DataW.trod_bool ht h
  exact ⟨n, h1⟩
theorem arg_string {t : TypeId} {cs : List Value} (ht : P.underlying t = some .string) (h : Arg enc P w t cs) : ∃ s : ByteArray, cs = [.string s] ∧ s.size ≤ 140737488351232 := by
  obtain ⟨fuel, d, ps, h, hw⟩ := h
  obtain ⟨s, h1, h2, _⟩ := DataW.trod_string ht h
  simp only [Prod.mk.injEq] at h2
  refine ⟨s, h1, ?_⟩
  have := hw s.data.toList.length (by rw [h2.1]; simp [DataW.weights])
  simp only [reachBytes, Array.length_toList] at this
  exact this
theorem arg_struct {t : TypeId} {fs : Array Field} {cs : List Value} (ht : P.underlying t = some (.struct fs)) (h : Arg enc P w t cs) :
    cs.length = P.cellsOf t ∧ ∀ (i : Nat) (f : Field), fs[i]? = some f → Arg enc P w f.type ((cs.drop f.offset).take (P.cellsOf f.type)) := by
  obtain ⟨fuel, d, ps, h, hw⟩ := h
  obtain ⟨xs, n, _, hx, hl, hlen, hg⟩ := DataW.trod_struct ht h
  simp only [Prod.mk.injEq] at hx
  refine ⟨hl, fun i f hf => ?_⟩
  have hi : i < xs.length := by have := (Array.getElem?_eq_some_iff.1 hf).1; omega
  refine ⟨n, xs[i].1, xs[i].2, by rw [hg i f hf, List.getElem?_eq_getElem hi], fun x hx' => hw x ?_⟩
  rw [hx.1]
  simp only [DataW.weights, ht]
  exact weightsEach_mem (i := i) (t := f.type) (d := xs[i].1) (by simp [hf]) (by simp [hi]) hx'

/-- A slice: n elements of sz cells. -/
theorem arg_slice {t e : TypeId} {sz bytes : Nat} {cs : List Value} (ht : P.underlying t = some (.slice e)) (hsz : P.cellsOf e = sz) (hpos : 0 < sz) (hby : P.bytesOf e = bytes) (h : Arg enc P w t cs) :
    ∃ A n c xs, cs = [.slice A n c] ∧ Rd w Nil sz (.slice A n c) n xs ∧ n * bytes ≤ 140737488351232 ∧ n ≤ maxLen ∧ ∀ i, i < n → Arg enc P w e ((xs.drop (i * sz)).take sz) := by
  obtain ⟨fuel, d, ps, h, hw⟩ := h
  rcases Go.Deep.open_slice ht h with ⟨rfl, _⟩ | ⟨a, len, cap, m, n, D, Pl, rfl, _, hl, hm, hmm, hx, hi⟩
  · exact ⟨.none, 0, 0, [], rfl, Rd.nil _ _ _, by omega, by simp [maxLen], by simp⟩
  · simp only [if_true] at hmm
    subst hmm
    rw [hsz] at hi
    simp only [Prod.mk.injEq] at hx
    have hlw : ∀ x ∈ (DataW.slice ((List.range len).map D) ((List.range (m - len)).map fun j => D (len + j))).weights P t, x ≤ reachBytes := by rw [← hx.1]; exact hw
    simp only [DataW.weights, ht] at hlw
    have hb := hlw _ (List.mem_cons_self ..)
    simp only [List.length_map, List.length_range, reachBytes, hby] at hb
    have hcell : ∀ j, j < len * sz → ∃ u, w.cell? (a.add j) = some u := fun j hj => by
      obtain ⟨cs', h1, _⟩ := hi (j / sz) (Nat.lt_of_lt_of_le ((Nat.div_lt_iff_lt_mul hpos).2 hj) hl)
      obtain ⟨_, h2, h3⟩ := World.cells?_some h1
      have h4 := h3 (j % sz) (Nat.mod_lt _ hpos)
      rw [Go.Deep.add_add, Nat.mul_comm, Nat.div_add_mod] at h4
      rw [h4, List.getElem?_eq_getElem (by rw [h2]; exact Nat.mod_lt _ hpos)]
      exact ⟨_, rfl⟩
    refine ⟨some a, len, m, (List.range (len * sz)).map fun j => (w.cell? (a.add j)).getD undef, rfl, ⟨some a, m, rfl, by simp, hl, ?_⟩, ?_, by omega, fun i hil => ?_⟩
    · rcases Nat.eq_zero_or_pos len with h0 | h0
      · exact .inl h0
      · right
        obtain ⟨u0, hu0⟩ := hcell 0 (Nat.mul_pos h0 hpos)
        have hspot : a.spot = .none := by
          rw [show a.add 0 = a by unfold Addr.add; simp] at hu0
          unfold World.cell? at hu0
          split at hu0
          · split at hu0
            · cases hu0
            · rename_i hs; simpa using hs
          · cases hu0
        obtain ⟨ab, ao, as⟩ := a
        simp only at hspot
        subst hspot
        refine ⟨ab, ao, rfl, id, ?_, fun j u hu => ?_⟩
        · rw [show (⟨ab, ao, .none⟩ : Addr).add 0 = ⟨ab, ao, .none⟩ by unfold Addr.add; simp] at hu0
          exact World.block_lt_of_cell? w _ hu0
        · have hj : j < len * sz := by
            have := (List.getElem?_eq_some_iff.1 hu).1
            simpa using this
          obtain ⟨u', hu'⟩ := hcell j hj
          simp [hj, hu'] at hu
          subst hu
          rwa [add_eq] at hu'
    · have : len * bytes ≤ (len + (m - len)) * bytes := Nat.mul_le_mul_right _ (by omega)
      omega
    · obtain ⟨cs', h1, h2⟩ := hi i (by omega)
      obtain ⟨_, hcl, hat⟩ := World.cells?_some h1
      have he : (((List.range (len * sz)).map fun j => (w.cell? (a.add j)).getD undef).drop (i * sz)).take sz = cs' := by
        apply List.ext_getElem?
        intro j
        rw [List.getElem?_take]
        by_cases hj : j < sz
        · rw [if_pos hj, List.getElem?_drop]
          have hlt : i * sz + j < len * sz := by
            have : (i + 1) * sz ≤ len * sz := Nat.mul_le_mul_right _ hil
            rw [Nat.add_mul] at this
            omega
          have h3 := hat j hj
          rw [Go.Deep.add_add] at h3
          rw [List.getElem?_eq_getElem (show j < cs'.length by omega)] at h3 ⊢
          simp [hlt, h3]
        · rw [if_neg hj, List.getElem?_eq_none (by omega)]
      rw [he]
      refine ⟨n, D i, Pl i, h2, fun x hx' => hlw x ?_⟩
      refine List.mem_cons_of_mem _ (List.mem_append_left _ (weightsAll_mem ?_ hx'))
      simp only [List.mem_map, List.mem_range]
      exact ⟨i, hil, rfl⟩

/-- .. of elements of one cell each. -/
theorem arg_slice1 {t e : TypeId} {bytes : Nat} {cs : List Value} (ht : P.underlying t = some (.slice e)) (hsz : P.cellsOf e = 1) (hby : P.bytesOf e = bytes) (h : Arg enc P w t cs) :
    ∃ A n c xs, cs = [.slice A n c] ∧ Rd w Nil 1 (.slice A n c) n xs ∧ xs.length = n ∧ n * bytes ≤ 140737488351232 ∧ n ≤ maxLen ∧ ∀ u ∈ xs, Arg enc P w e [u] := by
  obtain ⟨A, n, c, xs, h1, h2, h3, h4, h5⟩ := arg_slice ht hsz (by omega) hby h
  have hl : xs.length = n := by obtain ⟨_, _, _, h, _⟩ := h2; omega
  refine ⟨A, n, c, xs, h1, h2, hl, h3, h4, fun u hu => ?_⟩
  obtain ⟨i, hi, rfl⟩ := List.getElem_of_mem hu
  have := h5 i (by omega)
  rw [Nat.mul_one] at this
  rwa [List.drop_eq_getElem_cons hi] at this

/-- A slice of integers. -/
theorem arg_ints {t e : TypeId} {bytes : Nat} {k : IntKind} {cs : List Value} (ht : P.underlying t = some (.slice e)) (he : P.underlying e = some (.int k)) (hsz : P.cellsOf e = 1) (hby : P.bytesOf e = bytes) (h : Arg enc P w t cs) :
    ∃ A c zs, cs = [.slice A (zs : List Int).length c] ∧ Rd w Nil 1 (.slice A zs.length c) zs.length (zs.map (Value.int k)) ∧ zs.length * bytes ≤ 140737488351232 ∧ zs.length ≤ maxLen ∧ ∀ z ∈ zs, (Lit.int k z).wf = true := by
  obtain ⟨A, n, c, xs, h1, h2, h3, h4, h5, h6⟩ := arg_slice1 ht hsz hby h
  have : ∀ xs : List Value, (∀ u ∈ xs, Arg enc P w e [u]) → ∃ zs : List Int, xs = zs.map (Value.int k) ∧ ∀ z ∈ zs, (Lit.int k z).wf = true := by
    intro xs
    induction xs with
    | nil => exact fun _ => ⟨[], rfl, by simp⟩
    | cons u xs ih =>
      intro hu
      obtain ⟨z, hz, hwf⟩ := arg_int he (hu u (List.mem_cons_self ..))
      obtain ⟨zs, rfl, hzs⟩ := ih fun v hv => hu v (List.mem_cons_of_mem _ hv)
      simp at hz
      subst hz
      exact ⟨z :: zs, rfl, fun y hy => (List.mem_cons.1 hy).elim (fun e => e ▸ hwf) (hzs y)⟩
  obtain ⟨zs, rfl, hzs⟩ := this xs h6
  simp only [List.length_map] at h3
  subst h3
  exact ⟨A, c, zs, h1, h2, h4, h5, hzs⟩

/-- A slice of strings. -/
theorem arg_strings {t e : TypeId} {cs : List Value} (ht : P.underlying t = some (.slice e)) (he : P.underlying e = some .string) (hsz : P.cellsOf e = 1) (hby : P.bytesOf e = 16) (h : Arg enc P w t cs) :
    ∃ A c l, cs = [.slice A (l : List ByteArray).length c] ∧ Rd w Nil 1 (.slice A l.length c) l.length (l.map Value.string) ∧ l.length * 16 ≤ 140737488351232 ∧ ∀ s ∈ l, s.size ≤ 140737488351232 := by
  obtain ⟨A, n, c, xs, h1, h2, h3, h4, _, h6⟩ := arg_slice1 ht hsz hby h
  have : ∀ xs : List Value, (∀ u ∈ xs, Arg enc P w e [u]) → ∃ l : List ByteArray, xs = l.map Value.string ∧ ∀ s ∈ l, s.size ≤ 140737488351232 := by
    intro xs
    induction xs with
    | nil => exact fun _ => ⟨[], rfl, by simp⟩
    | cons u xs ih =>
      intro hu
      obtain ⟨z, hz, hwf⟩ := arg_string he (hu u (List.mem_cons_self ..))
      obtain ⟨zs, rfl, hzs⟩ := ih fun v hv => hu v (List.mem_cons_of_mem _ hv)
      simp at hz
      subst hz
      exact ⟨z :: zs, rfl, fun y hy => (List.mem_cons.1 hy).elim (fun e => e ▸ hwf) (hzs y)⟩
  obtain ⟨l, rfl, hl⟩ := this xs h6
  simp only [List.length_map] at h3
  subst h3
  exact ⟨A, c, l, h1, h2, h4, hl⟩

/-- A slice of structs of two strings each. -/
theorem arg_pairs {t e : TypeId} {f0 f1 : Field} {cs : List Value} (ht : P.underlying t = some (.slice e)) (he : P.underlying e = some (.struct #[f0, f1])) (hsz : P.cellsOf e = 2) (hby : P.bytesOf e = 32)
    (k0 : P.underlying f0.type = some .string) (k1 : P.underlying f1.type = some .string) (o0 : f0.offset = 0) (o1 : f1.offset = 1) (c0 : P.cellsOf f0.type = 1) (c1 : P.cellsOf f1.type = 1) (h : Arg enc P w t cs) :
    ∃ A c l, cs = [.slice A (l : List (ByteArray × ByteArray)).length c] ∧ Rd w Nil 2 (.slice A l.length c) l.length (l.flatMap fun t => [.string t.1, .string t.2]) ∧ l.length * 32 ≤ 140737488351232 ∧
      ∀ s ∈ l, s.1.size ≤ 140737488351232 ∧ s.2.size ≤ 140737488351232 := by
  obtain ⟨A, n, c, xs, h1, h2, h4, _, h6⟩ := arg_slice ht hsz (by omega) hby h
  have hxl : xs.length = n * 2 := by obtain ⟨_, _, _, h, _⟩ := h2; exact h
  have : ∀ (n : Nat) (xs : List Value), xs.length = n * 2 → (∀ i, i < n → Arg enc P w e ((xs.drop (i * 2)).take 2)) → ∃ l : List (ByteArray × ByteArray), l.length = n ∧ xs = (l.flatMap fun t => [.string t.1, .string t.2]) ∧
      ∀ s ∈ l, s.1.size ≤ 140737488351232 ∧ s.2.size ≤ 140737488351232 := by
    intro n
    induction n with
    | zero => exact fun xs hx _ => ⟨[], rfl, by simpa using hx, by simp⟩
    | succ n ih =>
      intro xs hx hu
      match xs, hx with
      | [_], hx => simp at hx; omega
      | a :: b :: xs, hx =>
        obtain ⟨l, hl, hxs, hs⟩ := ih xs (by simp at hx; omega) fun i hi => by
          have := hu (i + 1) (by omega)
          rwa [show (i + 1) * 2 = i * 2 + 1 + 1 by omega, List.drop_succ_cons, List.drop_succ_cons] at this
        have h0 := hu 0 (by omega)
        simp only [Nat.zero_mul, List.drop_zero, List.take_succ_cons, List.take_zero] at h0
        obtain ⟨_, hf⟩ := arg_struct he h0
        obtain ⟨s, e1, e2⟩ := arg_string k0 (by simpa [o0, c0] using hf 0 f0 rfl)
        obtain ⟨r, e3, e4⟩ := arg_string k1 (by simpa [o1, c1] using hf 1 f1 rfl)
        simp at e1 e3
        subst e1; subst e3
        exact ⟨(s, r) :: l, by simp [hl], by simp [hxs], fun y hy => (List.mem_cons.1 hy).elim (fun e => e ▸ ⟨e2, e4⟩) (hs y)⟩
  obtain ⟨l, hl, rfl, hs⟩ := this n xs hxl h6
  subst hl
  exact ⟨A, c, l, h1, h2, h4, hs⟩
end

/-! ### The parameters -/
section
variable {H : Type} (enc : TypeId × Value → H) (P : Program) (w : World)

def Par (t : TypeId) (v : Value) : Prop := (∃ b, Value.okWide P w .any b t v) ∧ Arg enc P w t v.cells.toList
def Pars : List TypeId → List Value → Prop
  | [], [] => True
  | t :: ts, v :: vs => Par enc P w t v ∧ Pars ts vs
  | _, _ => False

variable {enc} {P} {w}
theorem pars_cons {t : TypeId} {ts : List TypeId} {vs : List Value} (h : Pars enc P w (t :: ts) vs) : ∃ v vs', vs = v :: vs' ∧ Par enc P w t v ∧ Pars enc P w ts vs' := by
  cases vs with
  | nil => cases h
  | cons v vs => exact ⟨v, vs, rfl, h⟩
theorem pars_nil {vs : List Value} (h : Pars enc P w [] vs) : vs = [] := by
  cases vs with
  | nil => rfl
  | cons v vs => cases h

theorem par_cell {t : TypeId} {v u : Value} (h : Par enc P w t v) (hs : ∀ fs, P.underlying t ≠ some (.struct fs)) (ha : ∀ n e, P.underlying t ≠ some (.array n e)) (hu : v.cells.toList = [u]) : v = u := by
  obtain ⟨⟨b, hv⟩, _⟩ := h
  unfold Value.okWide at hv
  split at hv
  · exact absurd ‹_› (hs _)
  · exact absurd ‹_› (ha _ _)
  · cases v with
    | agg cs =>
      exfalso
      unfold Cell.okWide at hv
      split at hv <;> simp_all [Cell.ok]
    | _ => simpa [Value.cells] using hu
theorem par_int {t : TypeId} {k : IntKind} {v : Value} (ht : P.underlying t = some (.int k)) (h : Par enc P w t v) : ∃ n, v = .int k n ∧ (Lit.int k n).wf = true := by
  obtain ⟨n, h1, h2⟩ := arg_int ht h.2
  exact ⟨n, par_cell h (by simp [ht]) (by simp [ht]) h1, h2⟩
theorem par_bool {t : TypeId} {v : Value} (ht : P.underlying t = some .bool) (h : Par enc P w t v) : ∃ b, v = .bool b := by
  obtain ⟨n, h1⟩ := arg_bool ht h.2
  exact ⟨n, par_cell h (by simp [ht]) (by simp [ht]) h1⟩
theorem par_string {t : TypeId} {v : Value} (ht : P.underlying t = some .string) (h : Par enc P w t v) : ∃ s : ByteArray, v = .string s ∧ s.size ≤ 140737488351232 := by
  obtain ⟨n, h1, h2⟩ := arg_string ht h.2
  exact ⟨n, par_cell h (by simp [ht]) (by simp [ht]) h1, h2⟩
theorem par_slice {t e : TypeId} {v u : Value} (ht : P.underlying t = some (.slice e)) (h : Par enc P w t v) (hu : v.cells.toList = [u]) : v = u := par_cell h (by simp [ht]) (by simp [ht]) hu
theorem par_struct {t : TypeId} {fs : Array Field} {v : Value} (ht : P.underlying t = some (.struct fs)) (h : Par enc P w t v) : ∃ cs : Array Value, v = .agg cs ∧ cs.size = P.cellsOf t ∧
    ∀ (i : Nat) (f : Field), fs[i]? = some f → Arg enc P w f.type ((cs.toList.drop f.offset).take (P.cellsOf f.type)) := by
  obtain ⟨⟨b, hv⟩, ha⟩ := h
  obtain ⟨cs, rfl, hs⟩ := okWide_struct ht hv
  exact ⟨cs, rfl, hs, (arg_struct ht ha).2⟩
theorem par_ints {t e : TypeId} {bytes : Nat} {k : IntKind} {v : Value} (ht : P.underlying t = some (.slice e)) (he : P.underlying e = some (.int k)) (hsz : P.cellsOf e = 1) (hby : P.bytesOf e = bytes) (h : Par enc P w t v) :
    ∃ A c zs, v = .slice A (zs : List Int).length c ∧ Rd w Nil 1 (.slice A zs.length c) zs.length (zs.map (Value.int k)) ∧ zs.length * bytes ≤ 140737488351232 ∧ zs.length ≤ maxLen ∧ ∀ z ∈ zs, (Lit.int k z).wf = true := by
  obtain ⟨A, c, zs, h1, h2⟩ := arg_ints ht he hsz hby h.2
  exact ⟨A, c, zs, par_slice ht h h1, h2⟩
theorem par_strings {t e : TypeId} {v : Value} (ht : P.underlying t = some (.slice e)) (he : P.underlying e = some .string) (hsz : P.cellsOf e = 1) (hby : P.bytesOf e = 16) (h : Par enc P w t v) :
    ∃ A c l, v = .slice A (l : List ByteArray).length c ∧ Rd w Nil 1 (.slice A l.length c) l.length (l.map Value.string) ∧ l.length * 16 ≤ 140737488351232 ∧ ∀ s ∈ l, s.size ≤ 140737488351232 := by
  obtain ⟨A, c, zs, h1, h2⟩ := arg_strings ht he hsz hby h.2
  exact ⟨A, c, zs, par_slice ht h h1, h2⟩
theorem par_pairs {t e : TypeId} {f0 f1 : Field} {v : Value} (ht : P.underlying t = some (.slice e)) (he : P.underlying e = some (.struct #[f0, f1])) (hsz : P.cellsOf e = 2) (hby : P.bytesOf e = 32)
    (k0 : P.underlying f0.type = some .string) (k1 : P.underlying f1.type = some .string) (o0 : f0.offset = 0) (o1 : f1.offset = 1) (c0 : P.cellsOf f0.type = 1) (c1 : P.cellsOf f1.type = 1) (h : Par enc P w t v) :
    ∃ A c l, v = .slice A (l : List (ByteArray × ByteArray)).length c ∧ Rd w Nil 2 (.slice A l.length c) l.length (l.flatMap fun t => [.string t.1, .string t.2]) ∧ l.length * 32 ≤ 140737488351232 ∧
      ∀ s ∈ l, s.1.size ≤ 140737488351232 ∧ s.2.size ≤ 140737488351232 := by
  obtain ⟨A, c, zs, h1, h2⟩ := arg_pairs ht he hsz hby k0 k1 o0 o1 c0 c1 h.2
  exact ⟨A, c, zs, par_slice ht h h1, h2⟩

/-- Bytes, as numbers. -/
theorem u8_nats : ∀ zs : List Int, (∀ z ∈ zs, (Lit.int .u8 z).wf = true) → ∃ l : List Nat, zs = l.map Int.ofNat ∧ l.length = zs.length ∧ ∀ b ∈ l, b < 256
  | [], _ => ⟨[], rfl, rfl, by simp⟩
  | z :: zs, h => by
    obtain ⟨l, hl, hn, hb⟩ := u8_nats zs fun y hy => h y (List.mem_cons_of_mem _ hy)
    have hz := h z (List.mem_cons_self ..)
    simp [Lit.wf, IntKind.min, IntKind.max, IntKind.signed, IntKind.bits] at hz
    refine ⟨z.toNat :: l, ?_, by simp [hn], fun y hy => ?_⟩
    · rw [hl, List.map_cons]
      congr 1
      show z = (z.toNat : Int)
      omega
    · rcases List.mem_cons.1 hy with rfl | hy
      · omega
      · exact hb y hy
end

/-! ### The row -/
section
variable {H : Type} {enc : TypeId × Value → H}

theorem pars_of {P : Program} {w : World} : ∀ {ts : List TypeId} {vs : List Value} {ds : List (DataW H)} {ps : List MemPlace},
    (∀ (j : Nat) t v, ts[j]? = some t → vs[j]? = some v → ∃ b, Value.okWide P w .any b t v) → DataW.TrodAll enc P w 0 (fun _ => true) true ts vs ds ps → (∀ x ∈ DataW.weightsEach P ts ds, x ≤ reachBytes) → Pars enc P w ts vs
  | [], vs, ds, ps, _, h, _ => by
    obtain ⟨rfl, _, _⟩ := trodAll_nil h
    trivial
  | t :: ts, vs, ds, ps, hv, h, hx => by
    obtain ⟨v, vs', d, ds', p, q, rfl, rfl, rfl, ⟨fuel, h1⟩, h2⟩ := trodAll_cons h
    rw [DataW.weightsEach] at hx
    exact ⟨⟨hv 0 t v rfl rfl, fuel, d, p, h1, fun x h => hx x (List.mem_append_left _ h)⟩,
      pars_of (fun j t' v' e1 e2 => hv (j + 1) t' v' (by simpa using e1) (by simpa using e2)) h2 fun x h => hx x (List.mem_append_right _ h)⟩

theorem trodAll_stays {P : Program} (hl : laidOutB P = true) {W W' : World} (hb : Below W.heap.size W W') {sp : Nat → Bool} : ∀ {ts : List TypeId} {vs : List Value} {ds : List (DataW H)} {ps : List MemPlace},
    (∀ t ∈ ts, P.readableRec t = true ∧ t < P.types.size) → DataW.TrodAll enc P W 0 (fun _ => true) true ts vs ds ps → (∀ x ∈ ps, x.block < W.heap.size) → (∀ x ∈ ps, sp x.block = true) → DataW.TrodAll enc P W' 0 sp true ts vs ds ps
  | [], vs, ds, ps, _, h, _, _ => by
    obtain ⟨rfl, rfl, rfl⟩ := trodAll_nil h
    rfl
  | t :: ts, vs, ds, ps, hr, h, hlt, hs => by
    obtain ⟨v, vs', d, ds', p, q, rfl, rfl, rfl, h1, h2⟩ := trodAll_cons h
    obtain ⟨r1, r2⟩ := hr t (List.mem_cons_self ..)
    exact ⟨p, q, WideElems.Trod_stays hl r1 r2 h1 (fun x hx => hb.same (hlt x (List.mem_append_left _ hx))) (fun x hx => hs x (List.mem_append_left _ hx)),
      trodAll_stays hl hb (fun t ht => hr t (List.mem_cons_of_mem _ ht)) h2 (fun x hx => hlt x (List.mem_append_right _ hx)) (fun x hx => hs x (List.mem_append_right _ hx)), rfl⟩

/-- A law that is true whatever comes in, and leaves what came in as it was. -/
theorem lifted_true {C : Checked} {os : Os} {n : FuncId} {fn : Func} {s : ChangeSpec} {fresh handsOn : Bool} {tb : TypeId}
    (own : ownKnob C.prog.godebug = none) (started : os.Started) (noInit : C.prog.inits.idxOf? n = none) (hfn : C.prog.funcs[n]? = some fn)
    (witness : ∃ (w : World) (tape : Tape) (i : Input), w.os = os ∧ (w.forCall tape i).Shaped C.prog ∧ i.vars = [] ∧ Input.okWide C.prog (w.forCall tape i) .any w.heap.size n i ∧
      s.pre6 enc C.prog fn [] false (w.forCall tape i).memory i.args ∧ ({} : Assume).holds C.prog (lone (Frame.enter C.prog n i.args .normal) [] (w.forCall tape i)))
    (hvars : s.vars = []) (hs : ∀ ds : List (DataW H), ds.length = fn.params.size → s.fn H ds = { results := [.lit (.bool true)], args := ds })
    (hl : laidOutB C.prog = true) (hr : fn.params.toList.all (fun t => C.prog.readableRec t && decide (t < C.prog.types.size)) = true) (hres : fn.resultTypes = #[tb]) (htb : C.prog.underlying tb = some .bool)
    (h : ∀ (W : World) (args : List Value), Pars enc C.prog W fn.params.toList args → Spec C.prog n args W Nil fun r _ => r = .bool true) :
    ReturnsInHanded {} C os n .any (s.pre6 enc C.prog fn [] false) (s.post enc C.prog fn false fresh handsOn false) := by
  refine returnsInHanded_of_change_sized own started noInit hfn witness ?_
  intro W base args ds gs before hval hW _ hsz _
  have hW' := hW
  obtain ⟨p, q, hA, hV, rfl, hfz, hnd⟩ := hW
  rw [hvars] at hV
  obtain ⟨rfl, rfl⟩ := trodVars_none hV
  have hvt : s.plain.varTypes C.prog = [] := by simp [DataSpec.varTypes, ChangeSpec.plain, hvars]
  rw [hvt, List.append_nil, List.append_nil] at hsz
  have hP : Pars enc C.prog W fn.params.toList args.toList :=
    pars_of (fun j t v e1 e2 => ⟨base, hval j t v (by simpa using e1) (by simpa using e2)⟩) hA fun x hx => by
      have := List.all_eq_true.1 hsz x hx
      simpa using this
  have hlt : ∀ x ∈ p, x.block < W.heap.size := fun x hx => hW'.lt x (List.mem_append_left _ hx)
  have hspec := h W args.toList hP
  unfold Spec at hspec
  rw [show args.toList.toArray = args from rfl] at hspec
  refine hspec.mono fun e W' ⟨v, H1, he, hh, hv⟩ => ⟨v, he, ?_⟩
  subst hv
  have hb : Below W.heap.size W W' := hh.1.below
  have hdl : ds.length = fn.params.size := by
    have : ∀ {ts : List TypeId} {vs : List Value} {ds : List (DataW H)} {ps : List MemPlace}, DataW.TrodAll enc C.prog W 0 (fun _ => true) true ts vs ds ps → ds.length = ts.length := by
      intro ts
      induction ts with
      | nil => intro vs ds ps h; obtain ⟨_, rfl, _⟩ := trodAll_nil h; rfl
      | cons t ts ih => intro vs ds ps h; obtain ⟨_, _, _, _, _, _, _, rfl, _, _, h2⟩ := trodAll_cons h; simp [ih h2]
    simpa using this hA
  have hrl : (Value.bool true).resultList fn.resultTypes.size = [.bool true] := by rw [hres]; rfl
  refine ⟨ds, [], p ++ [], [], p, [], hW', ?_, ?_, ?_, ?_, fun h => by cases h⟩
  · rw [List.append_nil, hs ds hdl, hrl, hres]
    exact trodAll_mk1 (shut_bool htb true)
  · rw [List.append_nil, hs ds hdl]
    exact trodAll_stays hl hb (fun t ht => by simpa only [Bool.and_eq_true, decide_eq_true_eq] using List.all_eq_true.1 hr t ht) hA hlt fun x hx => by simpa using hlt x hx
  · rw [List.append_nil, hs ds hdl, hvars]
    rfl
  · exact World.keptBut_mono (fun x hx => ⟨hx, .inr (.inl (by simpa using hx))⟩) (hb.frame (· ∈ p ++ []))
end
end Go.Proofs.YtmagdjlcckgkpaaGreat

/- What comes in, by type: numbers, lists of numbers, texts. -/
namespace Go.Proofs.YtmagdjlcckgkpaaGreat
open Go.RowKit

theorem Tryz.own : ownKnob Tryz.prog.godebug = none := by kernel_rfl
theorem Tryz.laidOut : laidOutB Tryz.prog = true := by kernel_rfl

section
variable {H : Type} {enc : TypeId × Value → H} {w : World}

theorem i64_wf {n : Int} (h : (Lit.int .i64 n).wf = true) : -9223372036854775808 ≤ n ∧ n ≤ 9223372036854775807 := by
  simpa [Lit.wf, IntKind.min, IntKind.max, IntKind.signed, IntKind.bits] using h
theorem u64_wf {n : Int} (h : (Lit.int .u64 n).wf = true) : ∃ k : Nat, n = k ∧ k < 18446744073709551616 := by
  simp [Lit.wf, IntKind.min, IntKind.max, IntKind.signed, IntKind.bits] at h
  exact ⟨n.toNat, by omega, by omega⟩
theorem u32_wf {n : Int} (h : (Lit.int .u32 n).wf = true) : ∃ k : Nat, n = k ∧ k < 4294967296 := by
  simp [Lit.wf, IntKind.min, IntKind.max, IntKind.signed, IntKind.bits] at h
  exact ⟨n.toNat, by omega, by omega⟩
theorem u16_wf {n : Int} (h : (Lit.int .u16 n).wf = true) : ∃ k : Nat, n = k ∧ k < 65536 := by
  simp [Lit.wf, IntKind.min, IntKind.max, IntKind.signed, IntKind.bits] at h
  exact ⟨n.toNat, by omega, by omega⟩
theorem u8_wf {n : Int} (h : (Lit.int .u8 n).wf = true) : ∃ k : Nat, n = k ∧ k < 256 := by
  simp [Lit.wf, IntKind.min, IntKind.max, IntKind.signed, IntKind.bits] at h
  exact ⟨n.toNat, by omega, by omega⟩
theorem par_iv {v : Value} (h : Par enc Tryz.prog w 22 v) : ∃ A c zs, v = .slice A (zs : List Int).length c ∧ Rd w Nil 1 (.slice A zs.length c) zs.length (iv zs) ∧ zs.length * 8 ≤ 140737488351232 ∧ ∀ z ∈ zs, -9223372036854775808 ≤ z ∧ z ≤ 9223372036854775807 := by
  obtain ⟨A, c, zs, h1, h2, h3, _, h4⟩ := par_ints (bytes := 8) Tryz.underlying22 Tryz.underlying3 (by kernel_rfl) (by kernel_rfl) h
  exact ⟨A, c, zs, h1, h2, h3, fun z hz => i64_wf (h4 z hz)⟩
theorem par_sv {v : Value} (h : Par enc Tryz.prog w 30 v) : ∃ A c l, v = .slice A (l : List ByteArray).length c ∧ Rd w Nil 1 (.slice A l.length c) l.length (sv l) ∧ l.length * 16 ≤ 140737488351232 ∧ ∀ s ∈ l, s.size ≤ 140737488351232 :=
  par_strings Tryz.underlying30 Tryz.underlying9 (by kernel_rfl) (by kernel_rfl) h
theorem par_uv {v : Value} (h : Par enc Tryz.prog w 95 v) : ∃ A c T, v = .slice A (T : List Nat).length c ∧ Rd w Nil 1 (.slice A T.length c) T.length (u64v T) ∧ T.length * 8 ≤ 140737488351232 := by
  obtain ⟨A, c, zs, h1, h2, h3, _, h4⟩ := par_ints (bytes := 8) Tryz.underlying95 Tryz.underlying33 (by kernel_rfl) (by kernel_rfl) h
  have e : (zs.map Int.toNat).map (fun c : Nat => Value.int .u64 (c : Int)) = zs.map (Value.int .u64) := by
    rw [List.map_map]
    refine List.map_congr_left fun z hz => ?_
    obtain ⟨k, rfl, _⟩ := u64_wf (h4 z hz)
    rfl
  have hl : (zs.map Int.toNat).length = zs.length := List.length_map ..
  refine ⟨A, c, zs.map Int.toNat, by rw [hl]; exact h1, ?_, by rw [hl]; exact h3⟩
  rw [hl, u64v, e]
  exact h2
end
end Go.Proofs.YtmagdjlcckgkpaaGreat
