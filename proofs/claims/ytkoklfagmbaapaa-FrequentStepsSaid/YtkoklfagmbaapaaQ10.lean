/- Tables by the method of Misra and Gries: all entries; nil tables. -/
import Derived.Test.YtkoklfagmbaapaaQ9
import Derived.Test.YtkoklfagmbaapaaT3
namespace Go.Proofs.Ytkoklfagmbaapaa
open Go.RowKit

def fent (M : UM) (ded : Nat) (k : ByteArray) : En := (k, (mget M k).getD 0, ded)
section
variable {P : Program} {n : Nat} {w0 : World} {F0 : Nat → Prop} {r : Option Nat} {N R : CondG} {X : Nat → CondG} {ds : List Deferred} {m : Env} {H : List Res} {w : World}
theorem g_nilrow {c : Code} (e sz : Nat) (h : G P n w0 F0 r c N R X ds m (row (.slice .none 0 0) e sz 0 [] :: H) w) : G P n w0 F0 r c N R X ds m H w := fun a ha hh => h a ha (hh.nilrow e sz)
theorem g_bodyB {c : Code} {o x tab r0 q : Res} (Ψ : List Res → Prop) (hN : ∀ L, Ψ L → ∀ m w, N [] m [o, x, tab, r0, bun L] w)
    (h : G P n w0 F0 r c (fun ds _ H2 _ => ds = [] ∧ ∃ L E, H2.Perm (L ++ ([o, x, tab, r0] ++ E)) ∧ Ψ L) R X [] m [o, x, tab, r0, q] w) : G P n w0 F0 r c N R X [] m [o, x, tab, r0, q] w :=
  g_fin _ h fun _ m H2 w9 ⟨e, L, E, hp, hΨ⟩ => by
    subst e
    exact ⟨[o, x, tab, r0, bun L], fun hh => ((Holds.bun.1 (hh.perm hp)).perm (pick_perm [1, 1, 1, 1, 0] _ rfl)).drop_ (List.sublist_append_left _ _), hN L hΨ m w9⟩
end
set_option maxHeartbeats 4000000 in
theorem frentries_spec (t m : Nat) (M : UM) (ded total : Nat) (r : Res) (w : World) (hm12 : m ≤ 12) (hr : FrR t m M ded total r) (hs : Holds w r.foot [r] w) :
    Spec Try.prog 14 [.pointer (some ⟨t, 0, .none⟩)] w r.foot fun v H => ∃ ks : List ByteArray, ks.Perm (keys M) ∧ Srts ks ∧ H = [row v 36 3 (ks.map (fent M ded)).length (encs (ks.map (fent M ded))), r] := by
  have hr0 := hr
  obtain ⟨hm1, hm2, bX, rX, T, rfl, hX⟩ := hr
  have hMl := hX.len
  obtain ⟨ks, hks, hss⟩ := srt_exists hX.nd
  have hsm := hX.sm
  have hkl : ks.length ≤ 12 := by
    have := hks.length_eq
    rw [keys, List.length_map] at this
    omega
  refine ISpec.spec ?_
  refine g_enter (n := 23) Try.func14 rfl rfl [(0, _)] rfl ⟨rfl, trivial⟩ hs ?_
  refine g_seq ?_
  refine g_reg (noDefer_of rfl) ?_
  refine wl_e (e_box (cs := [_]) rfl rfl) ?_
  rintro _ _ w0_0 ⟨bt, rfl, rfl⟩
  refine wl_f (f_assign rfl) ?_
  refine wl_end [(1, _)] ⟨rfl, trivial⟩ ?_
  refine g_seq ?_
  refine g_seq ?_
  refine g_reg (noDefer_of rfl) ?_
  refine wl_f (f_loadb 0 rfl Try.underlying24 rfl rfl rfl) ?_
  refine wl_f (f_eqlnil rfl rfl Try.underlying24) ?_
  refine wl_end [(1, _), (7, _)] ⟨rfl, rfl, trivial⟩ ?_
  refine g_if (b := false) rfl (fun h => by cases h) (fun _ => ?_)
  refine g_skip ?_
  refine g_seq ?_
  refine g_reg (noDefer_of rfl) ?_
  refine wl_e (e_alloc1 (.slice .none 0 0) (by kernel_rfl) rfl) ?_
  rintro _ _ w3_0 ⟨bo, rfl, rfl⟩
  refine wl_end [(1, _), (3, _)] ⟨rfl, rfl, trivial⟩ ?_
  refine g_seq ?_
  refine g_seq ?_
  refine g_reg (noDefer_of rfl) ?_
  refine wl_f (f_loadb 1 rfl Try.underlying24 rfl rfl rfl) ?_
  refine wl_e (e_call0 rfl Try.func37 (by kernel_rfl) (fun w hh => tracked_spec _ w)) ?_
  rintro _ _ w5 ⟨_, rfl, bx, rfl, rfl⟩
  refine wl_end [(1, _), (3, _), (9, _)] ⟨rfl, rfl, rfl, trivial⟩ ?_
  refine g_nilrow 36 3 ?_
  refine g_pick [2, 0, 1, 0, 0] rfl ?_
  refine g_bun (H := [_, _]) [_, _, _] ?_
  refine g_pick [2, 0, 0] rfl ?_
  refine g_unb [ftab t bX m ded total, rX] ?_
  refine g_block ?_
  refine g_range [_, _, _, _] [] rfl Try.func51 (by kernel_rfl) (pick_perm [3, 0, 0, 0] _ rfl) ?_
  intro fn a l D w6 ha hh hself
  refine ISpec.mono (tracked1_spec l bx t bX m ded total _ rX _ M ks T w6 (fun pre M' r q => (M' = M ∧ r = rX) ∧ ∃ v, q = bun [blk bo [v] 40, row v 36 3 (pre.map (fent M ded)).length (encs (pre.map (fent M ded))), blk bt [.pointer (some ⟨t, 0, .none⟩)] 24]) hm12 hks hss (fun k hk => hsm k (hks.mem_iff.1 hk)) (fun _ _ _ _ h => by obtain ⟨⟨rfl, rfl⟩, _⟩ := h; exact hX) ⟨⟨rfl, rfl⟩, _, rfl⟩ ?_ hself) ?_
  · rintro pre k rest M' r q w7 hke ⟨⟨rfl, rfl⟩, v, rfl⟩ hself2
    have hpl : pre.length + 1 ≤ 12 := by
      have : ks.length = pre.length + (rest.length + 1) := by rw [hke]; simp
      omega
    have hpm : (pre.map (fent M' ded)).length = pre.length := List.length_map ..
    refine y_round (n := 23) ha rfl rfl hself2 ?_
    refine g_seq ?_
    refine g_reg (noDefer_of rfl) ?_
    refine wl_f (f_assign rfl) ?_
    refine wl_end [(1, _), (3, _), (4, _), (11, _)] ⟨rfl, rfl, rfl, rfl, trivial⟩ ?_
    refine g_reg (noDefer_of rfl) ?_
    refine wl_f (f_assign rfl) ?_
    refine wl_end [(1, _), (3, _), (4, _), (5, _)] ⟨rfl, rfl, rfl, rfl, trivial⟩ ?_
    refine ⟨rfl, _, List.Perm.refl _, fun w8 => ?_⟩
    refine g_bodyB (fun L => ∃ v', L = [blk bo [v'] 40, row v' 36 3 ((pre ++ [k]).map (fent M' ded)).length (encs ((pre ++ [k]).map (fent M' ded))), blk bt [.pointer (some ⟨t, 0, .none⟩)] 24]) (fun L ⟨v', hL⟩ m w => ⟨rfl, _, List.Perm.refl _, rfl, M', r, _, List.Perm.refl _, ⟨rfl, rfl⟩, v', by rw [hL]⟩) ?_
    refine g_pick [4, 0, 0, 0, 0] rfl ?_
    refine g_unb [_, _, _] ?_
    refine g_block ?_
    refine g_drawk [(0, true), (1, true), (2, true), (3, true), (4, true), (5, true), (6, true), (7, true), (8, false), (9, false), (10, false)] [(_, some 10), (_, none), (_, none), (_, none), (_, none), (_, none)] [_] mixed (by kernel_rfl) rfl (by kernel_rfl) rfl rfl (pick_perm [0, 1, 1, 1, 1, 1] _ rfl) (fun w9 => ?_)
    refine wk_f rfl (f_loadb 0 rfl Try.underlying40 rfl rfl rfl) ?_
    refine wk_f rfl (f_move rfl) ?_
    refine wk_f rfl (f_move rfl) ?_
    refine wk_f rfl (f_loadb 1 rfl Try.underlying24 rfl rfl rfl) ?_
    refine wk_f rfl (f_nilCheck rfl) ?_
    refine wk_f rfl (f_fieldAddr 2 rfl Try.underlying66 rfl rfl (by kernel_rfl)) ?_
    refine wk_f rfl (f_loadb 4 rfl Try.underlying33 rfl rfl rfl) ?_
    refine wk_f rfl (f_build rfl (fun w => build_entry _ _ _ w)) ?_
    refine wk_e rfl (e_lit1 (cs := [_, _, _]) t40 rfl rfl rfl (by omega)) ?_
    rintro _ _ w10 ⟨bl, rfl, rfl⟩
    refine ⟨_, List.perm_middle.symm, ?_⟩
    refine wk_e rfl (e_appN 7 t40 rfl rfl rfl (fun w hh => Rd.held0 hh (i := 6) rfl) (by simp [Value.oneCell']) (by omega) (by omega)) ?_
    rintro v2 _ w11 ⟨⟨A2, c2, rfl⟩, rfl⟩
    refine ⟨_, List.Perm.refl _, ?_⟩
    refine wk_e0 rfl (e_storeN 0 (us := [_]) rfl rfl rfl rfl (by kernel_rfl) (by simp [Value.oneCell']) rfl rfl) ?_
    rintro _ _ w12 rfl
    refine ⟨_, pick_perm [1, 1, 1, 1, 1] _ rfl, ?_⟩
    refine wk_end [] trivial ?_
    refine ⟨rfl, [_, _, _], [_], pick_perm [5, 6, 0] _ rfl, .slice A2 ((pre.map (fent M' ded)).length + 1) c2, ?_⟩
    rw [List.map_append, List.map_cons, List.map_nil, encs_snoc, List.length_append]
    rfl
  rintro _ H1 ⟨M1, r, q, hp, ⟨rfl, rfl⟩, v, rfl⟩
  refine ⟨_, hp, fun w' => ?_⟩
  refine g_seq ?_
  refine g_pick [2, 2, 2, 0] rfl ?_
  refine g_bun (H := [_, _]) [_, _] ?_
  refine g_pick [1, 0, 0] rfl ?_
  refine g_unb [_, _, _] ?_
  refine g_reg (noDefer_of rfl) ?_
  refine wl_f (f_loadb 0 rfl Try.underlying40 rfl rfl rfl) ?_
  refine wl_f (f_assign rfl) ?_
  refine wl_end [(2, _)] ⟨rfl, trivial⟩ ?_
  refine g_pick [1, 2, 2] rfl ?_
  refine g_ret ?_
  exact ⟨v, _, [_, _], fun a w2 ha hh => results_tmps (vs := [v]) Try.results14 rfl a ha _, List.Sublist.refl _, ⟨ks, hks, hss, rfl⟩, .inr ⟨D, rfl, List.perm_append_comm (l₁ := [_, _]) (l₂ := [_])⟩⟩
theorem frentries_nil (w : World) : Spec Try.prog 14 [.pointer .none] w Nil fun r H => r = .slice .none 0 0 := by
  refine enter (n := 23) Try.func14 rfl rfl [(0, _)] rfl ⟨rfl, trivial⟩ (Holds.start _ _) ?_
  refine w_seq ?_
  refine w_reg ?_
  refine wl_e (e_box (cs := [_]) rfl rfl) ?_
  rintro _ _ w0_0 ⟨bt, rfl, rfl⟩
  refine wl_f (f_assign rfl) ?_
  refine wl_end [(1, _)] ⟨rfl, trivial⟩ ?_
  refine w_seq ?_
  refine w_seq ?_
  refine w_reg ?_
  refine wl_f (f_loadb 0 rfl Try.underlying24 rfl rfl rfl) ?_
  refine wl_f (f_eqlnil rfl rfl Try.underlying24) ?_
  refine wl_end [(1, _), (7, _)] ⟨rfl, rfl, trivial⟩ ?_
  refine w_ift rfl ?_
  refine w_seq ?_
  refine w_reg ?_
  refine wl_f (f_assign rfl) ?_
  refine wl_end [(2, _)] ⟨rfl, trivial⟩ ?_
  refine w_ret ?_
  exact ⟨_, _, fun a ha hh => results_tmps Try.results14 rfl a ha _, List.Sublist.refl _, rfl⟩
set_option maxHeartbeats 1000000 in
theorem frtake_nil (k : ByteArray) (w : World) : Spec Try.prog 18 [.pointer .none, .string k] w Nil fun v H => v = .tuple [enZ, .bool false].toArray := by
  refine enter (n := 23) Try.func18 rfl rfl [(0, _), (1, _)] rfl ⟨rfl, rfl, trivial⟩ (Holds.start _ _) ?_
  refine w_seq ?_
  refine w_reg ?_
  refine wl_e (e_allocs [.string ByteArray.empty, .int .u64 0, .int .u64 0] (by kernel_rfl)) ?_
  rintro _ _ w0_0 ⟨b0_0, rfl, rfl⟩
  refine wl_f (f_assign rfl) ?_
  refine wl_end [(0, _), (1, _), (4, _)] ⟨rfl, rfl, rfl, trivial⟩ ?_
  refine w_seq ?_
  refine w_reg ?_
  refine wl_f (f_move rfl) ?_
  refine wl_f (f_move rfl) ?_
  refine wl_e (e_call0 rfl Try.func12 (by kernel_rfl) (fun w hh => frget_nil k w)) ?_
  rintro _ _ w1 ⟨_, rfl, rfl, rfl⟩
  refine wl_f (f_move rfl) ?_
  refine wl_f (f_extract rfl rfl) ?_
  refine wl_f (f_extract rfl rfl) ?_
  refine wl_e (e_allocs [.string ByteArray.empty, .int .u64 0, .int .u64 0] (by kernel_rfl)) ?_
  rintro _ _ w1_6 ⟨b1_6, rfl, rfl⟩
  (first | refine wl_e0 (e_store0 (us := [_, _, _]) rfl rfl rfl (by kernel_rfl) (by simp [Value.oneCell']) rfl rfl) ?_ | refine wl_e0 (e_store1 (us := [_, _, _]) rfl rfl rfl (by kernel_rfl) (by simp [Value.oneCell']) rfl rfl) ?_ | refine wl_e0 (e_store2 (us := [_, _, _]) rfl rfl rfl (by kernel_rfl) (by simp [Value.oneCell']) rfl rfl) ?_ | refine wl_e0 (e_store3 (us := [_, _, _]) rfl rfl rfl (by kernel_rfl) (by simp [Value.oneCell']) rfl rfl) ?_)
  rintro _ _ w1_7 rfl
  refine wl_f (f_assign rfl) ?_
  refine wl_end [(0, _), (1, _), (4, _), (6, _), (7, _)] ⟨rfl, rfl, rfl, rfl, rfl, trivial⟩ ?_
  refine w_seq ?_
  refine w_seq ?_
  refine w_reg ?_
  refine wl_f (f_move rfl) ?_
  refine wl_end [(0, _), (1, _), (4, _), (6, _), (7, _), (14, _)] ⟨rfl, rfl, rfl, rfl, rfl, rfl, trivial⟩ ?_
  refine w_iff rfl ?_
  refine w_skip ?_
  refine w_seq ?_
  refine w_reg ?_
  (first | refine wl_f (f_loadsb (cs := [_, _, _]) 0 rfl Try.underlying36 rfl (by kernel_rfl) rfl rfl) ?_ | refine wl_f (f_loadsb (cs := [_, _, _]) 1 rfl Try.underlying36 rfl (by kernel_rfl) rfl rfl) ?_ | refine wl_f (f_loadsb (cs := [_, _, _]) 2 rfl Try.underlying36 rfl (by kernel_rfl) rfl rfl) ?_ | refine wl_f (f_loadsb (cs := [_, _, _]) 3 rfl Try.underlying36 rfl (by kernel_rfl) rfl rfl) ?_ | refine wl_f (f_loadsb (cs := [_, _, _]) 4 rfl Try.underlying36 rfl (by kernel_rfl) rfl rfl) ?_ | refine wl_f (f_loadsb (cs := [_, _, _]) 5 rfl Try.underlying36 rfl (by kernel_rfl) rfl rfl) ?_ | refine wl_f (f_loadsb (cs := [_, _, _]) 6 rfl Try.underlying36 rfl (by kernel_rfl) rfl rfl) ?_)
  refine wl_f (f_move rfl) ?_
  (first | refine wl_e0 (e_store0 (us := [_, _, _]) rfl rfl rfl (by kernel_rfl) (by simp [Value.oneCell']) rfl rfl) ?_ | refine wl_e0 (e_store1 (us := [_, _, _]) rfl rfl rfl (by kernel_rfl) (by simp [Value.oneCell']) rfl rfl) ?_ | refine wl_e0 (e_store2 (us := [_, _, _]) rfl rfl rfl (by kernel_rfl) (by simp [Value.oneCell']) rfl rfl) ?_ | refine wl_e0 (e_store3 (us := [_, _, _]) rfl rfl rfl (by kernel_rfl) (by simp [Value.oneCell']) rfl rfl) ?_)
  rintro _ _ w4_2 rfl
  refine wl_f (f_assign rfl) ?_
  refine wl_end [(4, _), (5, _)] ⟨rfl, rfl, trivial⟩ ?_
  refine w_ret ?_
  refine ⟨_, _, fun a ha hh => results_mix Try.results18 (rm_cell (cell_agg 1 rfl Try.underlying36 rfl (by kernel_rfl) rfl) (rm_tmp rfl rm_nil)) a ha _ hh, List.nil_sublist _, ?_⟩
  rfl
set_option maxHeartbeats 1000000 in
theorem frswap_nil (k x : ByteArray) (o s : Int) (w : World) : Spec Try.prog 19 [.pointer .none, .string k, .agg #[.string x, .int .u64 o, .int .u64 s]] w Nil fun v H => v = .tuple [enZ, .int .i64 8].toArray := by
  refine enter (n := 73) Try.func19 rfl rfl [(0, _), (1, _), (2, _)] rfl ⟨rfl, rfl, rfl, trivial⟩ (Holds.start _ _) ?_
  refine w_seq ?_
  refine w_reg ?_
  refine wl_e (e_box (cs := [_, _, _]) rfl rfl) ?_
  rintro _ _ w0_0 ⟨b0_0, rfl, rfl⟩
  refine wl_e (e_allocs [.string ByteArray.empty, .int .u64 0, .int .u64 0] (by kernel_rfl)) ?_
  rintro _ _ w0_1 ⟨b0_1, rfl, rfl⟩
  refine wl_f (f_assign rfl) ?_
  refine wl_end [(0, _), (1, _), (5, _), (6, _)] ⟨rfl, rfl, rfl, rfl, trivial⟩ ?_
  refine w_seq ?_
  refine w_reg ?_
  refine wl_f (f_move rfl) ?_
  refine wl_f (f_move rfl) ?_
  refine wl_e (e_call0 rfl Try.func12 (by kernel_rfl) (fun w hh => frget_nil k w)) ?_
  rintro _ _ w1 ⟨_, rfl, rfl, rfl⟩
  refine wl_f (f_move rfl) ?_
  refine wl_f (f_extract rfl rfl) ?_
  refine wl_f (f_extract rfl rfl) ?_
  refine wl_e (e_allocs [.string ByteArray.empty, .int .u64 0, .int .u64 0] (by kernel_rfl)) ?_
  rintro _ _ w1_6 ⟨b1_6, rfl, rfl⟩
  (first | refine wl_e0 (e_store0 (us := [_, _, _]) rfl rfl rfl (by kernel_rfl) (by simp [Value.oneCell']) rfl rfl) ?_ | refine wl_e0 (e_store1 (us := [_, _, _]) rfl rfl rfl (by kernel_rfl) (by simp [Value.oneCell']) rfl rfl) ?_ | refine wl_e0 (e_store2 (us := [_, _, _]) rfl rfl rfl (by kernel_rfl) (by simp [Value.oneCell']) rfl rfl) ?_ | refine wl_e0 (e_store3 (us := [_, _, _]) rfl rfl rfl (by kernel_rfl) (by simp [Value.oneCell']) rfl rfl) ?_)
  rintro _ _ w1_7 rfl
  refine wl_f (f_assign rfl) ?_
  refine wl_end [(0, _), (1, _), (5, _), (6, _), (8, _), (9, _)] ⟨rfl, rfl, rfl, rfl, rfl, rfl, trivial⟩ ?_
  refine w_seq ?_
  refine w_seq ?_
  refine w_reg ?_
  refine wl_f (f_move rfl) ?_
  refine wl_f (f_not rfl rfl) ?_
  refine wl_end [(0, _), (1, _), (5, _), (6, _), (8, _), (19, _)] ⟨rfl, rfl, rfl, rfl, rfl, rfl, trivial⟩ ?_
  refine w_ift rfl ?_
  refine w_seq ?_
  refine w_reg ?_
  refine wl_f (f_build rfl build_entry0) ?_
  (first | refine wl_e0 (e_store0 (us := [_, _, _]) rfl rfl rfl (by kernel_rfl) (by simp [Value.oneCell']) rfl rfl) ?_ | refine wl_e0 (e_store1 (us := [_, _, _]) rfl rfl rfl (by kernel_rfl) (by simp [Value.oneCell']) rfl rfl) ?_ | refine wl_e0 (e_store2 (us := [_, _, _]) rfl rfl rfl (by kernel_rfl) (by simp [Value.oneCell']) rfl rfl) ?_ | refine wl_e0 (e_store3 (us := [_, _, _]) rfl rfl rfl (by kernel_rfl) (by simp [Value.oneCell']) rfl rfl) ?_)
  rintro _ _ w3_1 rfl
  refine wl_f (f_assign rfl) ?_
  refine wl_end [(6, _), (7, _)] ⟨rfl, rfl, trivial⟩ ?_
  refine w_ret ?_
  refine ⟨_, _, fun a ha hh => results_mix Try.results19 (rm_cell (cell_agg 1 rfl Try.underlying36 rfl (by kernel_rfl) rfl) (rm_tmp rfl rm_nil)) a ha _ hh, List.nil_sublist _, ?_⟩
  rfl
end Go.Proofs.Ytkoklfagmbaapaa
