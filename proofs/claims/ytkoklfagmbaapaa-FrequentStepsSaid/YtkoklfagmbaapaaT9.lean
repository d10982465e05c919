/- The reference's tables by the method of Misra and Gries: exchanging. -/
import Derived.Test.YtkoklfagmbaapaaT8
namespace Go.Proofs.Ytkoklfagmbaapaa
open Go.RowKit

def RAt (l : List En) (k : ByteArray) (o s : Nat) (A B : List En) : Prop := l = A ++ (k, o, s) :: B ∧ k ∉ eks A
def RSwapG (l : List En) (base : Nat) (k x : ByteArray) (xo xs : Nat) (v : Value) (l' : List En) : Prop :=
  (∃ e : Int, v = .tuple [enZ, .int .i64 e].toArray ∧ l' = l ∧ (k ∉ eks l ∧ e = 8 ∨ ∃ o s A B, RAt l k o s A B ∧ (x = ByteArray.empty ∧ e = 3 ∨ x ≠ ByteArray.empty ∧ (x ∈ eks l ∧ e = 10 ∨ x ∉ eks l ∧ (xo = 0 ∨ o < xo ∨ base < xs) ∧ e = 1)))) ∨
  (∃ o s A B, RAt l k o s A B ∧ x ≠ ByteArray.empty ∧ x ∉ eks l ∧ ¬ (xo = 0 ∨ o < xo ∨ base < xs) ∧ v = .tuple [enV k o base, .int .i64 0].toArray ∧ l' = A ++ B ++ [(x, xo, 0)])
theorem rplE_in {l : List En} {k : ByteArray} {y : Int} (h : rplE l k y) (hy : ¬ y < 0) : k ∈ eks l := by
  obtain ⟨A, o, s, B, rfl, _⟩ := rplE_at h hy
  rw [eks_app]; simp [eks]
set_option maxHeartbeats 8000000 in
theorem rfswap_spec (q n : Nat) (l : List En) (base sum : Nat) (r : Res) (k x : ByteArray) (xo xs : Nat) (w : World) (hl : l.length ≤ 64) (hr : RtR q 2 n l base sum r) (hs : Holds w r.foot [r] w) :
    Spec Try.prog 25 [.pointer (some ⟨q, 0, .none⟩), .string k, .agg #[.string x, .int .u64 (xo : Int), .int .u64 (xs : Int)]] w r.foot fun v H => ∃ l' r', H = [r'] ∧ RtR q 2 n l' base sum r' ∧ RSwapG l base k x xo xs v l' := by
  have hr0 := hr
  obtain ⟨LV, rfl⟩ := hr
  refine enter (n := 106) Try.func25 rfl rfl [(0, _), (1, _), (2, _)] rfl ⟨rfl, rfl, rfl, trivial⟩ hs ?_
  refine w_seq ?_
  refine w_reg ?_
  refine wl_e (e_box (cs := [_, _, _]) rfl rfl) ?_
  rintro _ _ w0_0 ⟨b0_0, rfl, rfl⟩
  refine wl_e (e_allocs [.string ByteArray.empty, .int .u64 0, .int .u64 0] (by kernel_rfl)) ?_
  rintro _ _ w0_1 ⟨b0_1, rfl, rfl⟩
  refine wl_f (f_assign rfl) ?_
  refine wl_end [(0, _), (1, _), (5, _), (6, _)] ⟨rfl, rfl, rfl, rfl, trivial⟩ ?_
  refine w_seq ?_
  refine w_reg ?_
  refine wl_f (f_move rfl) ?_
  refine wl_f (f_move rfl) ?_
  refine wl_e (e_call1 _ [_, _] rfl Try.func26 (by kernel_rfl) (pk1 2 rfl) (fun w hh hs' => rget_spec q 2 n l base sum _ k w (by omega) hr0 hs')) ?_
  rintro _ _ w1 ⟨_, rfl, rfl, k', o, s', is, rfl, hG⟩
  refine wl_f (f_move rfl) ?_
  refine wl_f (f_extract rfl rfl) ?_
  refine wl_f (f_extract rfl rfl) ?_
  refine wl_e (e_allocs [.string ByteArray.empty, .int .u64 0, .int .u64 0] (by kernel_rfl)) ?_
  rintro _ _ w1_6 ⟨b1_6, rfl, rfl⟩
  (first | refine wl_e0 (e_store0 (us := [_, _, _]) rfl rfl rfl (by kernel_rfl) (by simp [Value.oneCell']) rfl rfl) ?_ | refine wl_e0 (e_store1 (us := [_, _, _]) rfl rfl rfl (by kernel_rfl) (by simp [Value.oneCell']) rfl rfl) ?_ | refine wl_e0 (e_store2 (us := [_, _, _]) rfl rfl rfl (by kernel_rfl) (by simp [Value.oneCell']) rfl rfl) ?_ | refine wl_e0 (e_store3 (us := [_, _, _]) rfl rfl rfl (by kernel_rfl) (by simp [Value.oneCell']) rfl rfl) ?_)
  rintro _ _ w1_7 rfl
  refine wl_f (f_assign rfl) ?_
  refine wl_end [(0, _), (1, _), (5, _), (6, _), (8, _), (9, _)] ⟨rfl, rfl, rfl, rfl, rfl, rfl, trivial⟩ ?_
  refine w_seq ?_
  refine w_seq ?_
  refine w_reg ?_
  refine wl_f (f_move rfl) ?_
  refine wl_f (f_not rfl rfl) ?_
  refine wl_end [(0, _), (1, _), (5, _), (6, _), (8, _), (17, _)] ⟨rfl, rfl, rfl, rfl, rfl, rfl, trivial⟩ ?_
  refine w_ifb rfl (fun hc1 => ?_) (fun hc1 => ?_)
  · skip
    have hno : k ∉ eks l := by
      rcases hG with ⟨_, h, _⟩ | ⟨h, _⟩
      · exact h
      · rw [h] at hc1; cases hc1
    refine w_seq ?_
    refine w_reg ?_
    refine wl_f (f_build rfl build_entry0) ?_
    (first | refine wl_e0 (e_store0 (us := [_, _, _]) rfl rfl rfl (by kernel_rfl) (by simp [Value.oneCell']) rfl rfl) ?_ | refine wl_e0 (e_store1 (us := [_, _, _]) rfl rfl rfl (by kernel_rfl) (by simp [Value.oneCell']) rfl rfl) ?_ | refine wl_e0 (e_store2 (us := [_, _, _]) rfl rfl rfl (by kernel_rfl) (by simp [Value.oneCell']) rfl rfl) ?_ | refine wl_e0 (e_store3 (us := [_, _, _]) rfl rfl rfl (by kernel_rfl) (by simp [Value.oneCell']) rfl rfl) ?_)
    rintro _ _ w3_1 rfl
    refine wl_f (f_assign rfl) ?_
    refine wl_end [(6, _), (7, _)] ⟨rfl, rfl, trivial⟩ ?_
    refine w_pick [2, 1] rfl ?_
    refine w_ret ?_
    refine ⟨_, _, fun a ha hh => results_mix Try.results25 (rm_cell (cell_agg 0 rfl Try.underlying36 rfl (by kernel_rfl) rfl) (rm_tmp rfl rm_nil)) a ha _ hh, List.sublist_cons_self .., ?_⟩
    exact ⟨l, _, rfl, ⟨_, rfl⟩, .inl ⟨8, rfl, rfl, .inl ⟨hno, rfl⟩⟩⟩
  · skip
    obtain ⟨A, s, B, hl2, hA, hk2, hs2⟩ : ∃ A s B, l = A ++ (k, o, s) :: B ∧ k ∉ eks A ∧ k' = k ∧ s' = base := by
      rcases hG with ⟨h, _⟩ | ⟨_, A, s, B, h2, h3, h4, h5⟩
      · rw [h] at hc1; exact absurd rfl hc1
      · exact ⟨A, s, B, h2, h3, h4, h5⟩
    subst hl2
    have hk3 := hk2.symm
    subst hk3
    have hs3 := hs2.symm
    subst hs3
    have hAt : RAt (A ++ (k, o, s) :: B) k o s A B := ⟨rfl, hA⟩
    clear hG hc1
    refine w_skip ?_
    refine w_seq ?_
    refine w_seq ?_
    refine w_reg ?_
    refine wl_f (f_fieldAddr 0 rfl Try.underlying36 rfl rfl (by kernel_rfl)) ?_
    (first | refine wl_f (f_loadb 0 rfl Try.underlying9 rfl rfl rfl) ?_ | refine wl_f (f_loadb 1 rfl Try.underlying9 rfl rfl rfl) ?_ | refine wl_f (f_loadb 2 rfl Try.underlying9 rfl rfl rfl) ?_ | refine wl_f (f_loadb 3 rfl Try.underlying9 rfl rfl rfl) ?_ | refine wl_f (f_loadb 4 rfl Try.underlying9 rfl rfl rfl) ?_ | refine wl_f (f_loadb 5 rfl Try.underlying9 rfl rfl rfl) ?_ | refine wl_f (f_loadb 6 rfl Try.underlying9 rfl rfl rfl) ?_)
    refine wl_f (f_eqls rfl rfl) ?_
    refine wl_end [(0, _), (1, _), (5, _), (6, _), (8, _), (21, _)] ⟨rfl, rfl, rfl, rfl, rfl, rfl, trivial⟩ ?_
    refine w_ifd rfl (fun hc2 => ?_) (fun hc2 => ?_)
    · skip
      have hx : x = ByteArray.empty := hc2
      refine w_seq ?_
      refine w_reg ?_
      refine wl_f (f_build rfl build_entry0) ?_
      (first | refine wl_e0 (e_store0 (us := [_, _, _]) rfl rfl rfl (by kernel_rfl) (by simp [Value.oneCell']) rfl rfl) ?_ | refine wl_e0 (e_store1 (us := [_, _, _]) rfl rfl rfl (by kernel_rfl) (by simp [Value.oneCell']) rfl rfl) ?_ | refine wl_e0 (e_store2 (us := [_, _, _]) rfl rfl rfl (by kernel_rfl) (by simp [Value.oneCell']) rfl rfl) ?_ | refine wl_e0 (e_store3 (us := [_, _, _]) rfl rfl rfl (by kernel_rfl) (by simp [Value.oneCell']) rfl rfl) ?_)
      rintro _ _ w5_1 rfl
      refine wl_f (f_assign rfl) ?_
      refine wl_end [(6, _), (7, _)] ⟨rfl, rfl, trivial⟩ ?_
      refine w_pick [2, 1] rfl ?_
      refine w_ret ?_
      refine ⟨_, _, fun a ha hh => results_mix Try.results25 (rm_cell (cell_agg 0 rfl Try.underlying36 rfl (by kernel_rfl) rfl) (rm_tmp rfl rm_nil)) a ha _ hh, List.sublist_cons_self .., ?_⟩
      exact ⟨_, _, rfl, ⟨_, rfl⟩, .inl ⟨3, rfl, rfl, .inr ⟨o, s, A, B, hAt, .inl ⟨hx, rfl⟩⟩⟩⟩
    · skip
      have hx : x ≠ ByteArray.empty := hc2
      refine w_skip ?_
      refine w_seq ?_
      refine w_seq ?_
      refine w_draw [(0, true), (1, true), (2, true), (3, true), (4, true), (5, true), (6, false), (7, true)] (_) ([]) mixed (by kernel_rfl) (by kernel_rfl) rfl (perm_all _) (fun w6_ => ?_)
      refine wd_f rfl (f_move rfl) ?_
      refine wd_f rfl (f_nilCheck rfl) ?_
      refine wd_f rfl (f_fieldAddr 2 rfl Try.underlying58 rfl rfl (by kernel_rfl)) ?_
      refine wd_f rfl (f_loadB 1 0 rfl rfl rfl Try.underlying40 rfl rfl) ?_
      refine wd_f rfl (f_fieldAddr 0 rfl Try.underlying36 rfl rfl (by kernel_rfl)) ?_
      (first | refine wd_f rfl (f_loadb 0 rfl Try.underlying9 rfl rfl rfl) ?_ | refine wd_f rfl (f_loadb 1 rfl Try.underlying9 rfl rfl rfl) ?_ | refine wd_f rfl (f_loadb 2 rfl Try.underlying9 rfl rfl rfl) ?_ | refine wd_f rfl (f_loadb 3 rfl Try.underlying9 rfl rfl rfl) ?_ | refine wd_f rfl (f_loadb 4 rfl Try.underlying9 rfl rfl rfl) ?_ | refine wd_f rfl (f_loadb 5 rfl Try.underlying9 rfl rfl rfl) ?_ | refine wd_f rfl (f_loadb 6 rfl Try.underlying9 rfl rfl rfl) ?_)
      refine wd_e rfl (e_call0 rfl Try.func41 (by kernel_rfl) (fun w hh => rplace_spec LV _ x w (Rd.heldB hh (i := 1) (j := 1) rfl rfl) (by omega))) ?_
      rintro _ _ w2 ⟨_, rfl, rfl, y, rfl, hy⟩
      refine ⟨_, List.Perm.refl _, ?_⟩
      refine wd_f rfl (f_geq rfl rfl) ?_
      refine wd_end [(0, _), (1, _), (5, _), (6, _), (8, _), (30, _)] ⟨rfl, rfl, rfl, rfl, rfl, rfl, trivial⟩ ?_
      refine w_ifd rfl (fun hc3 => ?_) (fun hc3 => ?_)
      · skip
        have hxi := rplE_in hy (by omega)
        refine w_seq ?_
        refine w_reg ?_
        refine wl_f (f_build rfl build_entry0) ?_
        (first | refine wl_e0 (e_store0 (us := [_, _, _]) rfl rfl rfl (by kernel_rfl) (by simp [Value.oneCell']) rfl rfl) ?_ | refine wl_e0 (e_store1 (us := [_, _, _]) rfl rfl rfl (by kernel_rfl) (by simp [Value.oneCell']) rfl rfl) ?_ | refine wl_e0 (e_store2 (us := [_, _, _]) rfl rfl rfl (by kernel_rfl) (by simp [Value.oneCell']) rfl rfl) ?_ | refine wl_e0 (e_store3 (us := [_, _, _]) rfl rfl rfl (by kernel_rfl) (by simp [Value.oneCell']) rfl rfl) ?_)
        rintro _ _ w7_1 rfl
        refine wl_f (f_assign rfl) ?_
        refine wl_end [(6, _), (7, _)] ⟨rfl, rfl, trivial⟩ ?_
        refine w_pick [2, 1] rfl ?_
        refine w_ret ?_
        refine ⟨_, _, fun a ha hh => results_mix Try.results25 (rm_cell (cell_agg 0 rfl Try.underlying36 rfl (by kernel_rfl) rfl) (rm_tmp rfl rm_nil)) a ha _ hh, List.sublist_cons_self .., ?_⟩
        exact ⟨_, _, rfl, ⟨_, rfl⟩, .inl ⟨10, rfl, rfl, .inr ⟨o, s, A, B, hAt, .inr ⟨hx, .inl ⟨hxi, rfl⟩⟩⟩⟩⟩
      · skip
        have hxn := rplE_no hy (by omega)
        refine w_skip ?_
        refine w_seq ?_
        refine w_seq ?_
        refine w_reg ?_
        refine wl_f (f_move rfl) ?_
        refine wl_f (f_nilCheck rfl) ?_
        refine wl_f (f_fieldAddr 0 rfl Try.underlying58 rfl rfl (by kernel_rfl)) ?_
        refine wl_f (f_loadB 1 0 rfl rfl rfl Try.underlying3 rfl rfl) ?_
        refine wl_f (f_eql rfl rfl) ?_
        refine wl_end [(0, _), (1, _), (5, _), (6, _), (8, _), (36, _)] ⟨rfl, rfl, rfl, rfl, rfl, rfl, trivial⟩ ?_
        refine w_ifd rfl (fun h => absurd h (by decide)) (fun _ => ?_)
        refine w_seq ?_
        refine w_seq ?_
        refine w_post (fun m' H w' => ∃ bb : Bool, m' = [(0, .pointer (some ⟨q, 0, .none⟩)), (1, .string k), (5, .pointer (some ⟨b0_0, 0, .none⟩)), (6, .pointer (some ⟨b0_1, 0, .none⟩)), (8, .pointer (some ⟨b1_6, 0, .none⟩)), (85, .bool bb)] ∧ H = [blk b1_6 [.string k, .int .u64 (o : Int), .int .u64 (base : Int)] 36, bun (rts q 2 n (A ++ (k, o, s) :: B) LV base sum), blk b0_1 [.string ByteArray.empty, .int .u64 0, .int .u64 0] 36, blk b0_0 [.string x, .int .u64 (xo : Int), .int .u64 (xs : Int)] 36] ∧ (bb = true → xo = 0 ∨ o < xo ∨ base < xs) ∧ ((xo = 0 ∨ o < xo ∨ base < xs) → bb = true)) ?_ ?_
        · by_cases h1 : xo = 0
          · skip
            refine w_draw [(0, true), (1, true), (2, true), (3, true), (4, true), (5, true), (6, true), (7, true), (8, true), (9, true), (10, true), (11, true), (12, true), (13, true), (14, true), (15, true), (16, true), (17, true), (18, true)] (_) ([]) mixed (by kernel_rfl) (by kernel_rfl) rfl (perm_all _) (fun w13_ => ?_)
            refine wd_f rfl (f_fieldAddr 1 rfl Try.underlying36 rfl rfl (by kernel_rfl)) ?_
            refine wd_f rfl (f_loadb 3 rfl Try.underlying33 rfl rfl rfl) ?_
            refine wd_f rfl (f_eqv (v' := .bool true) (f_eql rfl rfl) (by rw [decide_eq_true (by omega)])) ?_
            refine wd_f rfl (f_move rfl) ?_
            refine wd_gs rfl rfl rfl ?_
            refine wd_gs rfl rfl rfl ?_
            refine wd_gs rfl rfl rfl ?_
            refine wd_gs rfl rfl rfl ?_
            refine wd_gs rfl rfl rfl ?_
            refine wd_f rfl (f_pick1 rfl rfl) ?_
            refine wd_f rfl (f_move rfl) ?_
            refine wd_gs rfl rfl rfl ?_
            refine wd_gs rfl rfl rfl ?_
            refine wd_gs rfl rfl rfl ?_
            refine wd_gs rfl rfl rfl ?_
            refine wd_gs rfl rfl rfl ?_
            refine wd_gs rfl rfl rfl ?_
            refine wd_gs rfl rfl rfl ?_
            refine wd_f rfl (f_pick1 rfl rfl) ?_
            refine wd_end [(0, _), (1, _), (5, _), (6, _), (8, _), (85, _)] ⟨rfl, rfl, rfl, rfl, rfl, rfl, trivial⟩ ?_
            exact ⟨true, rfl, rfl, fun _ => .inl h1, fun _ => rfl⟩
          · by_cases h2 : o < xo
            · skip
              refine w_draw [(0, true), (1, true), (2, true), (3, true), (4, true), (5, true), (6, true), (7, true), (8, true), (9, true), (10, true), (11, true), (12, true), (13, true), (14, true), (15, true), (16, true), (17, true), (18, true)] (_) ([]) mixed (by kernel_rfl) (by kernel_rfl) rfl (perm_all _) (fun w13_ => ?_)
              refine wd_f rfl (f_fieldAddr 1 rfl Try.underlying36 rfl rfl (by kernel_rfl)) ?_
              refine wd_f rfl (f_loadb 3 rfl Try.underlying33 rfl rfl rfl) ?_
              refine wd_f rfl (f_eqv (v' := .bool false) (f_eql rfl rfl) (by rw [decide_eq_false (by omega)])) ?_
              refine wd_f rfl (f_move rfl) ?_
              refine wd_gf rfl rfl rfl (f_fieldAddr 1 rfl Try.underlying36 rfl rfl (by kernel_rfl)) ?_
              refine wd_gf rfl rfl rfl (f_loadb 3 rfl Try.underlying33 rfl rfl rfl) ?_
              refine wd_gf rfl rfl rfl (f_fieldAddr 1 rfl Try.underlying36 rfl rfl (by kernel_rfl)) ?_
              refine wd_gf rfl rfl rfl (f_loadb 0 rfl Try.underlying33 rfl rfl rfl) ?_
              refine wd_gf rfl rfl rfl (f_eqv (v' := .bool true) (f_gtr rfl rfl) (by rw [decide_eq_true (by omega)])) ?_
              refine wd_f rfl (f_pick0 rfl rfl) ?_
              refine wd_f rfl (f_move rfl) ?_
              refine wd_gs rfl rfl rfl ?_
              refine wd_gs rfl rfl rfl ?_
              refine wd_gs rfl rfl rfl ?_
              refine wd_gs rfl rfl rfl ?_
              refine wd_gs rfl rfl rfl ?_
              refine wd_gs rfl rfl rfl ?_
              refine wd_gs rfl rfl rfl ?_
              refine wd_f rfl (f_pick1 rfl rfl) ?_
              refine wd_end [(0, _), (1, _), (5, _), (6, _), (8, _), (85, _)] ⟨rfl, rfl, rfl, rfl, rfl, rfl, trivial⟩ ?_
              exact ⟨true, rfl, rfl, fun _ => .inr (.inl h2), fun _ => rfl⟩
            · skip
              refine w_draw [(0, true), (1, true), (2, true), (3, true), (4, true), (5, true), (6, true), (7, true), (8, true), (9, true), (10, true), (11, true), (12, true), (13, true), (14, true), (15, true), (16, true), (17, true), (18, true)] (_) ([]) mixed (by kernel_rfl) (by kernel_rfl) rfl (perm_all _) (fun w13_ => ?_)
              refine wd_f rfl (f_fieldAddr 1 rfl Try.underlying36 rfl rfl (by kernel_rfl)) ?_
              refine wd_f rfl (f_loadb 3 rfl Try.underlying33 rfl rfl rfl) ?_
              refine wd_f rfl (f_eqv (v' := .bool false) (f_eql rfl rfl) (by rw [decide_eq_false (by omega)])) ?_
              refine wd_f rfl (f_move rfl) ?_
              refine wd_gf rfl rfl rfl (f_fieldAddr 1 rfl Try.underlying36 rfl rfl (by kernel_rfl)) ?_
              refine wd_gf rfl rfl rfl (f_loadb 3 rfl Try.underlying33 rfl rfl rfl) ?_
              refine wd_gf rfl rfl rfl (f_fieldAddr 1 rfl Try.underlying36 rfl rfl (by kernel_rfl)) ?_
              refine wd_gf rfl rfl rfl (f_loadb 0 rfl Try.underlying33 rfl rfl rfl) ?_
              refine wd_gf rfl rfl rfl (f_eqv (v' := .bool false) (f_gtr rfl rfl) (by rw [decide_eq_false (by omega)])) ?_
              refine wd_f rfl (f_pick0 rfl rfl) ?_
              refine wd_f rfl (f_move rfl) ?_
              refine wd_gf rfl rfl rfl (f_fieldAddr 2 rfl Try.underlying36 rfl rfl (by kernel_rfl)) ?_
              refine wd_gf rfl rfl rfl (f_loadb 3 rfl Try.underlying33 rfl rfl rfl) ?_
              refine wd_gf rfl rfl rfl (f_move rfl) ?_
              refine wd_gf rfl rfl rfl (f_nilCheck rfl) ?_
              refine wd_gf rfl rfl rfl (f_fieldAddr 3 rfl Try.underlying58 rfl rfl (by kernel_rfl)) ?_
              refine wd_gf rfl rfl rfl (f_loadB 1 0 rfl rfl rfl Try.underlying33 rfl rfl) ?_
              refine wd_gf rfl rfl rfl (f_gtr rfl rfl) ?_
              refine wd_f rfl (f_pick0 rfl rfl) ?_
              refine wd_end [(0, _), (1, _), (5, _), (6, _), (8, _), (85, _)] ⟨rfl, rfl, rfl, rfl, rfl, rfl, trivial⟩ ?_
              exact ⟨_, rfl, rfl, fun h => .inr (.inr (by have := of_decide_eq_true h; omega)), fun h => decide_eq_true (by omega)⟩
        rintro _ _ w13_ ⟨bb, rfl, rfl, hb1, hb2⟩
        refine w_ifb rfl (fun hc5 => ?_) (fun hc5 => ?_)
        · skip
          refine w_seq ?_
          refine w_reg ?_
          refine wl_f (f_build rfl build_entry0) ?_
          (first | refine wl_e0 (e_store0 (us := [_, _, _]) rfl rfl rfl (by kernel_rfl) (by simp [Value.oneCell']) rfl rfl) ?_ | refine wl_e0 (e_store1 (us := [_, _, _]) rfl rfl rfl (by kernel_rfl) (by simp [Value.oneCell']) rfl rfl) ?_ | refine wl_e0 (e_store2 (us := [_, _, _]) rfl rfl rfl (by kernel_rfl) (by simp [Value.oneCell']) rfl rfl) ?_ | refine wl_e0 (e_store3 (us := [_, _, _]) rfl rfl rfl (by kernel_rfl) (by simp [Value.oneCell']) rfl rfl) ?_)
          rintro _ _ w14_1 rfl
          refine wl_f (f_assign rfl) ?_
          refine wl_end [(6, _), (7, _)] ⟨rfl, rfl, trivial⟩ ?_
          refine w_pick [2, 1] rfl ?_
          refine w_ret ?_
          refine ⟨_, _, fun a ha hh => results_mix Try.results25 (rm_cell (cell_agg 0 rfl Try.underlying36 rfl (by kernel_rfl) rfl) (rm_tmp rfl rm_nil)) a ha _ hh, List.sublist_cons_self .., ?_⟩
          exact ⟨_, _, rfl, ⟨_, rfl⟩, .inl ⟨1, rfl, rfl, .inr ⟨o, s, A, B, hAt, .inr ⟨hx, .inr ⟨hxn, hb1 hc5, rfl⟩⟩⟩⟩⟩
        · skip
          have hnb : ¬ (xo = 0 ∨ o < xo ∨ base < xs) := fun h => hc5 (hb2 h)
          refine w_skip ?_
          refine w_reg ?_
          refine wl_f (f_fieldAddr 2 rfl Try.underlying36 rfl rfl (by kernel_rfl)) ?_
          (first | refine wl_e0 (e_store0 (us := [_]) rfl rfl rfl (by kernel_rfl) (by simp [Value.oneCell']) rfl rfl) ?_ | refine wl_e0 (e_store1 (us := [_]) rfl rfl rfl (by kernel_rfl) (by simp [Value.oneCell']) rfl rfl) ?_ | refine wl_e0 (e_store2 (us := [_]) rfl rfl rfl (by kernel_rfl) (by simp [Value.oneCell']) rfl rfl) ?_ | refine wl_e0 (e_store3 (us := [_]) rfl rfl rfl (by kernel_rfl) (by simp [Value.oneCell']) rfl rfl) ?_)
          rintro _ _ w15_1 rfl
          refine wl_end [(0, _), (1, _), (5, _), (6, _), (8, _)] ⟨rfl, rfl, rfl, rfl, rfl, trivial⟩ ?_
          refine w_seq ?_
          refine w_pick [1, 0, 0, 0] rfl ?_
          refine w_with fun hh => ?_
          obtain ⟨g, cap, e⟩ := rowB_form hh (i := 0) (j := 1) rfl rfl (by simp; omega)
          subst e
          clear hh
          refine w_unb [_, _] ?_
          have hAB : (A ++ B).length ≤ 64 := by
            simp only [List.length_append, List.length_cons] at hl ⊢
            omega
          refine w_post (fun m H w' => ∃ (U : Value), m = [(6, .pointer (some ⟨b0_1, 0, .none⟩)), (8, .pointer (some ⟨b1_6, 0, .none⟩))] ∧ H = rts q 2 n (A ++ B ++ [(x, xo, 0)]) U base sum ++ [blk b1_6 [.string k, .int .u64 (o : Int), .int .u64 (base : Int)] 36, blk b0_1 [.string ByteArray.empty, .int .u64 0, .int .u64 0] 36]) ?_ ?_
          · skip
            refine w_drawx (.fl 0 (.fl 1 (.fl 2 (.fl 3 (.fl 4 (.fl 5 (.fl 6 (.fl 7 (.fl 8 (.fl 9 (.fl 12 (.two 10 (.two 11 (.ef 13 (.ef 14 (.fl 15 (.fl 16 (.ef 17 .done))))) 13 (.ef 11 (.ef 14 (.fl 15 (.fl 16 (.ef 17 .done)))))) 13 (.ef 10 (.ef 11 (.ef 14 (.fl 15 (.fl 16 (.ef 17 .done)))))))))))))))))) ([(_, some 17), (_, none), (_, none), (_, none), (_, none)]) ([]) mixed (by kernel_rfl) (by kernel_rfl) rfl rfl (List.Perm.refl _) (fun w16_ => ?_)
            refine wx_f rfl (f_move rfl) ?_
            refine wx_f rfl (f_move rfl) ?_
            refine wx_f rfl (f_nilCheck rfl) ?_
            refine wx_f rfl (f_fieldAddr 2 rfl Try.underlying58 rfl rfl (by kernel_rfl)) ?_
            (first | refine wx_f rfl (f_loadb 0 rfl Try.underlying40 rfl rfl rfl) ?_ | refine wx_f rfl (f_loadb 1 rfl Try.underlying40 rfl rfl rfl) ?_ | refine wx_f rfl (f_loadb 2 rfl Try.underlying40 rfl rfl rfl) ?_ | refine wx_f rfl (f_loadb 3 rfl Try.underlying40 rfl rfl rfl) ?_ | refine wx_f rfl (f_loadb 4 rfl Try.underlying40 rfl rfl rfl) ?_ | refine wx_f rfl (f_loadb 5 rfl Try.underlying40 rfl rfl rfl) ?_ | refine wx_f rfl (f_loadb 6 rfl Try.underlying40 rfl rfl rfl) ?_)
            refine wx_f rfl (f_move rfl) ?_
            refine wx_f rfl (f_nilCheck rfl) ?_
            refine wx_f rfl (f_fieldAddr 2 rfl Try.underlying58 rfl rfl (by kernel_rfl)) ?_
            (first | refine wx_f rfl (f_loadb 0 rfl Try.underlying40 rfl rfl rfl) ?_ | refine wx_f rfl (f_loadb 1 rfl Try.underlying40 rfl rfl rfl) ?_ | refine wx_f rfl (f_loadb 2 rfl Try.underlying40 rfl rfl rfl) ?_ | refine wx_f rfl (f_loadb 3 rfl Try.underlying40 rfl rfl rfl) ?_ | refine wx_f rfl (f_loadb 4 rfl Try.underlying40 rfl rfl rfl) ?_ | refine wx_f rfl (f_loadb 5 rfl Try.underlying40 rfl rfl rfl) ?_ | refine wx_f rfl (f_loadb 6 rfl Try.underlying40 rfl rfl rfl) ?_)
            refine wx_f rfl (f_move rfl) ?_
            (first | refine wx_f rfl (f_loadsb (cs := [_, _, _]) 0 rfl Try.underlying36 rfl (by kernel_rfl) rfl rfl) ?_ | refine wx_f rfl (f_loadsb (cs := [_, _, _]) 1 rfl Try.underlying36 rfl (by kernel_rfl) rfl rfl) ?_ | refine wx_f rfl (f_loadsb (cs := [_, _, _]) 2 rfl Try.underlying36 rfl (by kernel_rfl) rfl rfl) ?_ | refine wx_f rfl (f_loadsb (cs := [_, _, _]) 3 rfl Try.underlying36 rfl (by kernel_rfl) rfl rfl) ?_ | refine wx_f rfl (f_loadsb (cs := [_, _, _]) 4 rfl Try.underlying36 rfl (by kernel_rfl) rfl rfl) ?_ | refine wx_f rfl (f_loadsb (cs := [_, _, _]) 5 rfl Try.underlying36 rfl (by kernel_rfl) rfl rfl) ?_ | refine wx_f rfl (f_loadsb (cs := [_, _, _]) 6 rfl Try.underlying36 rfl (by kernel_rfl) rfl rfl) ?_)
            refine wx_two ?_ ?_
            · skip
              refine ks_e rfl (e_call0 rfl Try.func41 (by kernel_rfl) (fun w hh => rplace_spec _ _ k w (Rd.held0 hh (i := 1) rfl) (by omega))) ?_
              rintro _ _ w16_10 ⟨_, rfl, rfl, y2, rfl, hy2⟩
              obtain rfl : y2 = (A.length : Nat) := rplE_uniq hA hy2
              refine ⟨_, List.Perm.refl _, ?_⟩
              refine wx_two ?_ ?_
              · skip
                refine ks_e rfl (e_call0 rfl Try.func42 (by kernel_rfl) (fun w hh => rwithout_spec _ _ A B (k, o, s) w (Rd.held0 hh (i := 1) rfl) (by omega))) ?_
                rintro _ _ w16_11 ⟨_, rfl, U1, a1, rfl, rfl⟩
                refine ⟨_, List.perm_append_comm_assoc _ _ _, ?_⟩
                refine wx_ef ?_
                refine ks_e rfl (e_lit1 (cs := [_, _, _]) t40 rfl rfl rfl (by omega)) ?_
                rintro _ _ w16_13 ⟨b16_13, rfl, rfl⟩
                refine ⟨_, List.perm_middle.symm, ?_⟩
                refine wx_ef ?_
                refine ks_e rfl (e_appN 6 t40 rfl rfl rfl (fun w hh => Rd.held0 hh (i := 5) rfl) (by simp [Value.oneCell']) (by omega) (by omega)) ?_
                rintro _ _ w16_14 ⟨⟨U2, a2, rfl⟩, rfl⟩
                refine ⟨_, List.Perm.refl _, ?_⟩
                refine wx_f rfl (f_nilCheck rfl) ?_
                refine wx_f rfl (f_fieldAddr 2 rfl Try.underlying58 rfl rfl (by kernel_rfl)) ?_
                refine wx_ef ?_
                refine ks_e0 rfl (e_storeN 0 (us := [_]) rfl rfl rfl rfl (by kernel_rfl) (by simp [Value.oneCell']) rfl rfl) ?_
                rintro _ _ w16_17 rfl
                refine ⟨_, pick_perm [1, 1, 1, 1] _ rfl, ?_⟩
                refine wx_endp [(6, _), (8, _)] [4, 5, 1, 1] ⟨rfl, rfl, trivial⟩ rfl ?_
                refine ⟨.slice U2 ((A ++ B).length + 1) a2, rfl, ?_⟩
                rw [rts, encs_snoc, List.length_append (bs := [(x, xo, 0)])]
                rfl
              · skip
                refine ks_e rfl (e_lit1 (cs := [_, _, _]) t40 rfl rfl rfl (by omega)) ?_
                rintro _ _ w16_13 ⟨b16_13, rfl, rfl⟩
                refine ⟨_, List.perm_middle.symm, ?_⟩
                refine wx_ef ?_
                refine ks_e rfl (e_call0 rfl Try.func42 (by kernel_rfl) (fun w hh => rwithout_spec _ _ A B (k, o, s) w (Rd.held0 hh (i := 1) rfl) (by omega))) ?_
                rintro _ _ w16_11 ⟨_, rfl, U1, a1, rfl, rfl⟩
                refine ⟨_, List.perm_append_comm_assoc _ _ _, ?_⟩
                refine wx_ef ?_
                refine ks_e rfl (e_appN 5 t40 rfl rfl rfl (fun w hh => Rd.held0 hh (i := 6) rfl) (by simp [Value.oneCell']) (by omega) (by omega)) ?_
                rintro _ _ w16_14 ⟨⟨U2, a2, rfl⟩, rfl⟩
                refine ⟨_, List.Perm.refl _, ?_⟩
                refine wx_f rfl (f_nilCheck rfl) ?_
                refine wx_f rfl (f_fieldAddr 2 rfl Try.underlying58 rfl rfl (by kernel_rfl)) ?_
                refine wx_ef ?_
                refine ks_e0 rfl (e_storeN 0 (us := [_]) rfl rfl rfl rfl (by kernel_rfl) (by simp [Value.oneCell']) rfl rfl) ?_
                rintro _ _ w16_17 rfl
                refine ⟨_, pick_perm [1, 1, 1, 1] _ rfl, ?_⟩
                refine wx_endp [(6, _), (8, _)] [4, 4, 1, 1] ⟨rfl, rfl, trivial⟩ rfl ?_
                refine ⟨.slice U2 ((A ++ B).length + 1) a2, rfl, ?_⟩
                rw [rts, encs_snoc, List.length_append (bs := [(x, xo, 0)])]
                rfl
            · skip
              refine ks_e rfl (e_lit1 (cs := [_, _, _]) t40 rfl rfl rfl (by omega)) ?_
              rintro _ _ w16_13 ⟨b16_13, rfl, rfl⟩
              refine ⟨_, List.perm_middle.symm, ?_⟩
              refine wx_ef ?_
              refine ks_e rfl (e_call0 rfl Try.func41 (by kernel_rfl) (fun w hh => rplace_spec _ _ k w (Rd.held0 hh (i := 1) rfl) (by omega))) ?_
              rintro _ _ w16_10 ⟨_, rfl, rfl, y2, rfl, hy2⟩
              obtain rfl : y2 = (A.length : Nat) := rplE_uniq hA hy2
              refine ⟨_, List.Perm.refl _, ?_⟩
              refine wx_ef ?_
              refine ks_e rfl (e_call0 rfl Try.func42 (by kernel_rfl) (fun w hh => rwithout_spec _ _ A B (k, o, s) w (Rd.held0 hh (i := 1) rfl) (by omega))) ?_
              rintro _ _ w16_11 ⟨_, rfl, U1, a1, rfl, rfl⟩
              refine ⟨_, List.perm_append_comm_assoc _ _ _, ?_⟩
              refine wx_ef ?_
              refine ks_e rfl (e_appN 5 t40 rfl rfl rfl (fun w hh => Rd.held0 hh (i := 6) rfl) (by simp [Value.oneCell']) (by omega) (by omega)) ?_
              rintro _ _ w16_14 ⟨⟨U2, a2, rfl⟩, rfl⟩
              refine ⟨_, List.Perm.refl _, ?_⟩
              refine wx_f rfl (f_nilCheck rfl) ?_
              refine wx_f rfl (f_fieldAddr 2 rfl Try.underlying58 rfl rfl (by kernel_rfl)) ?_
              refine wx_ef ?_
              refine ks_e0 rfl (e_storeN 0 (us := [_]) rfl rfl rfl rfl (by kernel_rfl) (by simp [Value.oneCell']) rfl rfl) ?_
              rintro _ _ w16_17 rfl
              refine ⟨_, pick_perm [1, 1, 1, 1] _ rfl, ?_⟩
              refine wx_endp [(6, _), (8, _)] [4, 4, 1, 1] ⟨rfl, rfl, trivial⟩ rfl ?_
              refine ⟨.slice U2 ((A ++ B).length + 1) a2, rfl, ?_⟩
              rw [rts, encs_snoc, List.length_append (bs := [(x, xo, 0)])]
              rfl
          rintro _ _ w16_ ⟨U, rfl, rfl⟩
          refine w_seq ?_
          refine w_reg ?_
          (first | refine wl_f (f_loadsb (cs := [_, _, _]) 0 rfl Try.underlying36 rfl (by kernel_rfl) rfl rfl) ?_ | refine wl_f (f_loadsb (cs := [_, _, _]) 1 rfl Try.underlying36 rfl (by kernel_rfl) rfl rfl) ?_ | refine wl_f (f_loadsb (cs := [_, _, _]) 2 rfl Try.underlying36 rfl (by kernel_rfl) rfl rfl) ?_ | refine wl_f (f_loadsb (cs := [_, _, _]) 3 rfl Try.underlying36 rfl (by kernel_rfl) rfl rfl) ?_ | refine wl_f (f_loadsb (cs := [_, _, _]) 4 rfl Try.underlying36 rfl (by kernel_rfl) rfl rfl) ?_ | refine wl_f (f_loadsb (cs := [_, _, _]) 5 rfl Try.underlying36 rfl (by kernel_rfl) rfl rfl) ?_ | refine wl_f (f_loadsb (cs := [_, _, _]) 6 rfl Try.underlying36 rfl (by kernel_rfl) rfl rfl) ?_)
          (first | refine wl_e0 (e_store0 (us := [_, _, _]) rfl rfl rfl (by kernel_rfl) (by simp [Value.oneCell']) rfl rfl) ?_ | refine wl_e0 (e_store1 (us := [_, _, _]) rfl rfl rfl (by kernel_rfl) (by simp [Value.oneCell']) rfl rfl) ?_ | refine wl_e0 (e_store2 (us := [_, _, _]) rfl rfl rfl (by kernel_rfl) (by simp [Value.oneCell']) rfl rfl) ?_ | refine wl_e0 (e_store3 (us := [_, _, _]) rfl rfl rfl (by kernel_rfl) (by simp [Value.oneCell']) rfl rfl) ?_)
          rintro _ _ w17_1 rfl
          refine wl_f (f_assign rfl) ?_
          refine wl_end [(6, _), (7, _)] ⟨rfl, rfl, trivial⟩ ?_
          refine w_bun (H := [_, _]) [_, _] ?_
          refine w_pick [2, 0] rfl ?_
          refine w_ret ?_
          refine ⟨_, _, fun a ha hh => results_mix Try.results25 (rm_cell (cell_agg 0 rfl Try.underlying36 rfl (by kernel_rfl) rfl) (rm_tmp rfl rm_nil)) a ha _ hh, List.sublist_cons_self .., ?_⟩
          exact ⟨_, _, rfl, ⟨_, rfl⟩, .inr ⟨o, s, A, B, hAt, hx, hxn, hnb, rfl, rfl⟩⟩
end Go.Proofs.Ytkoklfagmbaapaa
