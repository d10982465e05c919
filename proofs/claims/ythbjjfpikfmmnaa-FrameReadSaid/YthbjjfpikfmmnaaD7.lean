/- The deck's events. -/
import Derived.Test.YthbjjfpikfmmnaaD6
import Derived.Test.YthbjjfpikfmmnaaK5
namespace Go.Proofs.Ythbjjfpikfmmnaa
open Go.RowKit

def smallish (tags : List Tg) : Prop := tags.length ≤ 3 ∧ ∀ t ∈ tags, t.1.size ≤ 20 ∧ t.2.size ≤ 70

theorem new_spec (A : Option Addr) (l c : Nat) (w : World) : Spec Try.prog 10 [.slice A l c] w Nil fun r H => ∃ b, r = .pointer (some ⟨b, 0, .none⟩) ∧ H = [deck b (.slice A l c) 0] := by
  refine enter (n := 6) Try.func10 rfl rfl [(0, _)] rfl ⟨rfl, trivial⟩ (Holds.start _ _) ?_
  refine w_seq ?_
  refine w_reg ?_
  refine wl_f (f_assign rfl) ?_
  refine wl_end [(0, _)] ⟨rfl, trivial⟩ ?_
  refine w_seq ?_
  refine w_reg ?_
  refine wl_f (f_move rfl) ?_
  refine wl_f (f_build (us := [(0, .slice A l c)]) (v := .agg [.slice A l c, .int .i64 0].toArray) rfl (fun w => by kernel_rfl)) ?_
  refine wl_e (e_box (cs := [_, _]) rfl rfl) ?_
  rintro _ _ w1_2 ⟨b1_2, rfl, rfl⟩
  refine wl_f (f_assign rfl) ?_
  refine wl_end [(2, _)] ⟨rfl, trivial⟩ ?_
  refine w_ret ?_
  refine ⟨_, _, fun a ha hh => results_tmps Try.results10 rfl a ha _, List.Sublist.refl _, ?_⟩
  exact ⟨_, rfl, rfl⟩

set_option maxHeartbeats 1000000 in
theorem event_spec (b : Nat) (lv : Value) (L : List Int) (p : Nat) (t : Int) (w : World) (hd : DRd w b lv L p) (hs : Holds w (deck b lv p).foot [deck b lv p] w) :
    Spec Try.prog 25 [.pointer (some ⟨b, 0, .none⟩), .int .i64 t] w (deck b lv p).foot fun r H => ∃ (sl : Value) (tags : List Tg) (wt p' : Nat), r = .agg #[sl, .int .i64 t, .int .u64 wt] ∧
      smallish tags ∧ wt < 18446744073709551616 ∧ H = [row sl 52 2 tags.length (tcells tags), deck b lv p'] ∧ p' ≤ L.length := by
  refine enter (n := 56) Try.func25 rfl rfl [(0, _), (1, _)] rfl ⟨rfl, rfl, trivial⟩ hs ?_
  refine w_seq ?_
  refine w_reg ?_
  refine wl_e (e_allocs [.slice .none 0 0, .int .i64 0, .int .u64 0] (by kernel_rfl)) ?_
  rintro _ _ w0_0 ⟨b0_0, rfl, rfl⟩
  refine wl_end [(0, _), (1, _), (4, _)] ⟨rfl, rfl, rfl, trivial⟩ ?_
  refine w_seq ?_
  refine w_reg ?_
  refine wl_f (f_move rfl) ?_
  refine wl_e (e_call1 (deck b lv p) [_] rfl Try.func36 (by kernel_rfl) (List.Perm.swap ..) (fun w hh hs' => tags_spec b lv L p w ⟨hd.1.old1 hh (List.Perm.swap ..), hd.2⟩ hs')) ?_
  rintro v1 _ w1 ⟨_, rfl, tags, p1, hsm, hl2, rfl, hp1⟩
  refine wl_f (f_move rfl) ?_
  refine wl_f (f_move rfl) ?_
  refine wl_e (e_call1 (deck b lv p1) [_, _] rfl Try.func37 (by kernel_rfl) (List.Perm.swap ..) (fun w hh hs' => small_spec b lv L p1 w ⟨hd.1.old1 hh (List.Perm.swap ..), hd.2.1, hp1⟩ hs')) ?_
  rintro _ _ w2 ⟨_, rfl, wt, p2, rfl, h1w, h2w, rfl, hp2⟩
  obtain ⟨hn1, hn2, hn3⟩ := hsm
  obtain ⟨tg, rest, rfl⟩ : ∃ tg rest, tags = tg :: rest := List.exists_cons_of_length_pos hn1
  have hr2 : rest.length ≤ 1 := by simp only [List.length_cons] at hl2; omega
  have ht3 := hn3 tg (List.mem_cons_self ..)
  have hr3 : ∀ t ∈ rest, t.1.size ≤ 20 ∧ t.2.size ≤ 70 := fun t h => hn3 t (List.mem_cons_of_mem _ h)
  have hc2 := tcells_len (tg :: rest)
  refine wl_with fun hh => ?_
  obtain ⟨g, cap, rfl⟩ := row_form hh (i := 1) rfl (show 0 < (tg :: rest).length from hn1)
  clear hh
  refine wl_f (f_build rfl (fun w => build_ev _ _ _ _ _ w)) ?_
  refine wl_e (e_allocs [.slice .none 0 0, .int .i64 0, .int .u64 0] (by kernel_rfl)) ?_
  rintro _ _ w1_6 ⟨b1_6, rfl, rfl⟩
  (first | refine wl_e0 (e_store0 (us := [_, _, _]) rfl rfl rfl (by kernel_rfl) (by simp [Value.oneCell']) rfl rfl) ?_ | refine wl_e0 (e_store1 (us := [_, _, _]) rfl rfl rfl (by kernel_rfl) (by simp [Value.oneCell']) rfl rfl) ?_ | refine wl_e0 (e_store2 (us := [_, _, _]) rfl rfl rfl (by kernel_rfl) (by simp [Value.oneCell']) rfl rfl) ?_ | refine wl_e0 (e_store3 (us := [_, _, _]) rfl rfl rfl (by kernel_rfl) (by simp [Value.oneCell']) rfl rfl) ?_)
  rintro _ _ w1_7 rfl
  refine wl_end [(0, _), (4, _), (5, _)] ⟨rfl, rfl, rfl, trivial⟩ ?_
  refine w_seq ?_
  refine w_seq ?_
  refine w_reg ?_
  refine wl_f (f_move rfl) ?_
  refine wl_e (e_call1 (deck b lv p2) [_, _, _] rfl Try.func24 (by kernel_rfl) (List.Perm.swap ..) (fun w hh hs' => next_spec b lv L p2 24 w ⟨hd.1.old1 hh (List.Perm.swap ..), hd.2.1, hp2⟩ hs' (by omega))) ?_
  rintro _ _ w3 ⟨_, rfl, z, p3, rfl, hz, rfl, hp3⟩
  refine wl_end [(0, _), (4, _), (5, _), (13, _)] ⟨rfl, rfl, rfl, rfl, trivial⟩ ?_
  refine w_post (fun m H w => ∃ (sl : Value) (tags : List Tg) (wt p' : Nat), m = [(4, .pointer (some ⟨b0_0, 0, .none⟩)), (5, .pointer (some ⟨b1_6, 0, .none⟩))] ∧
  H = [deck b lv p', blk b1_6 [sl, .int .i64 t, .int .u64 wt] 40, row sl 52 2 tags.length (tcells tags), blk b0_0 [.slice .none 0 0, .int .i64 0, .int .u64 0] 40] ∧
  smallish tags ∧ wt < 18446744073709551616 ∧ p' ≤ L.length) ?_ ?_
  · skip
    refine w_block ?_
    refine w_seq ?_
    refine w_reg ?_
    refine wl_f (f_eql rfl rfl) ?_
    refine wl_f (f_assign rfl) ?_
    refine wl_end [(0, _), (4, _), (5, _), (13, _), (14, _)] ⟨rfl, rfl, rfl, rfl, rfl, trivial⟩ ?_
    refine w_ifd rfl (fun hc1 => ?_) (fun hc1 => ?_)
    · skip
      refine w_reg ?_
      refine wl_f (f_move rfl) ?_
      refine wl_e (e_call1 (deck b lv p3) [_, _, _] rfl Try.func38 (by kernel_rfl) (List.Perm.refl _) (fun w hh hs' => weight_spec b lv L p3 w ⟨hd.1.old1 hh (Hr := [_, _, _]) (List.Perm.refl _), hd.2.1, hp3⟩ hs')) ?_
      rintro _ _ w4 ⟨_, rfl, wt', p4, rfl, hwt', rfl, hp4⟩
      refine wl_f (f_fieldAddr 2 rfl Try.underlying40 rfl rfl (by kernel_rfl)) ?_
      (first | refine wl_e0 (e_store0 (us := [_]) rfl rfl rfl (by kernel_rfl) (by simp [Value.oneCell']) rfl rfl) ?_ | refine wl_e0 (e_store1 (us := [_]) rfl rfl rfl (by kernel_rfl) (by simp [Value.oneCell']) rfl rfl) ?_ | refine wl_e0 (e_store2 (us := [_]) rfl rfl rfl (by kernel_rfl) (by simp [Value.oneCell']) rfl rfl) ?_ | refine wl_e0 (e_store3 (us := [_]) rfl rfl rfl (by kernel_rfl) (by simp [Value.oneCell']) rfl rfl) ?_)
      rintro _ _ w4_3 rfl
      refine wl_end [(4, _), (5, _)] ⟨rfl, rfl, trivial⟩ ?_
      exact ⟨_, tg :: rest, wt', p4, rfl, rfl, ⟨hn2, hn3⟩, hwt', hp4⟩
    · skip
      refine w_seq ?_
      refine w_reg ?_
      refine wl_f (f_eql rfl rfl) ?_
      refine wl_f (f_assign rfl) ?_
      refine wl_end [(0, _), (4, _), (5, _), (13, _), (19, _)] ⟨rfl, rfl, rfl, rfl, rfl, trivial⟩ ?_
      refine w_ifd rfl (fun hc2 => ?_) (fun hc2 => ?_)
      · skip
        refine w_drawk [(0, true), (1, true), (2, true), (3, true), (4, true), (5, true), (6, false), (7, false), (8, true), (9, false)] ([(_, some 9), (_, some 7)]) ([_, _]) mixed (by kernel_rfl) (by kernel_rfl) rfl rfl (List.perm_append_comm_assoc [_] [_, _] [_]) (fun w6_ => ?_)
        refine wk_f rfl (f_fieldAddr 0 rfl Try.underlying40 rfl rfl (by kernel_rfl)) ?_
        (first | refine wk_f rfl (f_loadb 0 rfl Try.underlying37 rfl rfl rfl) ?_ | refine wk_f rfl (f_loadb 1 rfl Try.underlying37 rfl rfl rfl) ?_ | refine wk_f rfl (f_loadb 2 rfl Try.underlying37 rfl rfl rfl) ?_ | refine wk_f rfl (f_loadb 3 rfl Try.underlying37 rfl rfl rfl) ?_ | refine wk_f rfl (f_loadb 4 rfl Try.underlying37 rfl rfl rfl) ?_ | refine wk_f rfl (f_loadb 5 rfl Try.underlying37 rfl rfl rfl) ?_ | refine wk_f rfl (f_loadb 6 rfl Try.underlying37 rfl rfl rfl) ?_)
        refine wk_f rfl (f_fieldAddr 0 rfl Try.underlying40 rfl rfl (by kernel_rfl)) ?_
        (first | refine wk_f rfl (f_loadb 0 rfl Try.underlying37 rfl rfl rfl) ?_ | refine wk_f rfl (f_loadb 1 rfl Try.underlying37 rfl rfl rfl) ?_ | refine wk_f rfl (f_loadb 2 rfl Try.underlying37 rfl rfl rfl) ?_ | refine wk_f rfl (f_loadb 3 rfl Try.underlying37 rfl rfl rfl) ?_ | refine wk_f rfl (f_loadb 4 rfl Try.underlying37 rfl rfl rfl) ?_ | refine wk_f rfl (f_loadb 5 rfl Try.underlying37 rfl rfl rfl) ?_ | refine wk_f rfl (f_loadb 6 rfl Try.underlying37 rfl rfl rfl) ?_)
        refine wk_f rfl (f_indexAddr 2 rfl rfl Try.underlying37 (by kernel_rfl) rfl (by simp)) ?_
        refine wk_f rfl (f_loadsr (cs := [.string tg.1, .string tg.2]) 1 rfl Try.underlying52 rfl (by kernel_rfl) rfl rfl) ?_
        refine wk_e rfl (e_lit1 (cs := [_, _]) t37 rfl rfl rfl (by omega)) ?_
        rintro _ _ w6_6 ⟨b6_6, rfl, rfl⟩
        refine ⟨_, List.perm_middle.symm, ?_⟩
        refine wk_e rfl (e_appS1 t37 rfl rfl (fun w hh => Rd.held0 hh (i := 2) rfl) (by simp [Value.oneCell']) (by simp; omega) (by simp; omega)) ?_
        rintro _ _ w6 ⟨⟨A6, cap6, rfl⟩, rfl⟩
        refine ⟨_, List.Perm.refl _, ?_⟩
        refine wk_f rfl (f_fieldAddr 0 rfl Try.underlying40 rfl rfl (by kernel_rfl)) ?_
        (first | refine wk_e0 rfl (e_store0 (us := [_]) rfl rfl rfl (by kernel_rfl) (by simp [Value.oneCell']) rfl rfl) ?_ | refine wk_e0 rfl (e_store1 (us := [_]) rfl rfl rfl (by kernel_rfl) (by simp [Value.oneCell']) rfl rfl) ?_ | refine wk_e0 rfl (e_store2 (us := [_]) rfl rfl rfl (by kernel_rfl) (by simp [Value.oneCell']) rfl rfl) ?_ | refine wk_e0 rfl (e_store3 (us := [_]) rfl rfl rfl (by kernel_rfl) (by simp [Value.oneCell']) rfl rfl) ?_)
        rintro _ _ w6_9 rfl
        refine ⟨_, List.Perm.refl _, ?_⟩
        refine wk_endp [(4, _), (5, _)] [3, 0, 0, 1] ⟨rfl, rfl, trivial⟩ rfl ?_
        refine ⟨.slice A6 (rest.length + 1 + 1) cap6, (tg :: rest) ++ [tg], wt, p3, rfl, by simp [tcells], ⟨by simp; omega, ?_⟩, by omega, hp3⟩
        simp only [List.mem_append, List.mem_singleton]
        rintro x (hx | rfl)
        · exact hn3 x hx
        · exact ht3
      · skip
        refine w_seq ?_
        refine w_reg ?_
        refine wl_f (f_eql rfl rfl) ?_
        refine wl_f (f_assign rfl) ?_
        refine wl_end [(0, _), (4, _), (5, _), (13, _), (30, _)] ⟨rfl, rfl, rfl, rfl, rfl, trivial⟩ ?_
        refine w_ifd rfl (fun hc3 => ?_) (fun hc3 => ?_)
        · skip
          refine w_reg ?_
          refine wl_f (f_fieldAddr 0 rfl Try.underlying40 rfl rfl (by kernel_rfl)) ?_
          (first | refine wl_f (f_loadb 0 rfl Try.underlying37 rfl rfl rfl) ?_ | refine wl_f (f_loadb 1 rfl Try.underlying37 rfl rfl rfl) ?_ | refine wl_f (f_loadb 2 rfl Try.underlying37 rfl rfl rfl) ?_ | refine wl_f (f_loadb 3 rfl Try.underlying37 rfl rfl rfl) ?_ | refine wl_f (f_loadb 4 rfl Try.underlying37 rfl rfl rfl) ?_ | refine wl_f (f_loadb 5 rfl Try.underlying37 rfl rfl rfl) ?_ | refine wl_f (f_loadb 6 rfl Try.underlying37 rfl rfl rfl) ?_)
          refine wl_f (f_indexAddr 2 rfl rfl Try.underlying37 (by kernel_rfl) rfl (by simp)) ?_
          refine wl_f (f_fieldAddr 0 rfl Try.underlying52 rfl rfl (by kernel_rfl)) ?_
          refine wl_e0 (e_storer2 (us := [_]) (xs' := tcells ((⟨#[75]⟩, tg.2) :: rest)) rfl rfl rfl (by kernel_rfl) (by simp [Value.oneCell']) (by simp only [List.length_cons, List.length_nil] at hc2 ⊢; omega) rfl) ?_
          rintro _ _ w8_4 rfl
          refine wl_end [(4, _), (5, _)] ⟨rfl, rfl, trivial⟩ ?_
          refine ⟨_, (⟨#[75]⟩, tg.2) :: rest, wt, p3, rfl, rfl, ⟨hn2, ?_⟩, by omega, hp3⟩
          intro x hx
          rcases List.mem_cons.1 hx with rfl | hx
          · exact ⟨by show (ByteArray.mk #[75]).size ≤ 20; decide, ht3.2⟩
          · exact hr3 x hx
        · skip
          refine w_seq ?_
          refine w_reg ?_
          refine wl_f (f_eql rfl rfl) ?_
          refine wl_f (f_assign rfl) ?_
          refine wl_end [(0, _), (4, _), (5, _), (13, _), (36, _)] ⟨rfl, rfl, rfl, rfl, rfl, trivial⟩ ?_
          refine w_ifd rfl (fun hc4 => ?_) (fun hc4 => ?_)
          · skip
            refine w_reg ?_
            refine wl_f (f_fieldAddr 2 rfl Try.underlying40 rfl rfl (by kernel_rfl)) ?_
            (first | refine wl_e0 (e_store0 (us := [_]) rfl rfl rfl (by kernel_rfl) (by simp [Value.oneCell']) rfl rfl) ?_ | refine wl_e0 (e_store1 (us := [_]) rfl rfl rfl (by kernel_rfl) (by simp [Value.oneCell']) rfl rfl) ?_ | refine wl_e0 (e_store2 (us := [_]) rfl rfl rfl (by kernel_rfl) (by simp [Value.oneCell']) rfl rfl) ?_ | refine wl_e0 (e_store3 (us := [_]) rfl rfl rfl (by kernel_rfl) (by simp [Value.oneCell']) rfl rfl) ?_)
            rintro _ _ w10_1 rfl
            refine wl_end [(4, _), (5, _)] ⟨rfl, rfl, trivial⟩ ?_
            exact ⟨_, tg :: rest, 0, p3, rfl, rfl, ⟨hn2, hn3⟩, by omega, hp3⟩
          · skip
            refine w_seq ?_
            refine w_reg ?_
            refine wl_f (f_eql rfl rfl) ?_
            refine wl_f (f_assign rfl) ?_
            refine wl_end [(0, _), (4, _), (5, _), (13, _), (39, _)] ⟨rfl, rfl, rfl, rfl, rfl, trivial⟩ ?_
            refine w_ifd rfl (fun hc5 => ?_) (fun hc5 => ?_)
            · skip
              refine w_reg ?_
              refine wl_f (f_fieldAddr 0 rfl Try.underlying40 rfl rfl (by kernel_rfl)) ?_
              (first | refine wl_e0 (e_store0 (us := [_]) rfl rfl rfl (by kernel_rfl) (by simp [Value.oneCell']) rfl rfl) ?_ | refine wl_e0 (e_store1 (us := [_]) rfl rfl rfl (by kernel_rfl) (by simp [Value.oneCell']) rfl rfl) ?_ | refine wl_e0 (e_store2 (us := [_]) rfl rfl rfl (by kernel_rfl) (by simp [Value.oneCell']) rfl rfl) ?_ | refine wl_e0 (e_store3 (us := [_]) rfl rfl rfl (by kernel_rfl) (by simp [Value.oneCell']) rfl rfl) ?_)
              rintro _ _ w12_1 rfl
              refine wl_nilrow 52 2 (wl_pick [1, 1, 0, 1] rfl ?_)
              refine wl_end [(4, _), (5, _)] ⟨rfl, rfl, trivial⟩ ?_
              exact ⟨_, [], wt, p3, rfl, rfl, ⟨by simp, by simp⟩, by omega, hp3⟩
            · skip
              refine w_seq ?_
              refine w_reg ?_
              refine wl_f (f_eql rfl rfl) ?_
              refine wl_f (f_assign rfl) ?_
              refine wl_end [(0, _), (4, _), (5, _), (13, _), (42, _)] ⟨rfl, rfl, rfl, rfl, rfl, trivial⟩ ?_
              refine w_ifd rfl (fun hc6 => ?_) (fun hc6 => ?_)
              · skip
                refine w_reg ?_
                refine wl_f (f_fieldAddr 0 rfl Try.underlying40 rfl rfl (by kernel_rfl)) ?_
                (first | refine wl_f (f_loadb 0 rfl Try.underlying37 rfl rfl rfl) ?_ | refine wl_f (f_loadb 1 rfl Try.underlying37 rfl rfl rfl) ?_ | refine wl_f (f_loadb 2 rfl Try.underlying37 rfl rfl rfl) ?_ | refine wl_f (f_loadb 3 rfl Try.underlying37 rfl rfl rfl) ?_ | refine wl_f (f_loadb 4 rfl Try.underlying37 rfl rfl rfl) ?_ | refine wl_f (f_loadb 5 rfl Try.underlying37 rfl rfl rfl) ?_ | refine wl_f (f_loadb 6 rfl Try.underlying37 rfl rfl rfl) ?_)
                refine wl_f (f_indexAddr 2 rfl rfl Try.underlying37 (by kernel_rfl) rfl (by simp)) ?_
                refine wl_f (f_fieldAddr 1 rfl Try.underlying52 rfl rfl (by kernel_rfl)) ?_
                refine wl_e0 (e_storer2 (us := [_]) (xs' := tcells ((tg.1, ⟨([48, 49, 50, 51, 52, 53, 54, 55, 56, 57, 48, 49, 50, 51, 52, 53, 54, 55, 56, 57, 48, 49, 50, 51, 52, 53, 54, 55, 56, 57, 48, 49, 50, 51, 52].append [53, 54, 55, 56, 57, 48, 49, 50, 51, 52, 53, 54, 55, 56, 57, 48, 49, 50, 51, 52, 53, 54, 55, 56, 57, 48, 49, 50, 51, 52, 53, 54, 55, 56, 57]).toArray⟩) :: rest)) rfl rfl rfl (by kernel_rfl) (by simp [Value.oneCell']) (by simp only [List.length_cons, List.length_nil] at hc2 ⊢; omega) rfl) ?_
                rintro _ _ w14_4 rfl
                refine wl_end [(4, _), (5, _)] ⟨rfl, rfl, trivial⟩ ?_
                refine ⟨_, _ :: rest, wt, p3, rfl, rfl, ⟨hn2, ?_⟩, by omega, hp3⟩
                intro x hx
                rcases List.mem_cons.1 hx with rfl | hx
                · exact ⟨ht3.1, by show (70 : Nat) ≤ 70; omega⟩
                · exact hr3 x hx
              · skip
                refine w_seq ?_
                refine w_reg ?_
                refine wl_f (f_eql rfl rfl) ?_
                refine wl_f (f_assign rfl) ?_
                refine wl_end [(0, _), (4, _), (5, _), (48, _)] ⟨rfl, rfl, rfl, rfl, trivial⟩ ?_
                refine w_ifd rfl (fun hc7 => ?_) (fun hc7 => ?_)
                · skip
                  refine w_reg ?_
                  refine wl_f (f_move rfl) ?_
                  refine wl_e (e_call1 (deck b lv p3) [_, _, _] rfl Try.func24 (by kernel_rfl) (List.Perm.refl _) (fun w hh hs' => next_spec b lv L p3 2 w ⟨hd.1.old1 hh (Hr := [_, _, _]) (List.Perm.refl _), hd.2.1, hp3⟩ hs' (by omega))) ?_
                  rintro _ _ w4 ⟨_, rfl, y, p4, rfl, hy, rfl, hp4⟩
                  refine wl_f (f_convu rfl Try.underlying3 Try.underlying38 (by omega)) ?_
                  refine wl_f (f_addu rfl rfl (by omega)) ?_
                  refine wl_f (f_fieldAddr 2 rfl Try.underlying40 rfl rfl (by kernel_rfl)) ?_
                  (first | refine wl_e0 (e_store0 (us := [_]) rfl rfl rfl (by kernel_rfl) (by simp [Value.oneCell']) rfl rfl) ?_ | refine wl_e0 (e_store1 (us := [_]) rfl rfl rfl (by kernel_rfl) (by simp [Value.oneCell']) rfl rfl) ?_ | refine wl_e0 (e_store2 (us := [_]) rfl rfl rfl (by kernel_rfl) (by simp [Value.oneCell']) rfl rfl) ?_ | refine wl_e0 (e_store3 (us := [_]) rfl rfl rfl (by kernel_rfl) (by simp [Value.oneCell']) rfl rfl) ?_)
                  rintro _ _ w16_5 rfl
                  refine wl_end [(4, _), (5, _)] ⟨rfl, rfl, trivial⟩ ?_
                  exact ⟨_, tg :: rest, 9223372036854775808 + y, p4, rfl, rfl, ⟨hn2, hn3⟩, by omega, hp4⟩
                · skip
                  refine w_sub [(4, _), (5, _)] ⟨rfl, rfl, trivial⟩ (w_skip ?_)
                  exact ⟨_, tg :: rest, wt, p3, rfl, rfl, ⟨hn2, hn3⟩, by omega, hp3⟩
  · rintro _ _ w ⟨sl, tags, wt, p', rfl, rfl, hsm, hwt, hp'⟩
    refine w_with fun hh => ?_
    obtain ⟨A7, cap7, rfl⟩ := row_slice hh (i := 2) rfl
    clear hh
    refine w_seq ?_
    refine w_reg ?_
    (first | refine wl_f (f_loadsb (cs := [_, _, _]) 0 rfl Try.underlying40 rfl (by kernel_rfl) rfl rfl) ?_ | refine wl_f (f_loadsb (cs := [_, _, _]) 1 rfl Try.underlying40 rfl (by kernel_rfl) rfl rfl) ?_ | refine wl_f (f_loadsb (cs := [_, _, _]) 2 rfl Try.underlying40 rfl (by kernel_rfl) rfl rfl) ?_ | refine wl_f (f_loadsb (cs := [_, _, _]) 3 rfl Try.underlying40 rfl (by kernel_rfl) rfl rfl) ?_ | refine wl_f (f_loadsb (cs := [_, _, _]) 4 rfl Try.underlying40 rfl (by kernel_rfl) rfl rfl) ?_ | refine wl_f (f_loadsb (cs := [_, _, _]) 5 rfl Try.underlying40 rfl (by kernel_rfl) rfl rfl) ?_ | refine wl_f (f_loadsb (cs := [_, _, _]) 6 rfl Try.underlying40 rfl (by kernel_rfl) rfl rfl) ?_)
    (first | refine wl_e0 (e_store0 (us := [_, _, _]) rfl rfl rfl (by kernel_rfl) (by simp [Value.oneCell']) rfl rfl) ?_ | refine wl_e0 (e_store1 (us := [_, _, _]) rfl rfl rfl (by kernel_rfl) (by simp [Value.oneCell']) rfl rfl) ?_ | refine wl_e0 (e_store2 (us := [_, _, _]) rfl rfl rfl (by kernel_rfl) (by simp [Value.oneCell']) rfl rfl) ?_ | refine wl_e0 (e_store3 (us := [_, _, _]) rfl rfl rfl (by kernel_rfl) (by simp [Value.oneCell']) rfl rfl) ?_)
    rintro _ _ w17_1 rfl
    refine wl_end [(4, _)] ⟨rfl, trivial⟩ ?_
    refine w_pick [3, 2, 0] rfl (w_ret ?_)
    refine ⟨_, _, fun a ha hh => results_cell 0 Try.results25 rfl a ha hh Try.underlying40 rfl (by kernel_rfl) rfl, List.sublist_cons_self .., ?_⟩
    exact ⟨_, tags, wt, p', rfl, hsm, hwt, rfl, hp'⟩
end Go.Proofs.Ythbjjfpikfmmnaa
