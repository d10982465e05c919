/- The deck's weights, tags and events. -/
import Derived.Test.YthbjjfpikfmmnaaD5
namespace Go.Proofs.Ythbjjfpikfmmnaa
open Go.RowKit

theorem weight_spec (b : Nat) (lv : Value) (L : List Int) (p : Nat) (w : World) (hd : DRd w b lv L p) (hs : Holds w (deck b lv p).foot [deck b lv p] w) :
    Spec Try.prog 38 [.pointer (some ⟨b, 0, .none⟩)] w (deck b lv p).foot fun r H => ∃ y p' : Nat, r = .int .u64 y ∧ y < 18446744073709551616 ∧ H = [deck b lv p'] ∧ p' ≤ L.length := by
  refine enter (n := 31) Try.func38 rfl rfl [(0, _)] rfl ⟨rfl, trivial⟩ hs ?_
  refine w_seq ?_
  refine w_reg ?_
  refine wl_f (f_assign rfl) ?_
  refine wl_end [(0, _)] ⟨rfl, trivial⟩ ?_
  refine w_seq ?_
  refine w_seq ?_
  refine w_reg ?_
  refine wl_f (f_move rfl) ?_
  refine wl_e (e_call1 (deck b lv p) [] rfl Try.func24 (by kernel_rfl) (List.Perm.refl _) (fun w hh hs' => next_spec b lv L p 12 w ⟨hd.1.old1 hh (List.Perm.refl _), hd.2⟩ hs' (by omega))) ?_
  rintro _ _ w1 ⟨_, rfl, y, p1, rfl, hy, rfl, hp1⟩
  refine wl_end [(0, _), (4, _)] ⟨rfl, rfl, trivial⟩ ?_
  refine w_block ?_
  refine w_seq ?_
  refine w_reg ?_
  refine wl_f (f_eql rfl rfl) ?_
  refine wl_f (f_assign rfl) ?_
  refine wl_end [(0, _), (4, _), (5, _)] ⟨rfl, rfl, rfl, trivial⟩ ?_
  refine w_ifd rfl (fun hc1 => ?_) (fun hc1 => ?_)
  · skip
    refine w_seq ?_
    refine w_reg ?_
    refine wl_f (f_move rfl) ?_
    refine wl_e (e_call1 (deck b lv p1) [] rfl Try.func24 (by kernel_rfl) (List.Perm.refl _) (fun w hh hs' => next_spec b lv L p1 1099511627776 w ⟨hd.1.old1 hh (List.Perm.refl _), hd.2.1, hp1⟩ hs' (by omega))) ?_
    rintro _ _ w1 ⟨_, rfl, z, p2, rfl, hz, rfl, hp2⟩
    refine wl_f (f_add rfl rfl (by omega)) ?_
    refine wl_f (f_convu rfl Try.underlying3 Try.underlying38 (by omega)) ?_
    refine wl_f (f_assign rfl) ?_
    refine wl_end [(2, _)] ⟨rfl, trivial⟩ ?_
    refine w_ret ?_
    refine ⟨_, _, fun a ha hh => results_tmps Try.results38 rfl a ha _, List.Sublist.refl _, ?_⟩
    exact ⟨1 + z, p2, by simp [tup], by omega, rfl, hp2⟩
  · skip
    refine w_seq ?_
    refine w_reg ?_
    refine wl_f (f_eql rfl rfl) ?_
    refine wl_f (f_assign rfl) ?_
    refine wl_end [(0, _), (4, _), (11, _)] ⟨rfl, rfl, rfl, trivial⟩ ?_
    refine w_ifd rfl (fun hc2 => ?_) (fun hc2 => ?_)
    · skip
      refine w_seq ?_
      refine w_reg ?_
      refine wl_f (f_move rfl) ?_
      refine wl_e (e_call1 (deck b lv p1) [] rfl Try.func24 (by kernel_rfl) (List.Perm.refl _) (fun w hh hs' => next_spec b lv L p1 1099511627776 w ⟨hd.1.old1 hh (List.Perm.refl _), hd.2.1, hp1⟩ hs' (by omega))) ?_
      rintro _ _ w1 ⟨_, rfl, z, p2, rfl, hz, rfl, hp2⟩
      refine wl_f (f_convu rfl Try.underlying3 Try.underlying38 (by omega)) ?_
      refine wl_f (f_subr (r := ((9223372036854775808 - z : Nat) : Int)) rfl rfl (by rw [IntWalk.u64_in _ (by omega)]; omega)) ?_
      refine wl_f (f_assign rfl) ?_
      refine wl_end [(2, _)] ⟨rfl, trivial⟩ ?_
      refine w_ret ?_
      refine ⟨_, _, fun a ha hh => results_tmps Try.results38 rfl a ha _, List.Sublist.refl _, ?_⟩
      exact ⟨9223372036854775808 - z, p2, rfl, by omega, rfl, hp2⟩
    · skip
      refine w_seq ?_
      refine w_reg ?_
      refine wl_f (f_eql rfl rfl) ?_
      refine wl_f (f_assign rfl) ?_
      refine wl_end [(0, _), (17, _)] ⟨rfl, rfl, trivial⟩ ?_
      refine w_ifd rfl (fun hc3 => ?_) (fun hc3 => ?_)
      · skip
        refine w_seq ?_
        refine w_reg ?_
        refine wl_f (f_move rfl) ?_
        refine wl_e (e_call1 (deck b lv p1) [] rfl Try.func24 (by kernel_rfl) (List.Perm.refl _) (fun w hh hs' => next_spec b lv L p1 7 w ⟨hd.1.old1 hh (List.Perm.refl _), hd.2.1, hp1⟩ hs' (by omega))) ?_
        rintro _ _ w1 ⟨_, rfl, z, p2, rfl, hz, rfl, hp2⟩
        refine wl_f (f_add rfl rfl (by omega)) ?_
        refine wl_f (f_convu rfl Try.underlying3 Try.underlying38 (by omega)) ?_
        refine wl_f (f_move rfl) ?_
        refine wl_e (e_call1 (deck b lv p2) [] rfl Try.func24 (by kernel_rfl) (List.Perm.refl _) (fun w hh hs' => next_spec b lv L p2 61 w ⟨hd.1.old1 hh (List.Perm.refl _), hd.2.1, hp2⟩ hs' (by omega))) ?_
        rintro _ _ w1 ⟨_, rfl, s, p3, rfl, hs3, rfl, hp3⟩
        refine wl_f (f_convw (r := (s : Int)) rfl Try.underlying3 Try.underlying83 (IntWalk.u64_in _ (by omega))) ?_
        refine wl_f (f_shl (r := (((1 + z) * 2 ^ s % 18446744073709551616 : Nat) : Int)) rfl rfl (by omega) ?_) ?_
        · have e : min (Int.toNat (s : Int)) IntKind.u64.bits = s := by
            rw [Int.toNat_natCast]; exact Nat.min_eq_left (by show s ≤ 64; omega)
          rw [e, IntKind.wrap_u64]
          simp
        refine wl_f (f_assign rfl) ?_
        refine wl_end [(2, _)] ⟨rfl, trivial⟩ ?_
        refine w_ret ?_
        refine ⟨_, _, fun a ha hh => results_tmps Try.results38 rfl a ha _, List.Sublist.refl _, ?_⟩
        exact ⟨(1 + z) * 2 ^ s % 18446744073709551616, p3, rfl, Nat.mod_lt _ (by omega), rfl, hp3⟩
      · skip
        refine w_skip ?_
        refine w_seq ?_
        refine w_reg ?_
        refine wl_f (f_move rfl) ?_
        refine wl_e (e_call1 (deck b lv p1) [] rfl Try.func24 (by kernel_rfl) (List.Perm.refl _) (fun w hh hs' => next_spec b lv L p1 20 w ⟨hd.1.old1 hh (List.Perm.refl _), hd.2.1, hp1⟩ hs' (by omega))) ?_
        rintro _ _ w1 ⟨_, rfl, z, p2, rfl, hz, rfl, hp2⟩
        refine wl_f (f_add rfl rfl (by omega)) ?_
        refine wl_f (f_convu rfl Try.underlying3 Try.underlying38 (by omega)) ?_
        refine wl_f (f_assign rfl) ?_
        refine wl_end [(2, _)] ⟨rfl, trivial⟩ ?_
        refine w_ret ?_
        refine ⟨_, _, fun a ha hh => results_tmps Try.results38 rfl a ha _, List.Sublist.refl _, ?_⟩
        exact ⟨1 + z, p2, by simp [tup], by omega, rfl, hp2⟩

def small (tags : List Tg) : Prop := 1 ≤ tags.length ∧ tags.length ≤ 3 ∧ ∀ t ∈ tags, t.1.size ≤ 20 ∧ t.2.size ≤ 70

set_option maxHeartbeats 1000000 in
theorem tags_spec (b : Nat) (lv : Value) (L : List Int) (p : Nat) (w : World) (hd : DRd w b lv L p) (hs : Holds w (deck b lv p).foot [deck b lv p] w) :
    Spec Try.prog 36 [.pointer (some ⟨b, 0, .none⟩)] w (deck b lv p).foot fun r H => ∃ (tags : List Tg) (p' : Nat), small tags ∧ tags.length ≤ 2 ∧
      H = [row r 52 2 tags.length (tcells tags), deck b lv p'] ∧ p' ≤ L.length := by
  refine enter (n := 36) Try.func36 rfl rfl [(0, _)] rfl ⟨rfl, trivial⟩ hs ?_
  refine w_seq ?_
  refine w_reg ?_
  refine wl_f (f_assign rfl) ?_
  refine wl_end [(0, _)] ⟨rfl, trivial⟩ ?_
  refine w_seq ?_
  refine w_reg ?_
  refine wl_f (f_move rfl) ?_
  refine wl_e (e_call1 (deck b lv p) [] rfl Try.func24 (by kernel_rfl) (List.Perm.refl _) (fun w hh hs' => next_spec b lv L p 9 w ⟨hd.1.old1 hh (List.Perm.refl _), hd.2⟩ hs' (by omega))) ?_
  rintro _ _ w1 ⟨_, rfl, k, p1, rfl, hk, rfl, hp1⟩
  refine wl_f (f_assign rfl) ?_
  refine wl_end [(0, _), (3, _)] ⟨rfl, rfl, trivial⟩ ?_
  refine w_seq ?_
  refine w_reg ?_
  refine wl_f (f_move rfl) ?_
  refine wl_f (f_add rfl rfl (by omega)) ?_
  refine wl_f (f_convb rfl Try.underlying3 Try.underlying5 (by omega)) ?_
  refine wl_e (e_lit1 (cs := [_]) t22 rfl rfl rfl (by omega)) ?_
  rintro _ _ w2_3 ⟨b2_3, rfl, rfl⟩
  refine wl_f (f_b2s (xs := [97 + k]) rfl Try.underlying22 Try.underlying5 Try.underlying9 (fun w hh => Rd.held0 hh (i := 0) rfl)) ?_
  refine wl_f (f_build rfl (fun w => build_tag _ _ w)) ?_
  refine wl_e (e_lit1 (cs := [_, _]) t37 rfl rfl rfl (by omega)) ?_
  rintro _ _ w2_6 ⟨b2_6, rfl, rfl⟩
  refine wl_f (f_assign rfl) ?_
  refine wl_rm1 ?_
  refine wl_end [(0, _), (4, _)] ⟨rfl, rfl, trivial⟩ ?_
  refine w_seq ?_
  refine w_seq ?_
  refine w_reg ?_
  refine wl_f (f_move rfl) ?_
  refine wl_e (e_call1 (deck b lv p1) [_] rfl Try.func24 (by kernel_rfl) (List.Perm.swap ..) (fun w hh hs' => next_spec b lv L p1 8 w ⟨hd.1.old1 hh (List.Perm.swap ..), hd.2.1, hp1⟩ hs' (by omega))) ?_
  rintro _ _ w1 ⟨_, rfl, z, p2, rfl, hz, rfl, hp2⟩
  refine wl_end [(0, _), (4, _), (15, _)] ⟨rfl, rfl, rfl, trivial⟩ ?_
  refine w_post (fun m H w => ∃ u tags p', m = [(4, u)] ∧ H = [deck b lv p', row u 52 2 tags.length (tcells tags)] ∧ small tags ∧ tags.length ≤ 2 ∧ p' ≤ L.length) ?_ ?_
  · skip
    refine w_block ?_
    refine w_seq ?_
    refine w_reg ?_
    refine wl_f (f_eql rfl rfl) ?_
    refine wl_f (f_assign rfl) ?_
    refine wl_end [(0, _), (4, _), (15, _), (16, _)] ⟨rfl, rfl, rfl, rfl, trivial⟩ ?_
    refine w_ifd rfl (fun hc1 => ?_) (fun hc1 => ?_)
    · skip
      refine w_reg ?_
      refine wl_f (f_move rfl) ?_
      refine wl_f (f_build rfl (fun w => build_tag _ _ w)) ?_
      refine wl_e (e_lit1 (cs := [_, _]) t37 rfl rfl rfl (by omega)) ?_
      rintro _ _ w5_2 ⟨b5_2, rfl, rfl⟩
      refine wl_e (e_app2 t37 rfl rfl (fun w hh => Rd.held0 hh (i := 0) rfl) (by simp [Value.oneCell']) (by omega) (by omega)) ?_
      rintro v5_3 _ w5_3 rfl
      refine wl_f (f_assign rfl) ?_
      refine wl_rm0 ?_
      refine wl_end [(4, _)] ⟨rfl, trivial⟩ ?_
      refine ⟨_, [(⟨#[107]⟩, str [97 + k]), (⟨#[97, 46, 98]⟩, ⟨#[]⟩)], p2, rfl, rfl, ⟨by simp, by simp, ?_⟩, by simp, hp2⟩
      simp only [List.mem_cons, List.not_mem_nil, or_false, forall_eq_or_imp, forall_eq, str_size]
      exact ⟨⟨by decide, by simp⟩, by decide, by decide⟩
    · skip
      refine w_seq ?_
      refine w_reg ?_
      refine wl_f (f_eql rfl rfl) ?_
      refine wl_f (f_assign rfl) ?_
      refine wl_end [(0, _), (4, _), (22, _)] ⟨rfl, rfl, rfl, trivial⟩ ?_
      refine w_ifd rfl (fun hc2 => ?_) (fun hc2 => ?_)
      · skip
        refine w_reg ?_
        refine wl_f (f_move rfl) ?_
        refine wl_f (f_move rfl) ?_
        refine wl_e (e_call1 (deck b lv p2) [_] rfl Try.func24 (by kernel_rfl) (List.Perm.refl _) (fun w hh hs' => next_spec b lv L p2 3 w ⟨hd.1.old1 hh (Hr := [_]) (List.Perm.refl _), hd.2.1, hp2⟩ hs' (by omega))) ?_
        rintro _ _ w1 ⟨_, rfl, d, p3, rfl, hd3, rfl, hp3⟩
        refine wl_f (f_add rfl rfl (by omega)) ?_
        refine wl_f (f_convb rfl Try.underlying3 Try.underlying5 (by omega)) ?_
        refine wl_e (e_lit1 (cs := [_]) t22 rfl rfl rfl (by omega)) ?_
        rintro _ _ w7_5 ⟨b7_5, rfl, rfl⟩
        refine wl_f (f_b2s (xs := [48 + d]) rfl Try.underlying22 Try.underlying5 Try.underlying9 (fun w hh => Rd.held0 hh (i := 0) rfl)) ?_
        refine wl_f (f_adds rfl rfl (by rw [str_size]; show 5 + 1 ≤ _; omega)) ?_
        refine wl_f (f_build rfl (fun w => build_tag _ _ w)) ?_
        refine wl_e (e_lit1 (cs := [_, _]) t37 rfl rfl rfl (by omega)) ?_
        rintro _ _ w7_9 ⟨b7_9, rfl, rfl⟩
        refine wl_e (e_app3 t37 rfl rfl (fun w hh => Rd.held0 hh (i := 0) rfl) (by simp [Value.oneCell']) (by omega) (by omega)) ?_
        rintro v7_10 _ w7_10 rfl
        refine wl_f (f_assign rfl) ?_
        refine wl_rm0 (wl_rm0 ?_)
        refine wl_end [(4, _)] ⟨rfl, trivial⟩ ?_
        refine ⟨_, [(⟨#[107]⟩, str [97 + k]), (⟨#[104, 111, 115, 116, 45]⟩ ++ str [48 + d], ⟨#[48, 49, 50, 51, 52, 53, 54, 55, 56, 57]⟩)], p3, rfl, rfl, ⟨by simp, by simp, ?_⟩, by simp, hp3⟩
        simp only [List.mem_cons, List.not_mem_nil, or_false, forall_eq_or_imp, forall_eq, str_size, ByteArray.size_append]
        exact ⟨⟨by decide, by simp⟩, by show 5 + 1 ≤ _; omega, by decide⟩
      · skip
        refine w_sub [(4, _)] ⟨rfl, trivial⟩ (w_skip ?_)
        refine ⟨_, [(⟨#[107]⟩, str [97 + k])], p2, rfl, rfl, ⟨by simp, by simp, ?_⟩, by simp, hp2⟩
        simp only [List.mem_cons, List.not_mem_nil, or_false, forall_eq, str_size]
        exact ⟨by decide, by simp⟩
  · rintro _ _ w ⟨u, tags, p', rfl, rfl, hsm, hl2, hp'⟩
    refine w_seq ?_
    refine w_reg ?_
    refine wl_f (f_move rfl) ?_
    refine wl_f (f_assign rfl) ?_
    refine wl_end [(2, _)] ⟨rfl, trivial⟩ ?_
    refine w_sw (w_ret ?_)
    refine ⟨_, _, fun a ha hh => results_tmps Try.results36 rfl a ha _, List.Sublist.refl _, ?_⟩
    exact ⟨tags, p', hsm, hl2, rfl, hp'⟩
end Go.Proofs.Ythbjjfpikfmmnaa
