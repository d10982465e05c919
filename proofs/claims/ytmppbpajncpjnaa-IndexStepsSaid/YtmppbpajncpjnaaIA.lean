/- Tables: the example of the chapter. -/
import Derived.Test.YtmppbpajncpjnaaI7
namespace Go.Proofs.Ytmppbpajncpjnaa
open Go.RowKit

def sv (l : List ByteArray) : List Value := l.map Value.string
theorem sv_get {l : List ByteArray} {i : Nat} {s : ByteArray} (h : l[i]? = some s) : (sv l)[i * 1]? = some (.string s) := by simp [sv, h]
theorem TbR.nd {α : Type} {K : VI α} {b n : Nat} {T : List Nat} {seed : Int} {M : List (ByteArray × α)} {r : Res} (h : TbR K b n T seed M r) : (keys M).Nodup := by
  obtain ⟨N, cs, hC, hI, hM, hle, hsm⟩ := h
  exact (keys_perm hM).nodup_iff.1 hI.nd
theorem TbR.len {α : Type} {K : VI α} {b n : Nat} {T : List Nat} {seed : Int} {M : List (ByteArray × α)} {r : Res} (h : TbR K b n T seed M r) : M.length ≤ n := by
  obtain ⟨N, cs, hC, hI, hM, hle, hsm⟩ := h
  rw [← hM.length_eq]; exact hle
theorem small_of {s : ByteArray} (h : s.size ≤ 100) : small s := by unfold small; omega
set_option maxHeartbeats 2000000 in
theorem awake10_spec (w : World) : Spec Try.prog 14 [] w Nil fun r H => r = .bool true := by
  refine enter (n := 54) Try.func14 rfl rfl [] rfl trivial (Holds.start _ _) ?_
  refine w_seq ?_
  refine w_reg ?_
  refine wl_f (f_assign rfl) ?_
  refine wl_end [] trivial ?_
  refine w_seq ?_
  refine w_reg ?_
  refine wl_e (e_make (l := 16) (cs := u64v (List.replicate 16 0)) rfl rfl t28 (by omega) (by omega) (made1 16).symm) ?_
  rintro _ _ w1_0 ⟨b1_0, rfl, rfl⟩
  refine wl_e (e_call0 rfl Try.func16 (by kernel_rfl) (fun w hh => ixnew_ok 2 (List.replicate 16 0) _ 0 w (by omega) (by omega) List.length_replicate (Rd.held0 hh (i := 0) rfl))) ?_
  rintro _ _ w1 ⟨_, rfl, b, r0, rfl, rfl, hr0⟩
  refine wl_f (f_move rfl) ?_
  refine wl_f (f_extract rfl rfl) ?_
  refine wl_f (f_extract rfl rfl) ?_
  refine wl_f (f_assign rfl) ?_
  refine wl_f (f_assign rfl) ?_
  refine wl_pick [0] rfl ?_
  refine wl_end [(1, _), (2, _)] ⟨rfl, rfl, trivial⟩ ?_
  refine w_seq ?_
  refine w_seq ?_
  refine w_reg ?_
  refine wl_f (f_move rfl) ?_
  refine wl_f (f_neq rfl rfl) ?_
  refine wl_f (f_move rfl) ?_
  refine wl_or (j := 2) (c := false) 2 [(1, _)] ⟨rfl, trivial⟩ rfl rfl rfl rfl rfl (fun hg2_5 => ?_) (fun w2_5 => ?_)
  · skip
    refine wl_gf rfl rfl (f_move rfl) ?_
    refine wl_gf rfl rfl (f_eqlnil rfl rfl Try.underlying40) ?_
    exact wl_pend rfl rfl ⟨rfl, trivial⟩ (List.Sublist.refl _)
  refine wl_end [(1, _), (19, _)] ⟨rfl, rfl, trivial⟩ ?_
  refine w_iff rfl ?_
  refine w_skip ?_
  refine w_seq ?_
  refine w_reg ?_
  refine wl_f (f_move rfl) ?_
  refine wl_e (e_call1 r0 [] rfl Try.func18 (by kernel_rfl) (List.Perm.refl _) (fun w hh hs => ixput_spec b 2 _ 0 [] r0 ⟨#[97]⟩ 1 w (small_of (by decide)) hr0 hs)) ?_
  rw [show mput 2 [] ⟨#[97]⟩ (1 : Int) = (0, [(⟨#[97]⟩, 1)]) by kernel_rfl]
  rintro _ _ w2 ⟨_, rfl, rfl, r1, rfl, hr1⟩
  refine wl_f (f_move rfl) ?_
  refine wl_e (e_call1 r1 [] rfl Try.func18 (by kernel_rfl) (List.Perm.refl _) (fun w hh hs => ixput_spec b 2 _ 0 _ r1 ⟨#[98]⟩ 2 w (small_of (by decide)) hr1 hs)) ?_
  rw [show mput 2 [(⟨#[97]⟩, 1)] ⟨#[98]⟩ (2 : Int) = (0, [(⟨#[98]⟩, 2), (⟨#[97]⟩, 1)]) by kernel_rfl]
  rintro _ _ w3 ⟨_, rfl, rfl, r2, rfl, hr2⟩
  refine wl_f (f_move rfl) ?_
  refine wl_e (e_call1 r2 [] rfl Try.func18 (by kernel_rfl) (List.Perm.refl _) (fun w hh hs => ixput_spec b 2 _ 0 _ r2 ⟨#[97]⟩ 3 w (small_of (by decide)) hr2 hs)) ?_
  rw [show mput 2 [(⟨#[98]⟩, 2), (⟨#[97]⟩, 1)] ⟨#[97]⟩ (3 : Int) = (0, [(⟨#[97]⟩, 3), (⟨#[98]⟩, 2)]) by kernel_rfl]
  rintro _ _ w4 ⟨_, rfl, rfl, r3, rfl, hr3⟩
  refine wl_f (f_move rfl) ?_
  refine wl_e (e_call1 r3 [] rfl Try.func18 (by kernel_rfl) (List.Perm.refl _) (fun w hh hs => ixput_spec b 2 _ 0 _ r3 ⟨#[99]⟩ 4 w (small_of (by decide)) hr3 hs)) ?_
  rw [show mput 2 [(⟨#[97]⟩, 3), (⟨#[98]⟩, 2)] ⟨#[99]⟩ (4 : Int) = (7, [(⟨#[97]⟩, 3), (⟨#[98]⟩, 2)]) by kernel_rfl]
  rintro _ _ w5 ⟨_, rfl, rfl, r4, rfl, hr4⟩
  refine wl_f (f_assign rfl) ?_
  refine wl_f (f_assign rfl) ?_
  refine wl_f (f_assign rfl) ?_
  refine wl_f (f_assign rfl) ?_
  refine wl_end [(1, _), (3, _), (4, _), (5, _), (6, _)] ⟨rfl, rfl, rfl, rfl, rfl, trivial⟩ ?_
  refine w_seq ?_
  refine w_reg ?_
  refine wl_f (f_move rfl) ?_
  refine wl_e (e_call1 r4 [] rfl Try.func20 (by kernel_rfl) (List.Perm.refl _) (fun w hh hs => ixget_spec b 2 _ 0 _ r4 ⟨#[97]⟩ w (small_of (by decide)) hr4 hs)) ?_
  rw [show mget [(⟨#[97]⟩, 3), (⟨#[98]⟩, 2)] ⟨#[97]⟩ = some (3 : Int) by kernel_rfl]
  rintro _ _ w6 ⟨_, rfl, rfl, rfl⟩
  refine wl_f (f_move rfl) ?_
  refine wl_f (f_extract rfl rfl) ?_
  refine wl_f (f_extract rfl rfl) ?_
  refine wl_f (f_assign rfl) ?_
  refine wl_f (f_assign rfl) ?_
  refine wl_end [(3, _), (4, _), (5, _), (6, _), (7, _), (8, _)] ⟨rfl, rfl, rfl, rfl, rfl, rfl, trivial⟩ ?_
  refine w_seq ?_
  refine w_reg ?_
  refine wl_f (f_move rfl) ?_
  refine wl_f (f_eql rfl rfl) ?_
  refine wl_f (f_move rfl) ?_
  refine wl_and (j := 2) (c := true) 2 [(5, _), (6, _), (7, _), (8, _)] ⟨rfl, rfl, rfl, rfl, trivial⟩ rfl rfl rfl rfl rfl (fun hg6_5 => ?_) (fun w6_5 => ?_)
  · skip
    refine wl_gf rfl rfl (f_move rfl) ?_
    refine wl_gf rfl rfl (f_eql rfl rfl) ?_
    exact wl_pend rfl rfl ⟨rfl, rfl, rfl, rfl, trivial⟩ (List.Sublist.refl _)
  refine wl_f (f_move rfl) ?_
  refine wl_and (j := 6) (c := true) 2 [(6, _), (7, _), (8, _)] ⟨rfl, rfl, rfl, trivial⟩ rfl rfl rfl rfl rfl (fun hg6_9 => ?_) (fun w6_9 => ?_)
  · skip
    refine wl_gf rfl rfl (f_move rfl) ?_
    refine wl_gf rfl rfl (f_eql rfl rfl) ?_
    exact wl_pend rfl rfl ⟨rfl, rfl, rfl, trivial⟩ (List.Sublist.refl _)
  refine wl_f (f_move rfl) ?_
  refine wl_and (j := 10) (c := true) 2 [(7, _), (8, _)] ⟨rfl, rfl, trivial⟩ rfl rfl rfl rfl rfl (fun hg6_13 => ?_) (fun w6_13 => ?_)
  · skip
    refine wl_gf rfl rfl (f_move rfl) ?_
    refine wl_gf rfl rfl (f_eql rfl rfl) ?_
    exact wl_pend rfl rfl ⟨rfl, rfl, trivial⟩ (List.Sublist.refl _)
  refine wl_f (f_move rfl) ?_
  refine wl_and (j := 14) (c := true) 2 [(8, _)] ⟨rfl, trivial⟩ rfl rfl rfl rfl rfl (fun hg6_17 => ?_) (fun w6_17 => ?_)
  · skip
    refine wl_gf rfl rfl (f_move rfl) ?_
    refine wl_gf rfl rfl (f_eql rfl rfl) ?_
    exact wl_pend rfl rfl ⟨rfl, trivial⟩ (List.Sublist.refl _)
  refine wl_f (f_move rfl) ?_
  refine wl_and (j := 18) (c := true) 1 [] trivial rfl rfl rfl rfl rfl (fun hg6_20 => ?_) (fun w6_20 => ?_)
  · skip
    refine wl_gf rfl rfl (f_move rfl) ?_
    exact wl_pend rfl rfl trivial (List.Sublist.refl _)
  refine wl_f (f_assign rfl) ?_
  refine wl_end [(0, _)] ⟨rfl, trivial⟩ ?_
  refine w_ret ?_
  refine ⟨_, _, fun a ha hh => results_tmps Try.results14 rfl a ha _, List.Sublist.refl _, ?_⟩
  rfl
end Go.Proofs.Ytmppbpajncpjnaa
