/- Tables by the method of Misra and Gries: the example of the chapter. -/
import Derived.Test.YtkoklfagmbaapaaQ11
namespace Go.Proofs.Ytkoklfagmbaapaa
open Go.RowKit

section
variable {m : Nat} {M M' : UM} {ded ded' total total' v : Nat} {k : ByteArray} {e : Int}
theorem FAddG.room (h : FAddG m M ded total k v e M' ded' total') (hk : k ≠ ByteArray.empty) (hv : v ≠ 0) (ht : total + v ≤ 9223372036854775808) (hno : mget M k = none) (hl : M.length < m) : e = 0 ∧ M' = (k, v) :: M ∧ ded' = ded ∧ total' = total + v := by
  have he := h.ok hk hv ht
  rcases h with ⟨he', _⟩ | ⟨_, _, _, _, h1, ⟨o, ho, _⟩ | ⟨_, _, h2, h3⟩ | ⟨_, hl', _⟩⟩
  · exact absurd he he'
  · rw [hno] at ho; cases ho
  · exact ⟨he, h2, h3, h1⟩
  · omega
theorem FAddG.full (h : FAddG m M ded total k v e M' ded' total') (hk : k ≠ ByteArray.empty) (hv : v ≠ 0) (ht : total + v ≤ 9223372036854775808) (hno : mget M k = none) (hl : M.length = m) {ks : List ByteArray} (hp : ks.Perm (keys M)) (hs : Srts ks) :
    e = 0 ∧ ded' = ded + dmin v M ks ∧ total' = total + v ∧ M' = if dmin v M ks < v then (k, v - dmin v M ks) :: ks.foldl (dstep (dmin v M ks)) M else ks.foldl (dstep (dmin v M ks)) M := by
  have he := h.ok hk hv ht
  rcases h with ⟨he', _⟩ | ⟨_, _, _, _, h1, ⟨o, ho, _⟩ | ⟨_, hl', _⟩ | ⟨_, _, ks', hp', hs', h2, h3⟩⟩
  · exact absurd he he'
  · rw [hno] at ho; cases ho
  · omega
  · obtain rfl := srts_unique hs' hs (hp'.trans hp.symm)
    exact ⟨he, h2, h1, h3⟩
end
theorem lit_e2 (k k' : ByteArray) (o s o' s' : Int) (w : World) : (Instr.buildSlice 40 2 [(0, .agg [.string k, .int .u64 o, .int .u64 s].toArray), (1, .agg [.string k', .int .u64 o', .int .u64 s'].toArray)].toArray).run Try.prog w =
    .ok (.slice (some ⟨w.heap.size, 0, .none⟩) 2 2) (w.alloc (.cells [.string k, .int .u64 o, .int .u64 s, .string k', .int .u64 o', .int .u64 s'].toArray 36)) := by kernel_rfl
set_option maxHeartbeats 8000000 in
theorem awake14_spec (w : World) : Spec Try.prog 16 [] w Nil fun r H => r = .bool true := by
  refine enter (n := 43) Try.func16 rfl rfl [] rfl trivial (Holds.start _ _) ?_
  refine w_seq ?_
  refine w_reg ?_
  refine wl_f (f_assign rfl) ?_
  refine wl_end [] trivial ?_
  refine w_seq ?_
  refine w_reg ?_
  refine wl_e (e_call0 rfl Try.func8 (by kernel_rfl) (fun w hh => frnew_ok 2 w (by omega) (by omega))) ?_
  rintro _ _ w1 ⟨_, rfl, t, r0, rfl, rfl, hr0⟩
  have hI0 := FInv.new 2
  refine wl_f (f_move rfl) ?_
  refine wl_f (f_extract rfl rfl) ?_
  refine wl_f (f_extract rfl rfl) ?_
  refine wl_f (f_assign rfl) ?_
  refine wl_f (f_assign rfl) ?_
  refine wl_end [(1, _), (2, _)] ⟨rfl, rfl, trivial⟩ ?_
  refine w_seq ?_
  refine w_seq ?_
  refine w_reg ?_
  refine wl_f (f_move rfl) ?_
  refine wl_f (f_neq rfl rfl) ?_
  refine wl_f (f_move rfl) ?_
  refine wl_or (j := 2) (c := false) 2 [(1, _)] ⟨rfl, trivial⟩ rfl rfl rfl rfl rfl (fun hg2_5 => ?_) (fun w2_5 => ?_)
  · skip
    refine wl_gf rfl rfl (f_move rfl) ?_
    refine wl_gf rfl rfl (f_eqlnil rfl rfl Try.underlying24) ?_
    exact wl_pend rfl rfl ⟨rfl, trivial⟩ (List.Sublist.refl _)
  refine wl_end [(1, _), (14, _)] ⟨rfl, rfl, trivial⟩ ?_
  refine w_iff rfl ?_
  refine w_skip ?_
  refine w_seq ?_
  refine w_reg ?_
  refine wl_f (f_move rfl) ?_
  refine wl_e (e_call1 r0 [] rfl Try.func11 (by kernel_rfl) (List.Perm.refl _) (fun w hh hs => fradd_spec t 2 [] 0 0 ⟨#[97]⟩ 5 r0 w (by omega) (small_of (by decide)) (by omega) hI0.ok hr0 hs)) ?_
  rintro _ _ w2 ⟨_, rfl, e1, M1, d1, t1, r1, rfl, rfl, hr1, hA1⟩
  have hI1 := hI0.add hA1
  obtain ⟨_, rfl, rfl, rfl⟩ := hA1.room (by decide) (by decide) (by decide) rfl (by decide)
  refine wl_end [(1, _)] ⟨rfl, trivial⟩ ?_
  refine w_seq ?_
  refine w_reg ?_
  refine wl_f (f_move rfl) ?_
  refine wl_e (e_call1 r1 [] rfl Try.func11 (by kernel_rfl) (List.Perm.refl _) (fun w hh hs => fradd_spec t 2 [(⟨#[97]⟩, 5)] 0 5 ⟨#[98]⟩ 3 r1 w (by omega) (small_of (by decide)) (by omega) hI1.ok hr1 hs)) ?_
  rintro _ _ w3 ⟨_, rfl, e2, M2, d2, t2, r2, rfl, rfl, hr2, hA2⟩
  have hI2 := hI1.add hA2
  obtain ⟨_, rfl, rfl, rfl⟩ := hA2.room (by decide) (by decide) (by decide) (by decide +kernel) (by decide)
  refine wl_end [(1, _)] ⟨rfl, trivial⟩ ?_
  refine w_seq ?_
  refine w_reg ?_
  refine wl_f (f_move rfl) ?_
  refine wl_e (e_call1 r2 [] rfl Try.func11 (by kernel_rfl) (List.Perm.refl _) (fun w hh hs => fradd_spec t 2 [(⟨#[98]⟩, 3), (⟨#[97]⟩, 5)] 0 8 ⟨#[99]⟩ 1 r2 w (by omega) (small_of (by decide)) (by omega) hI2.ok hr2 hs)) ?_
  rintro _ _ w4 ⟨_, rfl, e3, M3, d3, t3, r3, rfl, rfl, hr3, hA3⟩
  have hI3 := hI2.add hA3
  have hss : Srts [⟨#[97]⟩, ⟨#[98]⟩] := by unfold Srts; decide +kernel
  obtain ⟨_, hd3, rfl, hM3⟩ := hA3.full (by decide) (by decide) (by decide) (by decide +kernel) rfl (ks := [⟨#[97]⟩, ⟨#[98]⟩]) (List.Perm.swap ..) hss
  replace hd3 : d3 = 1 := hd3.trans (by decide +kernel)
  replace hM3 : M3 = [(⟨#[98]⟩, 2), (⟨#[97]⟩, 4)] := hM3.trans (by decide +kernel)
  subst hd3
  subst hM3
  refine wl_end [(1, _)] ⟨rfl, trivial⟩ ?_
  refine w_seq ?_
  refine w_reg ?_
  refine wl_f (f_move rfl) ?_
  refine wl_e (e_call1 r3 [] rfl Try.func12 (by kernel_rfl) (List.Perm.refl _) (fun w hh hs => frget_spec t 2 _ 1 9 ⟨#[99]⟩ r3 w (small_of (by decide)) hr3 hs)) ?_
  rintro _ _ w5 ⟨_, rfl, rfl, rfl⟩
  rw [show fget [(⟨#[98]⟩, 2), (⟨#[97]⟩, 4)] 1 ⟨#[99]⟩ = .tuple [enZ, .bool false].toArray from by rw [fget, show mget [((⟨#[98]⟩ : ByteArray), 2), (⟨#[97]⟩, 4)] ⟨#[99]⟩ = none from by decide +kernel]]
  refine wl_f (f_move rfl) ?_
  refine wl_f (f_extract rfl rfl) ?_
  refine wl_f (f_extract rfl rfl) ?_
  refine wl_e (e_allocs [.string ByteArray.empty, .int .u64 0, .int .u64 0] (by kernel_rfl)) ?_
  rintro _ _ w7_5 ⟨b7_5, rfl, rfl⟩
  (first | refine wl_e0 (e_store0 (us := [_, _, _]) rfl rfl rfl (by kernel_rfl) (by simp [Value.oneCell']) rfl rfl) ?_ | refine wl_e0 (e_store1 (us := [_, _, _]) rfl rfl rfl (by kernel_rfl) (by simp [Value.oneCell']) rfl rfl) ?_ | refine wl_e0 (e_store2 (us := [_, _, _]) rfl rfl rfl (by kernel_rfl) (by simp [Value.oneCell']) rfl rfl) ?_ | refine wl_e0 (e_store3 (us := [_, _, _]) rfl rfl rfl (by kernel_rfl) (by simp [Value.oneCell']) rfl rfl) ?_)
  rintro _ _ w7_6 rfl
  refine wl_f (f_assign rfl) ?_
  refine wl_pick [1] rfl ?_
  refine wl_end [(1, _), (4, _)] ⟨rfl, rfl, trivial⟩ ?_
  refine w_seq ?_
  refine w_reg ?_
  refine wl_f (f_move rfl) ?_
  refine wl_e (e_call1 r3 [] rfl Try.func11 (by kernel_rfl) (List.Perm.refl _) (fun w hh hs => fradd_spec t 2 [(⟨#[98]⟩, 2), (⟨#[97]⟩, 4)] 1 9 ⟨#[99]⟩ 6 r3 w (by omega) (small_of (by decide)) (by omega) hI3.ok hr3 hs)) ?_
  rintro _ _ w6 ⟨_, rfl, e4, M4, d4, t4, r4, rfl, rfl, hr4, hA4⟩
  obtain ⟨_, hd4, rfl, hM4⟩ := hA4.full (by decide) (by decide) (by decide) (by decide +kernel) rfl (ks := [⟨#[97]⟩, ⟨#[98]⟩]) (List.Perm.swap ..) hss
  replace hd4 : d4 = 3 := hd4.trans (by decide +kernel)
  replace hM4 : M4 = [(⟨#[99]⟩, 4), (⟨#[97]⟩, 2)] := hM4.trans (by decide +kernel)
  subst hd4
  subst hM4
  refine wl_end [(1, _), (4, _)] ⟨rfl, rfl, trivial⟩ ?_
  refine w_seq ?_
  refine w_reg ?_
  refine wl_f (f_move rfl) ?_
  refine wl_f (f_not rfl rfl) ?_
  refine wl_f (f_move rfl) ?_
  refine wl_and (j := 2) (c := true) 3 [(1, _)] ⟨rfl, trivial⟩ rfl rfl rfl rfl rfl (fun hg9_6 => ?_) (fun w9_6 => ?_)
  · skip
    refine wl_gf rfl rfl (f_move rfl) ?_
    refine wl_ge rfl rfl (e_call1 r4 [] rfl Try.func13 (by kernel_rfl) (List.Perm.refl _) (fun w hh hs => fruntracked_spec t 2 _ 3 15 r4 w hr4 hs)) ?_
    rintro _ _ w7 ⟨_, rfl, rfl, rfl⟩
    refine wl_gf rfl rfl (f_eql rfl rfl) ?_
    exact wl_pend rfl rfl ⟨rfl, trivial⟩ (List.Sublist.refl _)
  refine wl_f (f_move rfl) ?_
  refine wl_and (j := 7) (c := true) 6 [] trivial rfl rfl rfl rfl rfl (fun hg9_14 => ?_) (fun w9_14 => ?_)
  · skip
    refine wl_gf rfl rfl (f_move rfl) ?_
    refine wl_ge rfl rfl (e_call1 r4 [] rfl Try.func14 (by kernel_rfl) (List.Perm.refl _) (fun w hh hs => frentries_spec t 2 _ 3 15 r4 w (by omega) hr4 hs)) ?_
    rintro ve _ w8 ⟨_, rfl, ks, hkp, hks, rfl⟩
    obtain rfl := srts_unique hks (b := [⟨#[97]⟩, ⟨#[99]⟩]) (by unfold Srts; decide +kernel) (hkp.trans (List.Perm.swap ..))
    refine wl_gf rfl rfl (f_build rfl (fun w => build_entry _ _ _ w)) ?_
    refine wl_gf rfl rfl (f_build rfl (fun w => build_entry _ _ _ w)) ?_
    refine wl_ge rfl rfl (e_litrow (e := 36) (sz := 3) (us := [(0, .agg [.string ⟨#[97]⟩, .int .u64 2, .int .u64 3].toArray), (1, .agg [.string ⟨#[99]⟩, .int .u64 4, .int .u64 3].toArray)]) (cs := [.string ⟨#[97]⟩, .int .u64 2, .int .u64 3, .string ⟨#[99]⟩, .int .u64 4, .int .u64 3]) rfl (by intro w; exact lit_e2 ⟨#[97]⟩ ⟨#[99]⟩ 2 3 4 3 w) rfl (by decide)) ?_
    rintro _ _ w9_12 ⟨b9_12, rfl, rfl⟩
    refine wl_ge rfl rfl (e_call0 rfl Try.func27 (by kernel_rfl) (fun w hh => sameEntries_spec _ _ _ [(⟨#[97]⟩, 2, 3), (⟨#[99]⟩, 4, 3)] w (Rd.held0 hh (i := 1) rfl) (Rd.held0 hh (i := 0) rfl) (by simp) (by simp))) ?_
    rintro _ _ w9 ⟨_, rfl, rfl, rfl⟩
    rw [decide_eq_true (show [(⟨#[97]⟩ : ByteArray), ⟨#[99]⟩].map (fent [(⟨#[99]⟩, 4), (⟨#[97]⟩, 2)] 3) = [(⟨#[97]⟩, 2, 3), (⟨#[99]⟩, 4, 3)] from by decide +kernel)]
    exact wl_pend rfl rfl trivial (List.sublist_append_right [_, _] _)
  refine wl_f (f_assign rfl) ?_
  refine wl_end [(0, _)] ⟨rfl, trivial⟩ ?_
  refine w_ret ?_
  refine ⟨_, _, fun a ha hh => results_tmps Try.results16 rfl a ha _, List.Sublist.refl _, ?_⟩
  rfl
end Go.Proofs.Ytkoklfagmbaapaa
