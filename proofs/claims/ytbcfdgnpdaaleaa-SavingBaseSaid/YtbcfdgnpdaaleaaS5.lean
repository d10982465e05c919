/- Tables of tracked keys: the example of the chapter. -/
import Derived.Test.YtbcfdgnpdaaleaaS4
namespace Go.Proofs.Ytbcfdgnpdaaleaa
open Go.RowKit

theorem hasnt2 {x y : Option En} {k : ByteArray} (hx : ∀ o s, x ≠ some (k, o, s)) (hy : ∀ o s, y ≠ some (k, o, s)) : Hasnt [x, y] k := by
  intro i o s h
  match i, h with
  | 0, h => exact hx o s (by simpa using h)
  | 1, h => exact hy o s (by simpa using h)
  | i + 2, h => simp at h
theorem AddG.new {m : Nat} {E E' : List (Option En)} {base base' total total' w : Nat} {k : ByteArray} {e : Int} (h : AddG m E base total k w e E' base' total') (hk : k ≠ ByteArray.empty) (hw : w ≠ 0) (ht : total + w ≤ 9223372036854775808) (hn : Hasnt E k) :
    e = 0 ∧ total' = total + w ∧ ∃ n E1, FreeG m E base n E1 base' ∧ E' = E1.set n (some (k, w, base')) := by
  rcases h with ⟨_, _, _, _, h⟩ | ⟨rfl, _, _, _, rfl, ⟨i, o, s, hi, _⟩ | ⟨_, h⟩⟩
  · rcases h with ⟨h, _⟩ | ⟨_, h, _⟩ | ⟨_, _, h, _⟩
    · exact absurd h hk
    · exact absurd h hw
    · omega
  · exact absurd hi (hn i o s)
  · exact ⟨rfl, rfl, h⟩
theorem free2_0 {y : Option En} {base base' n : Nat} {E1 : List (Option En)} (h : FreeG 2 [none, y] base n E1 base') : n = 0 ∧ E1 = [none, y] ∧ base' = base := by
  obtain ⟨hn, he, ⟨rfl, rfl, h⟩ | ⟨h, _⟩⟩ := h
  · match n, h with
    | 0, _ => exact ⟨rfl, rfl, rfl⟩
    | n + 1, h => obtain ⟨x, hx⟩ := h 0 (by omega); simp at hx
  · obtain ⟨x, hx⟩ := h 0 (by omega); simp at hx
theorem free2_1 {x : En} {base base' n : Nat} {E1 : List (Option En)} (h : FreeG 2 [some x, none] base n E1 base') : n = 1 ∧ E1 = [some x, none] ∧ base' = base := by
  obtain ⟨hn, he, ⟨rfl, rfl, h⟩ | ⟨h, _⟩⟩ := h
  · match n, he with
    | 0, he => simp at he
    | 1, _ => exact ⟨rfl, rfl, rfl⟩
    | n + 2, _ => omega
  · obtain ⟨x, hx⟩ := h 1 (by omega); simp at hx
theorem free2_2 {k1 k2 : ByteArray} {o1 s1 o2 s2 base base' n : Nat} {E1 : List (Option En)} (h : FreeG 2 [some (k1, o1, s1), some (k2, o2, s2)] base n E1 base') (hlt : o2 + s2 < o1 + s1) : n = 1 ∧ E1 = [some (k1, o1, s1), none] ∧ base' = o2 + s2 := by
  obtain ⟨hn, he, ⟨rfl, rfl, h⟩ | ⟨h, k, o, s, hi, rfl, rfl, hle⟩⟩ := h
  · match n, he with
    | 0, he => simp at he
    | 1, he => simp at he
    | n + 2, _ => omega
  · match n, hi with
    | 0, hi =>
      simp at hi
      obtain ⟨rfl, rfl, rfl⟩ := hi
      have := hle 1 k2 o2 s2 rfl
      omega
    | 1, hi =>
      simp at hi
      obtain ⟨rfl, rfl, rfl⟩ := hi
      exact ⟨rfl, rfl, rfl⟩
    | n + 2, _ => omega
theorem tok0 (m : Nat) : TOk (List.replicate m none) 0 0 := ⟨by omega, Nat.le_refl _, fun i k o s h => by rw [List.getElem?_replicate] at h; split at h <;> cases h⟩
theorem has2 {x y : Option En} {k : ByteArray} {i o s : Nat} (h : Has [x, y] k i o s) : (i = 0 ∧ x = some (k, o, s)) ∨ (i = 1 ∧ y = some (k, o, s)) := by
  match i, h with
  | 0, h => exact .inl ⟨rfl, by simpa [Has] using h⟩
  | 1, h => exact .inr ⟨rfl, by simpa [Has] using h⟩
  | i + 2, h => simp [Has] at h

set_option maxHeartbeats 4000000 in
theorem awake13_spec (w : World) : Spec Try.prog 13 [] w Nil fun r H => r = .bool true := by
  refine enter (n := 54) Try.func13 rfl rfl [] rfl trivial (Holds.start _ _) ?_
  refine w_seq ?_
  refine w_reg ?_
  refine wl_f (f_assign rfl) ?_
  refine wl_end [] trivial ?_
  refine w_seq ?_
  refine w_reg ?_
  refine wl_e (e_call0 rfl Try.func7 (by kernel_rfl) (fun w hh => svnew_ok 2 w (by omega) (by omega))) ?_
  rintro _ _ w1 ⟨_, rfl, t, r0, rfl, rfl, hr0⟩
  have ht0 := tok0 2
  refine wl_f (f_move rfl) ?_
  refine wl_f (f_extract rfl rfl) ?_
  refine wl_f (f_extract rfl rfl) ?_
  refine wl_f (f_assign rfl) ?_
  refine wl_f (f_assign rfl) ?_
  refine wl_end [(1, _), (2, _)] ⟨rfl, rfl, trivial⟩ ?_
  refine w_seq ?_
  refine w_seq ?_
  refine w_reg ?_
  refine wl_f (f_move rfl) ?_
  refine wl_f (f_neq rfl rfl) ?_
  refine wl_f (f_move rfl) ?_
  refine wl_or (j := 2) (c := false) 2 [(1, _)] ⟨rfl, trivial⟩ rfl rfl rfl rfl rfl (fun hg2_5 => ?_) (fun w2_5 => ?_)
  · skip
    refine wl_gf rfl rfl (f_move rfl) ?_
    refine wl_gf rfl rfl (f_eqlnil rfl rfl Try.underlying24) ?_
    exact wl_pend rfl rfl ⟨rfl, trivial⟩ (List.Sublist.refl _)
  refine wl_end [(1, _), (16, _)] ⟨rfl, rfl, trivial⟩ ?_
  refine w_iff rfl ?_
  refine w_skip ?_
  refine w_seq ?_
  refine w_reg ?_
  refine wl_f (f_move rfl) ?_
  refine wl_e (e_call1 r0 [] rfl Try.func9 (by kernel_rfl) (List.Perm.refl _) (fun w hh hs => svadd_spec t 2 [none, none] 0 0 ⟨#[97]⟩ 5 r0 w (small_of (by decide)) (by omega) ht0 hr0 hs)) ?_
  rintro _ _ w2 ⟨_, rfl, e1, E1, b1, t1, r1, rfl, rfl, hr1, hA1⟩
  have ht1 := hA1.tok ht0
  obtain ⟨_, rfl, n1, E1', hf1, rfl⟩ := hA1.new (by decide) (by decide) (by decide) (hasnt2 (by simp) (by simp))
  obtain ⟨rfl, rfl, rfl⟩ := free2_0 hf1
  replace hr1 : SvR t 2 [some (⟨#[97]⟩, 5, 0), none] 0 5 r1 := hr1
  replace ht1 : TOk [some (⟨#[97]⟩, 5, 0), none] 0 5 := ht1
  refine wl_end [(1, _)] ⟨rfl, trivial⟩ ?_
  refine w_seq ?_
  refine w_reg ?_
  refine wl_f (f_move rfl) ?_
  refine wl_e (e_call1 r1 [] rfl Try.func9 (by kernel_rfl) (List.Perm.refl _) (fun w hh hs => svadd_spec t 2 _ 0 5 ⟨#[98]⟩ 3 r1 w (small_of (by decide)) (by omega) ht1 hr1 hs)) ?_
  rintro _ _ w3 ⟨_, rfl, e2, E2, b2, t2, r2, rfl, rfl, hr2, hA2⟩
  have ht2 := hA2.tok ht1
  obtain ⟨_, rfl, n2, E2', hf2, rfl⟩ := hA2.new (by decide) (by decide) (by decide) (hasnt2 (fun o s e => by injection e with e; injection e with e; exact absurd e (by decide)) (by simp))
  obtain ⟨rfl, rfl, rfl⟩ := free2_1 hf2
  replace hr2 : SvR t 2 [some (⟨#[97]⟩, 5, 0), some (⟨#[98]⟩, 3, 0)] 0 8 r2 := hr2
  replace ht2 : TOk [some (⟨#[97]⟩, 5, 0), some (⟨#[98]⟩, 3, 0)] 0 8 := ht2
  refine wl_end [(1, _)] ⟨rfl, trivial⟩ ?_
  refine w_seq ?_
  refine w_reg ?_
  refine wl_f (f_move rfl) ?_
  refine wl_e (e_call1 r2 [] rfl Try.func9 (by kernel_rfl) (List.Perm.refl _) (fun w hh hs => svadd_spec t 2 _ 0 8 ⟨#[99]⟩ 1 r2 w (small_of (by decide)) (by omega) ht2 hr2 hs)) ?_
  rintro _ _ w4 ⟨_, rfl, e3, E3, b3, t3, r3, rfl, rfl, hr3, hA3⟩
  have ht3 := hA3.tok ht2
  obtain ⟨_, rfl, n3, E3', hf3, rfl⟩ := hA3.new (by decide) (by decide) (by decide) (hasnt2 (fun o s e => by injection e with e; injection e with e; exact absurd e (by decide)) (fun o s e => by injection e with e; injection e with e; exact absurd e (by decide)))
  obtain ⟨rfl, rfl, rfl⟩ := free2_2 hf3 (by decide)
  replace hr3 : SvR t 2 [some (⟨#[97]⟩, 5, 0), some (⟨#[99]⟩, 1, 3)] 3 9 r3 := hr3
  replace ht3 : TOk [some (⟨#[97]⟩, 5, 0), some (⟨#[99]⟩, 1, 3)] 3 9 := ht3
  refine wl_end [(1, _)] ⟨rfl, trivial⟩ ?_
  refine w_seq ?_
  refine w_reg ?_
  refine wl_f (f_move rfl) ?_
  refine wl_e (e_call1 r3 [] rfl Try.func17 (by kernel_rfl) (List.Perm.refl _) (fun w hh hs => svtake_spec t 2 _ 3 9 ⟨#[99]⟩ r3 w (small_of (by decide)) hr3 hs)) ?_
  rintro _ _ w5 ⟨_, rfl, _, r4, E4, rfl, hr4, ⟨i4, o4, s4, hi4, rfl, rfl⟩ | ⟨hno, _⟩⟩
  rotate_left
  · exact absurd rfl (hno 1 1 3)
  obtain ⟨rfl, h4⟩ | ⟨rfl, h4⟩ := has2 hi4
  · injection h4 with h4; injection h4 with h4; exact absurd h4 (by decide)
  simp at h4
  obtain ⟨rfl, rfl⟩ := h4
  replace hr4 : SvR t 2 [some (⟨#[97]⟩, 5, 0), none] 3 9 r4 := hr4
  have ht4 : TOk [some (⟨#[97]⟩, 5, 0), none] 3 9 := ⟨by omega, by omega, fun i k o s h => by
    obtain ⟨rfl, h⟩ | ⟨rfl, h⟩ := has2 h
    · simp at h; obtain ⟨_, rfl, rfl⟩ := h; omega
    · cases h⟩
  refine wl_f (f_move rfl) ?_
  refine wl_f (f_extract rfl rfl) ?_
  refine wl_f (f_extract rfl rfl) ?_
  refine wl_e (e_allocs [.string ByteArray.empty, .int .u64 0, .int .u64 0] (by kernel_rfl)) ?_
  rintro _ _ w7_5 ⟨b7_5, rfl, rfl⟩
  refine wl_e0 (e_store0 (us := [_, _, _]) rfl rfl rfl (by kernel_rfl) (by simp [Value.oneCell']) rfl rfl) ?_
  rintro _ _ w7_6 rfl
  refine wl_f (f_assign rfl) ?_
  refine wl_end [(1, _), (3, _), (4, _)] ⟨rfl, rfl, rfl, trivial⟩ ?_
  refine w_seq ?_
  refine w_reg ?_
  refine wl_f (f_move rfl) ?_
  refine wl_e (e_call1 r4 [_] rfl Try.func9 (by kernel_rfl) (pk1 1 rfl) (fun w hh hs => svadd_spec t 2 _ 3 9 ⟨#[100]⟩ 2 r4 w (small_of (by decide)) (by omega) ht4 hr4 hs)) ?_
  rintro _ _ w6 ⟨_, rfl, e5, E5, b5, t5, r5, rfl, rfl, hr5, hA5⟩
  obtain ⟨_, rfl, n5, E5', hf5, rfl⟩ := hA5.new (by decide) (by decide) (by decide) (hasnt2 (fun o s e => by injection e with e; injection e with e; exact absurd e (by decide)) (by simp))
  obtain ⟨rfl, rfl, rfl⟩ := free2_1 hf5
  replace hr5 : SvR t 2 [some (⟨#[97]⟩, 5, 0), some (⟨#[100]⟩, 2, 3)] 3 11 r5 := hr5
  refine wl_end [(1, _), (3, _), (4, _)] ⟨rfl, rfl, rfl, trivial⟩ ?_
  refine w_seq ?_
  refine w_reg ?_
  refine wl_f (f_move rfl) ?_
  refine wl_e (e_call1 r5 [_] rfl Try.func11 (by kernel_rfl) (List.Perm.refl _) (fun w hh hs => svget_spec t 2 _ 3 11 ⟨#[100]⟩ r5 w (small_of (by decide)) hr5 hs)) ?_
  rintro _ _ w7 ⟨_, rfl, ⟨i6, o6, s6, hi6, rfl⟩ | ⟨hno, _⟩, rfl⟩
  rotate_left
  · exact absurd rfl (hno 1 2 3)
  obtain ⟨rfl, h6⟩ | ⟨rfl, h6⟩ := has2 hi6
  · injection h6 with h6; injection h6 with h6; exact absurd h6 (by decide)
  simp at h6
  obtain ⟨rfl, rfl⟩ := h6
  refine wl_f (f_move rfl) ?_
  refine wl_f (f_extract rfl rfl) ?_
  refine wl_f (f_extract rfl rfl) ?_
  refine wl_e (e_allocs [.string ByteArray.empty, .int .u64 0, .int .u64 0] (by kernel_rfl)) ?_
  rintro _ _ w9_5 ⟨b9_5, rfl, rfl⟩
  refine wl_e0 (e_store0 (us := [_, _, _]) rfl rfl rfl (by kernel_rfl) (by simp [Value.oneCell']) rfl rfl) ?_
  rintro _ _ w9_6 rfl
  refine wl_f (f_assign rfl) ?_
  refine wl_end [(1, _), (3, _), (4, _), (5, _), (6, _)] ⟨rfl, rfl, rfl, rfl, rfl, trivial⟩ ?_
  refine w_seq ?_
  refine w_reg ?_
  refine wl_f (f_move rfl) ?_
  refine wl_f (f_move rfl) ?_
  refine wl_and (j := 1) (c := true) 3 [(1, _), (5, _), (6, _)] ⟨rfl, rfl, rfl, trivial⟩ rfl rfl rfl rfl rfl (fun hg10_5 => ?_) (fun w10_5 => ?_)
  · skip
    (first | refine wl_gf rfl rfl (f_loadsb (cs := [_, _, _]) 0 rfl Try.underlying34 rfl (by kernel_rfl) rfl rfl) ?_ | refine wl_gf rfl rfl (f_loadsb (cs := [_, _, _]) 1 rfl Try.underlying34 rfl (by kernel_rfl) rfl rfl) ?_ | refine wl_gf rfl rfl (f_loadsb (cs := [_, _, _]) 2 rfl Try.underlying34 rfl (by kernel_rfl) rfl rfl) ?_ | refine wl_gf rfl rfl (f_loadsb (cs := [_, _, _]) 3 rfl Try.underlying34 rfl (by kernel_rfl) rfl rfl) ?_ | refine wl_gf rfl rfl (f_loadsb (cs := [_, _, _]) 4 rfl Try.underlying34 rfl (by kernel_rfl) rfl rfl) ?_ | refine wl_gf rfl rfl (f_loadsb (cs := [_, _, _]) 5 rfl Try.underlying34 rfl (by kernel_rfl) rfl rfl) ?_ | refine wl_gf rfl rfl (f_loadsb (cs := [_, _, _]) 6 rfl Try.underlying34 rfl (by kernel_rfl) rfl rfl) ?_)
    refine wl_gf rfl rfl (f_build rfl (fun w => build_entry _ _ _ w)) ?_
    refine wl_gf rfl rfl (f_bin rfl rfl (fun w => by kernel_rfl) (v := .bool true) (fun w => by kernel_rfl)) ?_
    exact wl_pend rfl rfl ⟨rfl, rfl, rfl, trivial⟩ (List.Sublist.refl _)
  refine wl_f (f_move rfl) ?_
  refine wl_and (j := 6) (c := true) 1 [(1, _), (5, _)] ⟨rfl, rfl, trivial⟩ rfl rfl rfl rfl rfl (fun hg10_8 => ?_) (fun w10_8 => ?_)
  · skip
    refine wl_gf rfl rfl (f_move rfl) ?_
    exact wl_pend rfl rfl ⟨rfl, rfl, trivial⟩ (List.Sublist.refl _)
  refine wl_f (f_move rfl) ?_
  refine wl_and (j := 9) (c := true) 3 [(1, _)] ⟨rfl, trivial⟩ rfl rfl rfl rfl rfl (fun hg10_13 => ?_) (fun w10_13 => ?_)
  · skip
    (first | refine wl_gf rfl rfl (f_loadsb (cs := [_, _, _]) 0 rfl Try.underlying34 rfl (by kernel_rfl) rfl rfl) ?_ | refine wl_gf rfl rfl (f_loadsb (cs := [_, _, _]) 1 rfl Try.underlying34 rfl (by kernel_rfl) rfl rfl) ?_ | refine wl_gf rfl rfl (f_loadsb (cs := [_, _, _]) 2 rfl Try.underlying34 rfl (by kernel_rfl) rfl rfl) ?_ | refine wl_gf rfl rfl (f_loadsb (cs := [_, _, _]) 3 rfl Try.underlying34 rfl (by kernel_rfl) rfl rfl) ?_ | refine wl_gf rfl rfl (f_loadsb (cs := [_, _, _]) 4 rfl Try.underlying34 rfl (by kernel_rfl) rfl rfl) ?_ | refine wl_gf rfl rfl (f_loadsb (cs := [_, _, _]) 5 rfl Try.underlying34 rfl (by kernel_rfl) rfl rfl) ?_ | refine wl_gf rfl rfl (f_loadsb (cs := [_, _, _]) 6 rfl Try.underlying34 rfl (by kernel_rfl) rfl rfl) ?_)
    refine wl_gf rfl rfl (f_build rfl (fun w => build_entry _ _ _ w)) ?_
    refine wl_gf rfl rfl (f_bin rfl rfl (fun w => by kernel_rfl) (v := .bool true) (fun w => by kernel_rfl)) ?_
    exact wl_pend rfl rfl ⟨rfl, trivial⟩ (List.Sublist.refl _)
  refine wl_f (f_move rfl) ?_
  refine wl_and (j := 14) (c := true) 3 [] trivial rfl rfl rfl rfl rfl (fun hg10_18 => ?_) (fun w10_18 => ?_)
  · skip
    refine wl_gf rfl rfl (f_move rfl) ?_
    refine wl_ge rfl rfl (e_call1 r5 [_, _] rfl Try.func14 (by kernel_rfl) (pk1 1 rfl) (fun w hh hs => svuntracked_spec t 2 _ 3 11 r5 w hr5 hs)) ?_
    rintro _ _ w8 ⟨_, rfl, rfl, rfl⟩
    refine wl_gf rfl rfl (f_eql rfl rfl) ?_
    refine wl_pick [1, 0, 0] rfl ?_
    exact wl_pend rfl rfl trivial (List.Sublist.refl _)
  refine wl_f (f_assign rfl) ?_
  refine wl_end [(0, _)] ⟨rfl, trivial⟩ ?_
  refine w_ret ?_
  refine ⟨_, _, fun a ha hh => results_tmps Try.results13 rfl a ha _, List.Sublist.refl _, ?_⟩
  rfl
end Go.Proofs.Ytbcfdgnpdaaleaa
