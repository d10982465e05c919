/- Texts of this proof, part MA11: what the code does, step by step. They have no conditions. -/
import Derived.Test.YtbcfdgnpdaaleaaGreatMA8
import Derived.Test.YtbcfdgnpdaaleaaGreatMA2
import Derived.ProofKit
import Derived.Deep.Slices
import Derived.Test.YtbcfdgnpdaaleaaGreatMA4
import Derived.Test.YtbcfdgnpdaaleaaGreatRows
/- Tables of tracked keys: the example of the chapter. -/
namespace Go.Proofs.YtbcfdgnpdaaleaaGreat
open Go.RowKit

theorem hasnt2 {x y : Option En} {k : ByteArray} (hx : ∀ o s, x ≠ some (k, o, s)) (hy : ∀ o s, y ≠ some (k, o, s)) : Hasnt [x, y] k := by
  intro i o s h
  match i, h with
  | 0, h => exact hx o s (by simpa using h)
  | 1, h => exact hy o s (by simpa using h)
  | i + 2, h => simp at h
theorem AddG.new {m : Nat} {E E' : List (Option En)} {base base' total total' w : Nat} {k : ByteArray} {e : Int} (h : AddG m E base total k w e E' base' total') (hk : k ≠ ByteArray.empty) (hw : w ≠ 0) (ht : total + w ≤ 9223372036854775808) (hn : Hasnt E k) :
    e = 0 ∧ total' = total + w ∧ ∃ n E1, FreeG m E base n E1 base' ∧ E' = E1.set n (some (k, w, base')) := by
  rcases h with ⟨_, _, _, _, h⟩ | ⟨rfl, _, _, _, rfl, ⟨i, o, s, hi, _⟩ | ⟨_, h⟩⟩
  · rcases h with ⟨h, _⟩ | ⟨_, h, _⟩ | ⟨_, _, h, _⟩
    · exact absurd h hk
    · exact absurd h hw
    · omega
  · exact absurd hi (hn i o s)
  · exact ⟨rfl, rfl, h⟩
theorem free2_0 {y : Option En} {base base' n : Nat} {E1 : List (Option En)} (h : FreeG 2 [none, y] base n E1 base') : n = 0 ∧ E1 = [none, y] ∧ base' = base := by
  obtain ⟨hn, he, ⟨rfl, rfl, h⟩ | ⟨h, _⟩⟩ := h
  · match n, h with
    | 0, _ => exact ⟨rfl, rfl, rfl⟩
    | n + 1, h => obtain ⟨x, hx⟩ := h 0 (by omega); simp at hx
  · obtain ⟨x, hx⟩ := h 0 (by omega); simp at hx
theorem free2_1 {x : En} {base base' n : Nat} {E1 : List (Option En)} (h : FreeG 2 [some x, none] base n E1 base') : n = 1 ∧ E1 = [some x, none] ∧ base' = base := by
  obtain ⟨hn, he, ⟨rfl, rfl, h⟩ | ⟨h, _⟩⟩ := h
  · match n, he with
    | 0, he => simp at he
    | 1, _ => exact ⟨rfl, rfl, rfl⟩
    | n + 2, _ => omega
  · obtain ⟨x, hx⟩ := h 1 (by omega); simp at hx
theorem free2_2 {k1 k2 : ByteArray} {o1 s1 o2 s2 base base' n : Nat} {E1 : List (Option En)} (h : FreeG 2 [some (k1, o1, s1), some (k2, o2, s2)] base n E1 base') (hlt : o2 + s2 < o1 + s1) : n = 1 ∧ E1 = [some (k1, o1, s1), none] ∧ base' = o2 + s2 := by
  obtain ⟨hn, he, ⟨rfl, rfl, h⟩ | ⟨h, k, o, s, hi, rfl, rfl, hle⟩⟩ := h
  · match n, he with
    | 0, he => simp at he
    | 1, he => simp at he
    | n + 2, _ => omega
  · match n, hi with
    | 0, hi =>
      simp at hi
      obtain ⟨rfl, rfl, rfl⟩ := hi
      have := hle 1 k2 o2 s2 rfl
      omega
    | 1, hi =>
      simp at hi
      obtain ⟨rfl, rfl, rfl⟩ := hi
      exact ⟨rfl, rfl, rfl⟩
    | n + 2, _ => omega
theorem tok0 (m : Nat) : TOk (List.replicate m none) 0 0 := ⟨by omega, Nat.le_refl _, fun i k o s h => by rw [List.getElem?_replicate] at h; split at h <;> cases h⟩
theorem has2 {x y : Option En} {k : ByteArray} {i o s : Nat} (h : Has [x, y] k i o s) : (i = 0 ∧ x = some (k, o, s)) ∨ (i = 1 ∧ y = some (k, o, s)) := by
  match i, h with
  | 0, h => exact .inl ⟨rfl, by simpa [Has] using h⟩
  | 1, h => exact .inr ⟨rfl, by simpa [Has] using h⟩
  | i + 2, h => simp [Has] at h

set_option maxHeartbeats 4000000 in
theorem awake13_spec (w : World) : Spec Tryz.prog 26 [] w Nil fun r H => r = .bool true := by
  refine enter (n := 54) Tryz.func26 rfl rfl [] rfl trivial (Holds.start _ _) ?_
  refine w_seq ?_
  refine w_reg ?_
  refine wl_f (f_assign rfl) ?_
  refine wl_end [] trivial ?_
  refine w_seq ?_
  refine w_reg ?_
  refine wl_e (e_call0 rfl Tryz.func4 (by kernel_rfl) (fun w hh => svnew_ok 2 w (by omega) (by omega))) ?_
  rintro _ _ w1 ⟨_, rfl, t, r0, rfl, rfl, hr0⟩
  have ht0 := tok0 2
  refine wl_f (f_move rfl) ?_
  refine wl_f (f_extract rfl rfl) ?_
  refine wl_f (f_extract rfl rfl) ?_
  refine wl_f (f_assign rfl) ?_
  refine wl_f (f_assign rfl) ?_
  refine wl_end [(1, _), (2, _)] ⟨rfl, rfl, trivial⟩ ?_
  refine w_seq ?_
  refine w_seq ?_
  refine w_reg ?_
  refine wl_f (f_move rfl) ?_
  refine wl_f (f_neq rfl rfl) ?_
  refine wl_f (f_move rfl) ?_
  refine wl_or (j := 2) (c := false) 2 [(1, _)] ⟨rfl, trivial⟩ rfl rfl rfl rfl rfl (fun hg2_5 => ?_) (fun w2_5 => ?_)
  · skip
    refine wl_gf rfl rfl (f_move rfl) ?_
    refine wl_gf rfl rfl (f_eqlnil rfl rfl Tryz.underlying26) ?_
    exact wl_pend rfl rfl ⟨rfl, trivial⟩ (List.Sublist.refl _)
  refine wl_end [(1, _), (16, _)] ⟨rfl, rfl, trivial⟩ ?_
  refine w_iff rfl ?_
  refine w_skip ?_
  refine w_seq ?_
  refine w_reg ?_
  refine wl_f (f_move rfl) ?_
  refine wl_e (e_call1 r0 [] rfl Tryz.func8 (by kernel_rfl) (List.Perm.refl _) (fun w hh hs => svadd_spec t 2 [none, none] 0 0 ⟨#[97]⟩ 5 r0 w (small_of (by decide)) (by omega) ht0 hr0 hs)) ?_
  rintro _ _ w2 ⟨_, rfl, e1, E1, l1, b1, t1, r1, rfl, rfl, hr1, hA1, _⟩
  have ht1 := hA1.tok ht0
  obtain ⟨_, rfl, n1, E1', hf1, rfl⟩ := hA1.new (by decide) (by decide) (by decide) (hasnt2 (by simp) (by simp))
  obtain ⟨rfl, rfl, rfl⟩ := free2_0 hf1
  replace hr1 : SvR t 2 [some (⟨#[97]⟩, 5, 0), none] l1 0 5 r1 := hr1
  replace ht1 : TOk [some (⟨#[97]⟩, 5, 0), none] 0 5 := ht1
  refine wl_end [(1, _)] ⟨rfl, trivial⟩ ?_
  refine w_seq ?_
  refine w_reg ?_
  refine wl_f (f_move rfl) ?_
  refine wl_e (e_call1 r1 [] rfl Tryz.func8 (by kernel_rfl) (List.Perm.refl _) (fun w hh hs => svadd_spec t 2 _ 0 5 ⟨#[98]⟩ 3 r1 w (small_of (by decide)) (by omega) ht1 hr1 hs)) ?_
  rintro _ _ w3 ⟨_, rfl, e2, E2, l2, b2, t2, r2, rfl, rfl, hr2, hA2, _⟩
  have ht2 := hA2.tok ht1
  obtain ⟨_, rfl, n2, E2', hf2, rfl⟩ := hA2.new (by decide) (by decide) (by decide) (hasnt2 (fun o s e => by injection e with e; injection e with e; exact absurd e (by decide)) (by simp))
  obtain ⟨rfl, rfl, rfl⟩ := free2_1 hf2
  replace hr2 : SvR t 2 [some (⟨#[97]⟩, 5, 0), some (⟨#[98]⟩, 3, 0)] l2 0 8 r2 := hr2
  replace ht2 : TOk [some (⟨#[97]⟩, 5, 0), some (⟨#[98]⟩, 3, 0)] 0 8 := ht2
  refine wl_end [(1, _)] ⟨rfl, trivial⟩ ?_
  refine w_seq ?_
  refine w_reg ?_
  refine wl_f (f_move rfl) ?_
  refine wl_e (e_call1 r2 [] rfl Tryz.func8 (by kernel_rfl) (List.Perm.refl _) (fun w hh hs => svadd_spec t 2 _ 0 8 ⟨#[99]⟩ 1 r2 w (small_of (by decide)) (by omega) ht2 hr2 hs)) ?_
  rintro _ _ w4 ⟨_, rfl, e3, E3, l3, b3, t3, r3, rfl, rfl, hr3, hA3, _⟩
  have ht3 := hA3.tok ht2
  obtain ⟨_, rfl, n3, E3', hf3, rfl⟩ := hA3.new (by decide) (by decide) (by decide) (hasnt2 (fun o s e => by injection e with e; injection e with e; exact absurd e (by decide)) (fun o s e => by injection e with e; injection e with e; exact absurd e (by decide)))
  obtain ⟨rfl, rfl, rfl⟩ := free2_2 hf3 (by decide)
  replace hr3 : SvR t 2 [some (⟨#[97]⟩, 5, 0), some (⟨#[99]⟩, 1, 3)] l3 3 9 r3 := hr3
  replace ht3 : TOk [some (⟨#[97]⟩, 5, 0), some (⟨#[99]⟩, 1, 3)] 3 9 := ht3
  refine wl_end [(1, _)] ⟨rfl, trivial⟩ ?_
  refine w_seq ?_
  refine w_reg ?_
  refine wl_f (f_move rfl) ?_
  refine wl_e (e_call1 r3 [] rfl Tryz.func11 (by kernel_rfl) (List.Perm.refl _) (fun w hh hs => svtake_spec t 2 _ 3 9 ⟨#[99]⟩ r3 w (small_of (by decide)) hr3 hs)) ?_
  rintro _ _ w5 ⟨_, rfl, _, r4, E4, l4, rfl, hr4, ⟨i4, o4, s4, hi4, rfl, hl4, rfl⟩ | ⟨hno, _⟩⟩
  rotate_left
  · exact absurd rfl (hno 1 1 3)
  obtain ⟨rfl, h4⟩ | ⟨rfl, h4⟩ := has2 hi4
  · injection h4 with h4; injection h4 with h4; exact absurd h4 (by decide)
  simp at h4
  obtain ⟨rfl, rfl⟩ := h4
  replace hr4 : SvR t 2 [some (⟨#[97]⟩, 5, 0), none] l4 3 9 r4 := hr4
  have ht4 : TOk [some (⟨#[97]⟩, 5, 0), none] 3 9 := ⟨by omega, by omega, fun i k o s h => by
    obtain ⟨rfl, h⟩ | ⟨rfl, h⟩ := has2 h
    · simp at h; obtain ⟨_, rfl, rfl⟩ := h; omega
    · cases h⟩
  refine wl_f (f_move rfl) ?_
  refine wl_f (f_extract rfl rfl) ?_
  refine wl_f (f_extract rfl rfl) ?_
  refine wl_e (e_allocs [.string ByteArray.empty, .int .u64 0, .int .u64 0] (by kernel_rfl)) ?_
  rintro _ _ w7_5 ⟨b7_5, rfl, rfl⟩
  refine wl_e0 (e_store0 (us := [_, _, _]) rfl rfl rfl (by kernel_rfl) (by simp [Value.oneCell']) rfl rfl) ?_
  rintro _ _ w7_6 rfl
  refine wl_f (f_assign rfl) ?_
  refine wl_end [(1, _), (3, _), (4, _)] ⟨rfl, rfl, rfl, trivial⟩ ?_
  refine w_seq ?_
  refine w_reg ?_
  refine wl_f (f_move rfl) ?_
  refine wl_e (e_call1 r4 [_] rfl Tryz.func8 (by kernel_rfl) (pk1 1 rfl) (fun w hh hs => svadd_spec t 2 _ 3 9 ⟨#[100]⟩ 2 r4 w (small_of (by decide)) (by omega) ht4 hr4 hs)) ?_
  rintro _ _ w6 ⟨_, rfl, e5, E5, l5, b5, t5, r5, rfl, rfl, hr5, hA5, _⟩
  obtain ⟨_, rfl, n5, E5', hf5, rfl⟩ := hA5.new (by decide) (by decide) (by decide) (hasnt2 (fun o s e => by injection e with e; injection e with e; exact absurd e (by decide)) (by simp))
  obtain ⟨rfl, rfl, rfl⟩ := free2_1 hf5
  replace hr5 : SvR t 2 [some (⟨#[97]⟩, 5, 0), some (⟨#[100]⟩, 2, 3)] l5 3 11 r5 := hr5
  refine wl_end [(1, _), (3, _), (4, _)] ⟨rfl, rfl, rfl, trivial⟩ ?_
  refine w_seq ?_
  refine w_reg ?_
  refine wl_f (f_move rfl) ?_
  refine wl_e (e_call1 r5 [_] rfl Tryz.func16 (by kernel_rfl) (List.Perm.refl _) (fun w hh hs => svget_spec t 2 _ 3 11 ⟨#[100]⟩ r5 w (small_of (by decide)) hr5 hs)) ?_
  rintro _ _ w7 ⟨_, rfl, ⟨i6, o6, s6, hi6, rfl⟩ | ⟨hno, _⟩, rfl⟩
  rotate_left
  · exact absurd rfl (hno 1 2 3)
  obtain ⟨rfl, h6⟩ | ⟨rfl, h6⟩ := has2 hi6
  · injection h6 with h6; injection h6 with h6; exact absurd h6 (by decide)
  simp at h6
  obtain ⟨rfl, rfl⟩ := h6
  refine wl_f (f_move rfl) ?_
  refine wl_f (f_extract rfl rfl) ?_
  refine wl_f (f_extract rfl rfl) ?_
  refine wl_e (e_allocs [.string ByteArray.empty, .int .u64 0, .int .u64 0] (by kernel_rfl)) ?_
  rintro _ _ w9_5 ⟨b9_5, rfl, rfl⟩
  refine wl_e0 (e_store0 (us := [_, _, _]) rfl rfl rfl (by kernel_rfl) (by simp [Value.oneCell']) rfl rfl) ?_
  rintro _ _ w9_6 rfl
  refine wl_f (f_assign rfl) ?_
  refine wl_end [(1, _), (3, _), (4, _), (5, _), (6, _)] ⟨rfl, rfl, rfl, rfl, rfl, trivial⟩ ?_
  refine w_seq ?_
  refine w_reg ?_
  refine wl_f (f_move rfl) ?_
  refine wl_f (f_move rfl) ?_
  refine wl_and (j := 1) (c := true) 3 [(1, _), (5, _), (6, _)] ⟨rfl, rfl, rfl, trivial⟩ rfl rfl rfl rfl rfl (fun hg10_5 => ?_) (fun w10_5 => ?_)
  · skip
    (first | refine wl_gf rfl rfl (f_loadsb (cs := [_, _, _]) 0 rfl Tryz.underlying25 rfl (by kernel_rfl) rfl rfl) ?_ | refine wl_gf rfl rfl (f_loadsb (cs := [_, _, _]) 1 rfl Tryz.underlying25 rfl (by kernel_rfl) rfl rfl) ?_ | refine wl_gf rfl rfl (f_loadsb (cs := [_, _, _]) 2 rfl Tryz.underlying25 rfl (by kernel_rfl) rfl rfl) ?_ | refine wl_gf rfl rfl (f_loadsb (cs := [_, _, _]) 3 rfl Tryz.underlying25 rfl (by kernel_rfl) rfl rfl) ?_ | refine wl_gf rfl rfl (f_loadsb (cs := [_, _, _]) 4 rfl Tryz.underlying25 rfl (by kernel_rfl) rfl rfl) ?_ | refine wl_gf rfl rfl (f_loadsb (cs := [_, _, _]) 5 rfl Tryz.underlying25 rfl (by kernel_rfl) rfl rfl) ?_ | refine wl_gf rfl rfl (f_loadsb (cs := [_, _, _]) 6 rfl Tryz.underlying25 rfl (by kernel_rfl) rfl rfl) ?_)
    refine wl_gf rfl rfl (f_build rfl (fun w => build_entry _ _ _ w)) ?_
    refine wl_gf rfl rfl (f_bin rfl rfl (fun w => by kernel_rfl) (v := .bool true) (fun w => by kernel_rfl)) ?_
    exact wl_pend rfl rfl ⟨rfl, rfl, rfl, trivial⟩ (List.Sublist.refl _)
  refine wl_f (f_move rfl) ?_
  refine wl_and (j := 6) (c := true) 1 [(1, _), (5, _)] ⟨rfl, rfl, trivial⟩ rfl rfl rfl rfl rfl (fun hg10_8 => ?_) (fun w10_8 => ?_)
  · skip
    refine wl_gf rfl rfl (f_move rfl) ?_
    exact wl_pend rfl rfl ⟨rfl, rfl, trivial⟩ (List.Sublist.refl _)
  refine wl_f (f_move rfl) ?_
  refine wl_and (j := 9) (c := true) 3 [(1, _)] ⟨rfl, trivial⟩ rfl rfl rfl rfl rfl (fun hg10_13 => ?_) (fun w10_13 => ?_)
  · skip
    (first | refine wl_gf rfl rfl (f_loadsb (cs := [_, _, _]) 0 rfl Tryz.underlying25 rfl (by kernel_rfl) rfl rfl) ?_ | refine wl_gf rfl rfl (f_loadsb (cs := [_, _, _]) 1 rfl Tryz.underlying25 rfl (by kernel_rfl) rfl rfl) ?_ | refine wl_gf rfl rfl (f_loadsb (cs := [_, _, _]) 2 rfl Tryz.underlying25 rfl (by kernel_rfl) rfl rfl) ?_ | refine wl_gf rfl rfl (f_loadsb (cs := [_, _, _]) 3 rfl Tryz.underlying25 rfl (by kernel_rfl) rfl rfl) ?_ | refine wl_gf rfl rfl (f_loadsb (cs := [_, _, _]) 4 rfl Tryz.underlying25 rfl (by kernel_rfl) rfl rfl) ?_ | refine wl_gf rfl rfl (f_loadsb (cs := [_, _, _]) 5 rfl Tryz.underlying25 rfl (by kernel_rfl) rfl rfl) ?_ | refine wl_gf rfl rfl (f_loadsb (cs := [_, _, _]) 6 rfl Tryz.underlying25 rfl (by kernel_rfl) rfl rfl) ?_)
    refine wl_gf rfl rfl (f_build rfl (fun w => build_entry _ _ _ w)) ?_
    refine wl_gf rfl rfl (f_bin rfl rfl (fun w => by kernel_rfl) (v := .bool true) (fun w => by kernel_rfl)) ?_
    exact wl_pend rfl rfl ⟨rfl, trivial⟩ (List.Sublist.refl _)
  refine wl_f (f_move rfl) ?_
  refine wl_and (j := 14) (c := true) 3 [] trivial rfl rfl rfl rfl rfl (fun hg10_18 => ?_) (fun w10_18 => ?_)
  · skip
    refine wl_gf rfl rfl (f_move rfl) ?_
    refine wl_ge rfl rfl (e_call1 r5 [_, _] rfl Tryz.func21 (by kernel_rfl) (pk1 1 rfl) (fun w hh hs => svuntracked_spec t 2 _ 3 11 r5 w hr5 hs)) ?_
    rintro _ _ w8 ⟨_, rfl, rfl, rfl⟩
    refine wl_gf rfl rfl (f_eql rfl rfl) ?_
    refine wl_pick [1, 0, 0] rfl ?_
    exact wl_pend rfl rfl trivial (List.Sublist.refl _)
  refine wl_f (f_assign rfl) ?_
  refine wl_end [(0, _)] ⟨rfl, trivial⟩ ?_
  refine w_ret ?_
  refine ⟨_, _, fun a ha hh => results_tmps Tryz.results26 rfl a ha _, List.Sublist.refl _, ?_⟩
  rfl
end Go.Proofs.YtbcfdgnpdaaleaaGreat

/- The proof kit, sixth part: what comes in with a call of a law, and the step to the given row. -/
namespace Go.Proofs.YtbcfdgnpdaaleaaGreat
open Go.RowKit Go.WideShapes Go.ChangeShapes

/-! ### Sizes -/
section
variable {H : Type} {P : Program}

theorem weightsAll_mem {e : TypeId} : ∀ {ds : List (DataW H)} {d : DataW H} {x : Nat}, d ∈ ds → x ∈ d.weights P e → x ∈ DataW.weightsAll P e ds
  | [], _, _, h, _ => by cases h
  | c :: ds, d, x, h, hx => by
    rw [DataW.weightsAll, List.mem_append]
    rcases List.mem_cons.1 h with rfl | h
    · exact .inl hx
    · exact .inr (weightsAll_mem h hx)

theorem weightsEach_mem : ∀ {ts : List TypeId} {ds : List (DataW H)} {i : Nat} {t : TypeId} {d : DataW H} {x : Nat}, ts[i]? = some t → ds[i]? = some d → x ∈ d.weights P t → x ∈ DataW.weightsEach P ts ds
  | [], _, _, _, _, _, h, _, _ => by simp at h
  | _ :: _, [], _, _, _, _, _, h, _ => by simp at h
  | s :: ts, c :: ds, 0, t, d, x, h1, h2, hx => by
    simp at h1 h2
    subst h1; subst h2
    rw [DataW.weightsEach, List.mem_append]
    exact .inl hx
  | s :: ts, c :: ds, i + 1, t, d, x, h1, h2, hx => by
    rw [DataW.weightsEach, List.mem_append]
    exact .inr (weightsEach_mem (by simpa using h1) (by simpa using h2) hx)
end

/-! ### What a value reads as -/
section
variable {H : Type} (enc : TypeId × Value → H) (P : Program) (w : World)

/-- The cells read as a value of the type, no part of which is too large. -/
def Arg (t : TypeId) (cs : List Value) : Prop :=
  ∃ (fuel : Nat) (d : DataW H) (ps : List MemPlace), DataW.trod enc P w 0 (fun _ => true) true fuel t cs = some (d, ps) ∧ ∀ x ∈ d.weights P t, x ≤ reachBytes

variable {enc} {P} {w}

theorem arg_int {t : TypeId} {k : IntKind} {cs : List Value} (ht : P.underlying t = some (.int k)) (h : Arg enc P w t cs) : ∃ n, cs = [.int k n] ∧ (Lit.int k n).wf = true := by
  obtain ⟨fuel, d, ps, h, _⟩ := h
  obtain ⟨n, h1, _, h3⟩ := DataW.trod_int ht h
  exact ⟨n, h1, h3⟩
theorem arg_bool {t : TypeId} {cs : List Value} (ht : P.underlying t = some .bool) (h : Arg enc P w t cs) : ∃ b, cs = [.bool b] := by
  obtain ⟨fuel, d, ps, h, _⟩ := h
  obtain ⟨n, h1, _⟩ := DataW.trod_bool ht h
  exact ⟨n, h1⟩
theorem arg_string {t : TypeId} {cs : List Value} (ht : P.underlying t = some .string) (h : Arg enc P w t cs) : ∃ s : ByteArray, cs = [.string s] ∧ s.size ≤ 140737488351232 := by
  obtain ⟨fuel, d, ps, h, hw⟩ := h
  obtain ⟨s, h1, h2, _⟩ := DataW.trod_string ht h
  simp only [Prod.mk.injEq] at h2
  refine ⟨s, h1, ?_⟩
  have := hw s.data.toList.length (by rw [h2.1]; simp [DataW.weights])
  simp only [reachBytes, Array.length_toList] at this
  exact this
theorem arg_struct {t : TypeId} {fs : Array Field} {cs : List Value} (ht : P.underlying t = some (.struct fs)) (h : Arg enc P w t cs) :
    cs.length = P.cellsOf t ∧ ∀ (i : Nat) (f : Field), fs[i]? = some f → Arg enc P w f.type ((cs.drop f.offset).take (P.cellsOf f.type)) := by
  obtain ⟨fuel, d, ps, h, hw⟩ := h
  obtain ⟨xs, n, _, hx, hl, hlen, hg⟩ := DataW.trod_struct ht h
  simp only [Prod.mk.injEq] at hx
  refine ⟨hl, fun i f hf => ?_⟩
  have hi : i < xs.length := by have := (Array.getElem?_eq_some_iff.1 hf).1; omega
  refine ⟨n, xs[i].1, xs[i].2, by rw [hg i f hf, List.getElem?_eq_getElem hi], fun x hx' => hw x ?_⟩
  rw [hx.1]
  simp only [DataW.weights, ht]
  exact weightsEach_mem (i := i) (t := f.type) (d := xs[i].1) (by simp [hf]) (by simp [hi]) hx'

/-- A slice: n elements of sz cells. -/
theorem arg_slice {t e : TypeId} {sz bytes : Nat} {cs : List Value} (ht : P.underlying t = some (.slice e)) (hsz : P.cellsOf e = sz) (hpos : 0 < sz) (hby : P.bytesOf e = bytes) (h : Arg enc P w t cs) :
    ∃ A n c xs, cs = [.slice A n c] ∧ Rd w Nil sz (.slice A n c) n xs ∧ n * bytes ≤ 140737488351232 ∧ n ≤ maxLen ∧ ∀ i, i < n → Arg enc P w e ((xs.drop (i * sz)).take sz) := by
  obtain ⟨fuel, d, ps, h, hw⟩ := h
  rcases Go.Deep.open_slice ht h with ⟨rfl, _⟩ | ⟨a, len, cap, m, n, D, Pl, rfl, _, hl, hm, hmm, hx, hi⟩
  · exact ⟨.none, 0, 0, [], rfl, Rd.nil _ _ _, by omega, by simp [maxLen], by simp⟩
  · simp only [if_true] at hmm
    subst hmm
    rw [hsz] at hi
    simp only [Prod.mk.injEq] at hx
    have hlw : ∀ x ∈ (DataW.slice ((List.range len).map D) ((List.range (m - len)).map fun j => D (len + j))).weights P t, x ≤ reachBytes := by rw [← hx.1]; exact hw
    simp only [DataW.weights, ht] at hlw
    have hb := hlw _ (List.mem_cons_self ..)
    simp only [List.length_map, List.length_range, reachBytes, hby] at hb
    have hcell : ∀ j, j < len * sz → ∃ u, w.cell? (a.add j) = some u := fun j hj => by
      obtain ⟨cs', h1, _⟩ := hi (j / sz) (Nat.lt_of_lt_of_le ((Nat.div_lt_iff_lt_mul hpos).2 hj) hl)
      obtain ⟨_, h2, h3⟩ := World.cells?_some h1
      have h4 := h3 (j % sz) (Nat.mod_lt _ hpos)
      rw [Go.Deep.add_add, Nat.mul_comm, Nat.div_add_mod] at h4
      rw [h4, List.getElem?_eq_getElem (by rw [h2]; exact Nat.mod_lt _ hpos)]
      exact ⟨_, rfl⟩
    refine ⟨some a, len, m, (List.range (len * sz)).map fun j => (w.cell? (a.add j)).getD undef, rfl, ⟨some a, m, rfl, by simp, hl, ?_⟩, ?_, by omega, fun i hil => ?_⟩
    · rcases Nat.eq_zero_or_pos len with h0 | h0
      · exact .inl h0
      · right
        obtain ⟨u0, hu0⟩ := hcell 0 (Nat.mul_pos h0 hpos)
        have hspot : a.spot = .none := by
          rw [show a.add 0 = a by unfold Addr.add; simp] at hu0
          unfold World.cell? at hu0
          split at hu0
          · split at hu0
            · cases hu0
            · rename_i hs; simpa using hs
          · cases hu0
        obtain ⟨ab, ao, ap⟩ := a
        simp only at hspot
        subst hspot
        refine ⟨ab, ao, rfl, id, ?_, fun j u hu => ?_⟩
        · rw [show (⟨ab, ao, .none⟩ : Addr).add 0 = ⟨ab, ao, .none⟩ by unfold Addr.add; simp] at hu0
          exact World.block_lt_of_cell? w _ hu0
        · have hj : j < len * sz := by
            have := (List.getElem?_eq_some_iff.1 hu).1
            simpa using this
          obtain ⟨u', hu'⟩ := hcell j hj
          simp [hj, hu'] at hu
          subst hu
          rwa [add_eq] at hu'
    · have : len * bytes ≤ (len + (m - len)) * bytes := Nat.mul_le_mul_right _ (by omega)
      omega
    · obtain ⟨cs', h1, h2⟩ := hi i (by omega)
      obtain ⟨_, hcl, hat⟩ := World.cells?_some h1
      have he : (((List.range (len * sz)).map fun j => (w.cell? (a.add j)).getD undef).drop (i * sz)).take sz = cs' := by
        apply List.ext_getElem?
        intro j
        rw [List.getElem?_take]
        by_cases hj : j < sz
        · rw [if_pos hj, List.getElem?_drop]
          have hlt : i * sz + j < len * sz := by
            have : (i + 1) * sz ≤ len * sz := Nat.mul_le_mul_right _ hil
            rw [Nat.add_mul] at this
            omega
          have h3 := hat j hj
          rw [Go.Deep.add_add] at h3
          rw [List.getElem?_eq_getElem (show j < cs'.length by omega)] at h3 ⊢
          simp [hlt, h3]
        · rw [if_neg hj, List.getElem?_eq_none (by omega)]
      rw [he]
      refine ⟨n, D i, Pl i, h2, fun x hx' => hlw x ?_⟩
      refine List.mem_cons_of_mem _ (List.mem_append_left _ (weightsAll_mem ?_ hx'))
      simp only [List.mem_map, List.mem_range]
      exact ⟨i, hil, rfl⟩

/-- .. of elements of one cell each. -/
theorem arg_slice1 {t e : TypeId} {bytes : Nat} {cs : List Value} (ht : P.underlying t = some (.slice e)) (hsz : P.cellsOf e = 1) (hby : P.bytesOf e = bytes) (h : Arg enc P w t cs) :
    ∃ A n c xs, cs = [.slice A n c] ∧ Rd w Nil 1 (.slice A n c) n xs ∧ xs.length = n ∧ n * bytes ≤ 140737488351232 ∧ n ≤ maxLen ∧ ∀ u ∈ xs, Arg enc P w e [u] := by
  obtain ⟨A, n, c, xs, h1, h2, h3, h4, h5⟩ := arg_slice ht hsz (by omega) hby h
  have hl : xs.length = n := by obtain ⟨_, _, _, h, _⟩ := h2; omega
  refine ⟨A, n, c, xs, h1, h2, hl, h3, h4, fun u hu => ?_⟩
  obtain ⟨i, hi, rfl⟩ := List.getElem_of_mem hu
  have := h5 i (by omega)
  rw [Nat.mul_one] at this
  rwa [List.drop_eq_getElem_cons hi] at this

/-- A slice of integers. -/
theorem arg_ints {t e : TypeId} {bytes : Nat} {k : IntKind} {cs : List Value} (ht : P.underlying t = some (.slice e)) (he : P.underlying e = some (.int k)) (hsz : P.cellsOf e = 1) (hby : P.bytesOf e = bytes) (h : Arg enc P w t cs) :
    ∃ A c zs, cs = [.slice A (zs : List Int).length c] ∧ Rd w Nil 1 (.slice A zs.length c) zs.length (zs.map (Value.int k)) ∧ zs.length * bytes ≤ 140737488351232 ∧ zs.length ≤ maxLen ∧ ∀ z ∈ zs, (Lit.int k z).wf = true := by
  obtain ⟨A, n, c, xs, h1, h2, h3, h4, h5, h6⟩ := arg_slice1 ht hsz hby h
  have : ∀ xs : List Value, (∀ u ∈ xs, Arg enc P w e [u]) → ∃ zs : List Int, xs = zs.map (Value.int k) ∧ ∀ z ∈ zs, (Lit.int k z).wf = true := by
    intro xs
    induction xs with
    | nil => exact fun _ => ⟨[], rfl, by simp⟩
    | cons u xs ih =>
      intro hu
      obtain ⟨z, hz, hwf⟩ := arg_int he (hu u (List.mem_cons_self ..))
      obtain ⟨zs, rfl, hzs⟩ := ih fun v hv => hu v (List.mem_cons_of_mem _ hv)
      simp at hz
      subst hz
      exact ⟨z :: zs, rfl, fun y hy => (List.mem_cons.1 hy).elim (fun e => e ▸ hwf) (hzs y)⟩
  obtain ⟨zs, rfl, hzs⟩ := this xs h6
  simp only [List.length_map] at h3
  subst h3
  exact ⟨A, c, zs, h1, h2, h4, h5, hzs⟩

/-- A slice of strings. -/
theorem arg_strings {t e : TypeId} {cs : List Value} (ht : P.underlying t = some (.slice e)) (he : P.underlying e = some .string) (hsz : P.cellsOf e = 1) (hby : P.bytesOf e = 16) (h : Arg enc P w t cs) :
    ∃ A c l, cs = [.slice A (l : List ByteArray).length c] ∧ Rd w Nil 1 (.slice A l.length c) l.length (l.map Value.string) ∧ l.length * 16 ≤ 140737488351232 ∧ ∀ s ∈ l, s.size ≤ 140737488351232 := by
  obtain ⟨A, n, c, xs, h1, h2, h3, h4, _, h6⟩ := arg_slice1 ht hsz hby h
  have : ∀ xs : List Value, (∀ u ∈ xs, Arg enc P w e [u]) → ∃ l : List ByteArray, xs = l.map Value.string ∧ ∀ s ∈ l, s.size ≤ 140737488351232 := by
    intro xs
    induction xs with
    | nil => exact fun _ => ⟨[], rfl, by simp⟩
    | cons u xs ih =>
      intro hu
      obtain ⟨z, hz, hwf⟩ := arg_string he (hu u (List.mem_cons_self ..))
      obtain ⟨zs, rfl, hzs⟩ := ih fun v hv => hu v (List.mem_cons_of_mem _ hv)
      simp at hz
      subst hz
      exact ⟨z :: zs, rfl, fun y hy => (List.mem_cons.1 hy).elim (fun e => e ▸ hwf) (hzs y)⟩
  obtain ⟨l, rfl, hl⟩ := this xs h6
  simp only [List.length_map] at h3
  subst h3
  exact ⟨A, c, l, h1, h2, h4, hl⟩

/-- A slice of structs of two strings each. -/
theorem arg_pairs {t e : TypeId} {f0 f1 : Field} {cs : List Value} (ht : P.underlying t = some (.slice e)) (he : P.underlying e = some (.struct #[f0, f1])) (hsz : P.cellsOf e = 2) (hby : P.bytesOf e = 32)
    (k0 : P.underlying f0.type = some .string) (k1 : P.underlying f1.type = some .string) (o0 : f0.offset = 0) (o1 : f1.offset = 1) (c0 : P.cellsOf f0.type = 1) (c1 : P.cellsOf f1.type = 1) (h : Arg enc P w t cs) :
    ∃ A c l, cs = [.slice A (l : List (ByteArray × ByteArray)).length c] ∧ Rd w Nil 2 (.slice A l.length c) l.length (l.flatMap fun t => [.string t.1, .string t.2]) ∧ l.length * 32 ≤ 140737488351232 ∧
      ∀ s ∈ l, s.1.size ≤ 140737488351232 ∧ s.2.size ≤ 140737488351232 := by
  obtain ⟨A, n, c, xs, h1, h2, h4, _, h6⟩ := arg_slice ht hsz (by omega) hby h
  have hxl : xs.length = n * 2 := by obtain ⟨_, _, _, h, _⟩ := h2; exact h
  have : ∀ (n : Nat) (xs : List Value), xs.length = n * 2 → (∀ i, i < n → Arg enc P w e ((xs.drop (i * 2)).take 2)) → ∃ l : List (ByteArray × ByteArray), l.length = n ∧ xs = (l.flatMap fun t => [.string t.1, .string t.2]) ∧
      ∀ s ∈ l, s.1.size ≤ 140737488351232 ∧ s.2.size ≤ 140737488351232 := by
    intro n
    induction n with
    | zero => exact fun xs hx _ => ⟨[], rfl, by simpa using hx, by simp⟩
    | succ n ih =>
      intro xs hx hu
      match xs, hx with
      | [_], hx => simp at hx; omega
      | a :: b :: xs, hx =>
        obtain ⟨l, hl, hxs, hs⟩ := ih xs (by simp at hx; omega) fun i hi => by
          have := hu (i + 1) (by omega)
          rwa [show (i + 1) * 2 = i * 2 + 1 + 1 by omega, List.drop_succ_cons, List.drop_succ_cons] at this
        have h0 := hu 0 (by omega)
        simp only [Nat.zero_mul, List.drop_zero, List.take_succ_cons, List.take_zero] at h0
        obtain ⟨_, hf⟩ := arg_struct he h0
        obtain ⟨s, e1, e2⟩ := arg_string k0 (by simpa [o0, c0] using hf 0 f0 rfl)
        obtain ⟨r, e3, e4⟩ := arg_string k1 (by simpa [o1, c1] using hf 1 f1 rfl)
        simp at e1 e3
        subst e1; subst e3
        exact ⟨(s, r) :: l, by simp [hl], by simp [hxs], fun y hy => (List.mem_cons.1 hy).elim (fun e => e ▸ ⟨e2, e4⟩) (hs y)⟩
  obtain ⟨l, hl, rfl, hs⟩ := this n xs hxl h6
  subst hl
  exact ⟨A, c, l, h1, h2, h4, hs⟩
end

/-! ### The parameters -/
section
variable {H : Type} (enc : TypeId × Value → H) (P : Program) (w : World)

def Par (t : TypeId) (v : Value) : Prop := (∃ b, Value.okWide P w .any b t v) ∧ Arg enc P w t v.cells.toList
def Pars : List TypeId → List Value → Prop
  | [], [] => True
  | t :: ts, v :: vs => Par enc P w t v ∧ Pars ts vs
  | _, _ => False

variable {enc} {P} {w}
theorem pars_cons {t : TypeId} {ts : List TypeId} {vs : List Value} (h : Pars enc P w (t :: ts) vs) : ∃ v vs', vs = v :: vs' ∧ Par enc P w t v ∧ Pars enc P w ts vs' := by
  cases vs with
  | nil => cases h
  | cons v vs => exact ⟨v, vs, rfl, h⟩
theorem pars_nil {vs : List Value} (h : Pars enc P w [] vs) : vs = [] := by
  cases vs with
  | nil => rfl
  | cons v vs => cases h

theorem par_cell {t : TypeId} {v u : Value} (h : Par enc P w t v) (hs : ∀ fs, P.underlying t ≠ some (.struct fs)) (ha : ∀ n e, P.underlying t ≠ some (.array n e)) (hu : v.cells.toList = [u]) : v = u := by
  obtain ⟨⟨b, hv⟩, _⟩ := h
  unfold Value.okWide at hv
  split at hv
  · exact absurd ‹_› (hs _)
  · exact absurd ‹_› (ha _ _)
  · cases v with
    | agg cs =>
      exfalso
      unfold Cell.okWide at hv
      split at hv <;> simp_all [Cell.ok]
    | _ => simpa [Value.cells] using hu
theorem par_int {t : TypeId} {k : IntKind} {v : Value} (ht : P.underlying t = some (.int k)) (h : Par enc P w t v) : ∃ n, v = .int k n ∧ (Lit.int k n).wf = true := by
  obtain ⟨n, h1, h2⟩ := arg_int ht h.2
  exact ⟨n, par_cell h (by simp [ht]) (by simp [ht]) h1, h2⟩
theorem par_bool {t : TypeId} {v : Value} (ht : P.underlying t = some .bool) (h : Par enc P w t v) : ∃ b, v = .bool b := by
  obtain ⟨n, h1⟩ := arg_bool ht h.2
  exact ⟨n, par_cell h (by simp [ht]) (by simp [ht]) h1⟩
theorem par_string {t : TypeId} {v : Value} (ht : P.underlying t = some .string) (h : Par enc P w t v) : ∃ s : ByteArray, v = .string s ∧ s.size ≤ 140737488351232 := by
  obtain ⟨n, h1, h2⟩ := arg_string ht h.2
  exact ⟨n, par_cell h (by simp [ht]) (by simp [ht]) h1, h2⟩
theorem par_slice {t e : TypeId} {v u : Value} (ht : P.underlying t = some (.slice e)) (h : Par enc P w t v) (hu : v.cells.toList = [u]) : v = u := par_cell h (by simp [ht]) (by simp [ht]) hu
theorem par_struct {t : TypeId} {fs : Array Field} {v : Value} (ht : P.underlying t = some (.struct fs)) (h : Par enc P w t v) : ∃ cs : Array Value, v = .agg cs ∧ cs.size = P.cellsOf t ∧
    ∀ (i : Nat) (f : Field), fs[i]? = some f → Arg enc P w f.type ((cs.toList.drop f.offset).take (P.cellsOf f.type)) := by
  obtain ⟨⟨b, hv⟩, ha⟩ := h
  obtain ⟨cs, rfl, hs⟩ := okWide_struct ht hv
  exact ⟨cs, rfl, hs, (arg_struct ht ha).2⟩
theorem par_ints {t e : TypeId} {bytes : Nat} {k : IntKind} {v : Value} (ht : P.underlying t = some (.slice e)) (he : P.underlying e = some (.int k)) (hsz : P.cellsOf e = 1) (hby : P.bytesOf e = bytes) (h : Par enc P w t v) :
    ∃ A c zs, v = .slice A (zs : List Int).length c ∧ Rd w Nil 1 (.slice A zs.length c) zs.length (zs.map (Value.int k)) ∧ zs.length * bytes ≤ 140737488351232 ∧ zs.length ≤ maxLen ∧ ∀ z ∈ zs, (Lit.int k z).wf = true := by
  obtain ⟨A, c, zs, h1, h2⟩ := arg_ints ht he hsz hby h.2
  exact ⟨A, c, zs, par_slice ht h h1, h2⟩
theorem par_strings {t e : TypeId} {v : Value} (ht : P.underlying t = some (.slice e)) (he : P.underlying e = some .string) (hsz : P.cellsOf e = 1) (hby : P.bytesOf e = 16) (h : Par enc P w t v) :
    ∃ A c l, v = .slice A (l : List ByteArray).length c ∧ Rd w Nil 1 (.slice A l.length c) l.length (l.map Value.string) ∧ l.length * 16 ≤ 140737488351232 ∧ ∀ s ∈ l, s.size ≤ 140737488351232 := by
  obtain ⟨A, c, zs, h1, h2⟩ := arg_strings ht he hsz hby h.2
  exact ⟨A, c, zs, par_slice ht h h1, h2⟩
theorem par_pairs {t e : TypeId} {f0 f1 : Field} {v : Value} (ht : P.underlying t = some (.slice e)) (he : P.underlying e = some (.struct #[f0, f1])) (hsz : P.cellsOf e = 2) (hby : P.bytesOf e = 32)
    (k0 : P.underlying f0.type = some .string) (k1 : P.underlying f1.type = some .string) (o0 : f0.offset = 0) (o1 : f1.offset = 1) (c0 : P.cellsOf f0.type = 1) (c1 : P.cellsOf f1.type = 1) (h : Par enc P w t v) :
    ∃ A c l, v = .slice A (l : List (ByteArray × ByteArray)).length c ∧ Rd w Nil 2 (.slice A l.length c) l.length (l.flatMap fun t => [.string t.1, .string t.2]) ∧ l.length * 32 ≤ 140737488351232 ∧
      ∀ s ∈ l, s.1.size ≤ 140737488351232 ∧ s.2.size ≤ 140737488351232 := by
  obtain ⟨A, c, zs, h1, h2⟩ := arg_pairs ht he hsz hby k0 k1 o0 o1 c0 c1 h.2
  exact ⟨A, c, zs, par_slice ht h h1, h2⟩

/-- Bytes, as numbers. -/
theorem u8_nats : ∀ zs : List Int, (∀ z ∈ zs, (Lit.int .u8 z).wf = true) → ∃ l : List Nat, zs = l.map Int.ofNat ∧ l.length = zs.length ∧ ∀ b ∈ l, b < 256
  | [], _ => ⟨[], rfl, rfl, by simp⟩
  | z :: zs, h => by
    obtain ⟨l, hl, hn, hb⟩ := u8_nats zs fun y hy => h y (List.mem_cons_of_mem _ hy)
    have hz := h z (List.mem_cons_self ..)
    simp [Lit.wf, IntKind.min, IntKind.max, IntKind.signed, IntKind.bits] at hz
    refine ⟨z.toNat :: l, ?_, by simp [hn], fun y hy => ?_⟩
    · rw [hl, List.map_cons]
      congr 1
      show z = (z.toNat : Int)
      omega
    · rcases List.mem_cons.1 hy with rfl | hy
      · omega
      · exact hb y hy
end

/-! ### The row -/
section
variable {H : Type} {enc : TypeId × Value → H}

theorem pars_of {P : Program} {w : World} : ∀ {ts : List TypeId} {vs : List Value} {ds : List (DataW H)} {ps : List MemPlace},
    (∀ (j : Nat) t v, ts[j]? = some t → vs[j]? = some v → ∃ b, Value.okWide P w .any b t v) → DataW.TrodAll enc P w 0 (fun _ => true) true ts vs ds ps → (∀ x ∈ DataW.weightsEach P ts ds, x ≤ reachBytes) → Pars enc P w ts vs
  | [], vs, ds, ps, _, h, _ => by
    obtain ⟨rfl, _, _⟩ := trodAll_nil h
    trivial
  | t :: ts, vs, ds, ps, hv, h, hx => by
    obtain ⟨v, vs', d, ds', p, q, rfl, rfl, rfl, ⟨fuel, h1⟩, h2⟩ := trodAll_cons h
    rw [DataW.weightsEach] at hx
    exact ⟨⟨hv 0 t v rfl rfl, fuel, d, p, h1, fun x h => hx x (List.mem_append_left _ h)⟩,
      pars_of (fun j t' v' e1 e2 => hv (j + 1) t' v' (by simpa using e1) (by simpa using e2)) h2 fun x h => hx x (List.mem_append_right _ h)⟩

theorem trodAll_stays {P : Program} (hl : laidOutB P = true) {W W' : World} (hb : Below W.heap.size W W') {sp : Nat → Bool} : ∀ {ts : List TypeId} {vs : List Value} {ds : List (DataW H)} {ps : List MemPlace},
    (∀ t ∈ ts, P.readableRec t = true ∧ t < P.types.size) → DataW.TrodAll enc P W 0 (fun _ => true) true ts vs ds ps → (∀ x ∈ ps, x.block < W.heap.size) → (∀ x ∈ ps, sp x.block = true) → DataW.TrodAll enc P W' 0 sp true ts vs ds ps
  | [], vs, ds, ps, _, h, _, _ => by
    obtain ⟨rfl, rfl, rfl⟩ := trodAll_nil h
    rfl
  | t :: ts, vs, ds, ps, hr, h, hlt, hs => by
    obtain ⟨v, vs', d, ds', p, q, rfl, rfl, rfl, h1, h2⟩ := trodAll_cons h
    obtain ⟨r1, r2⟩ := hr t (List.mem_cons_self ..)
    exact ⟨p, q, WideElems.Trod_stays hl r1 r2 h1 (fun x hx => hb.same (hlt x (List.mem_append_left _ hx))) (fun x hx => hs x (List.mem_append_left _ hx)),
      trodAll_stays hl hb (fun t ht => hr t (List.mem_cons_of_mem _ ht)) h2 (fun x hx => hlt x (List.mem_append_right _ hx)) (fun x hx => hs x (List.mem_append_right _ hx)), rfl⟩

/-- A law that is true whatever comes in, and leaves what came in as it was. -/
theorem lifted_true {C : Checked} {os : Os} {n : FuncId} {fn : Func} {s : ChangeSpec} {fresh handsOn : Bool} {tb : TypeId}
    (own : ownKnob C.prog.godebug = none) (started : os.Started) (noInit : C.prog.inits.idxOf? n = none) (hfn : C.prog.funcs[n]? = some fn)
    (witness : ∃ (w : World) (tape : Tape) (i : Input), w.os = os ∧ (w.forCall tape i).Shaped C.prog ∧ i.vars = [] ∧ Input.okWide C.prog (w.forCall tape i) .any w.heap.size n i ∧
      s.pre6 enc C.prog fn [] false (w.forCall tape i).memory i.args ∧ ({} : Assume).holds C.prog (lone (Frame.enter C.prog n i.args .normal) [] (w.forCall tape i)))
    (hvars : s.vars = []) (hs : ∀ ds : List (DataW H), ds.length = fn.params.size → s.fn H ds = { results := [.lit (.bool true)], args := ds })
    (hl : laidOutB C.prog = true) (hr : fn.params.toList.all (fun t => C.prog.readableRec t && decide (t < C.prog.types.size)) = true) (hres : fn.resultTypes = #[tb]) (htb : C.prog.underlying tb = some .bool)
    (h : ∀ (W : World) (args : List Value), Pars enc C.prog W fn.params.toList args → Spec C.prog n args W Nil fun r _ => r = .bool true) :
    ReturnsInHanded {} C os n .any (s.pre6 enc C.prog fn [] false) (s.post enc C.prog fn false fresh handsOn false) := by
  refine returnsInHanded_of_change_sized own started noInit hfn witness ?_
  intro W base args ds gs before hval hW _ hsz _
  have hW' := hW
  obtain ⟨p, q, hA, hV, rfl, hfz, hnd⟩ := hW
  rw [hvars] at hV
  obtain ⟨rfl, rfl⟩ := trodVars_none hV
  have hvt : s.plain.varTypes C.prog = [] := by simp [DataSpec.varTypes, ChangeSpec.plain, hvars]
  rw [hvt, List.append_nil, List.append_nil] at hsz
  have hP : Pars enc C.prog W fn.params.toList args.toList :=
    pars_of (fun j t v e1 e2 => ⟨base, hval j t v (by simpa using e1) (by simpa using e2)⟩) hA fun x hx => by
      have := List.all_eq_true.1 hsz x hx
      simpa using this
  have hlt : ∀ x ∈ p, x.block < W.heap.size := fun x hx => hW'.lt x (List.mem_append_left _ hx)
  have hspec := h W args.toList hP
  unfold Spec at hspec
  rw [show args.toList.toArray = args from rfl] at hspec
  refine hspec.mono fun e W' ⟨v, H1, he, hh, hv⟩ => ⟨v, he, ?_⟩
  subst hv
  have hb : Below W.heap.size W W' := hh.1.below
  have hdl : ds.length = fn.params.size := by
    have : ∀ {ts : List TypeId} {vs : List Value} {ds : List (DataW H)} {ps : List MemPlace}, DataW.TrodAll enc C.prog W 0 (fun _ => true) true ts vs ds ps → ds.length = ts.length := by
      intro ts
      induction ts with
      | nil => intro vs ds ps h; obtain ⟨_, rfl, _⟩ := trodAll_nil h; rfl
      | cons t ts ih => intro vs ds ps h; obtain ⟨_, _, _, _, _, _, _, rfl, _, _, h2⟩ := trodAll_cons h; simp [ih h2]
    simpa using this hA
  have hrl : (Value.bool true).resultList fn.resultTypes.size = [.bool true] := by rw [hres]; rfl
  refine ⟨ds, [], p ++ [], [], p, [], hW', ?_, ?_, ?_, ?_, fun h => by cases h⟩
  · rw [List.append_nil, hs ds hdl, hrl, hres]
    exact trodAll_mk1 (shut_bool htb true)
  · rw [List.append_nil, hs ds hdl]
    exact trodAll_stays hl hb (fun t ht => by simpa only [Bool.and_eq_true, decide_eq_true_eq] using List.all_eq_true.1 hr t ht) hA hlt fun x hx => by simpa using hlt x hx
  · rw [List.append_nil, hs ds hdl, hvars]
    rfl
  · exact World.keptBut_mono (fun x hx => ⟨hx, .inr (.inl (by simpa using hx))⟩) (hb.frame (· ∈ p ++ []))
end
end Go.Proofs.YtbcfdgnpdaaleaaGreat

/- What comes in, by type: numbers, lists of numbers, texts. -/
namespace Go.Proofs.YtbcfdgnpdaaleaaGreat
open Go.RowKit

theorem Tryz.own : ownKnob Tryz.prog.godebug = none := by kernel_rfl
theorem Tryz.laidOut : laidOutB Tryz.prog = true := by kernel_rfl

section
variable {H : Type} {enc : TypeId × Value → H} {w : World}

theorem i64_wf {n : Int} (h : (Lit.int .i64 n).wf = true) : -9223372036854775808 ≤ n ∧ n ≤ 9223372036854775807 := by
  simpa [Lit.wf, IntKind.min, IntKind.max, IntKind.signed, IntKind.bits] using h
theorem u64_wf {n : Int} (h : (Lit.int .u64 n).wf = true) : ∃ k : Nat, n = k ∧ k < 18446744073709551616 := by
  simp [Lit.wf, IntKind.min, IntKind.max, IntKind.signed, IntKind.bits] at h
  exact ⟨n.toNat, by omega, by omega⟩
theorem u32_wf {n : Int} (h : (Lit.int .u32 n).wf = true) : ∃ k : Nat, n = k ∧ k < 4294967296 := by
  simp [Lit.wf, IntKind.min, IntKind.max, IntKind.signed, IntKind.bits] at h
  exact ⟨n.toNat, by omega, by omega⟩
theorem u16_wf {n : Int} (h : (Lit.int .u16 n).wf = true) : ∃ k : Nat, n = k ∧ k < 65536 := by
  simp [Lit.wf, IntKind.min, IntKind.max, IntKind.signed, IntKind.bits] at h
  exact ⟨n.toNat, by omega, by omega⟩
theorem u8_wf {n : Int} (h : (Lit.int .u8 n).wf = true) : ∃ k : Nat, n = k ∧ k < 256 := by
  simp [Lit.wf, IntKind.min, IntKind.max, IntKind.signed, IntKind.bits] at h
  exact ⟨n.toNat, by omega, by omega⟩
theorem par_iv {v : Value} (h : Par enc Tryz.prog w 22 v) : ∃ A c zs, v = .slice A (zs : List Int).length c ∧ Rd w Nil 1 (.slice A zs.length c) zs.length (iv zs) ∧ zs.length * 8 ≤ 140737488351232 ∧ ∀ z ∈ zs, -9223372036854775808 ≤ z ∧ z ≤ 9223372036854775807 := by
  obtain ⟨A, c, zs, h1, h2, h3, _, h4⟩ := par_ints (bytes := 8) Tryz.underlying22 Tryz.underlying3 (by kernel_rfl) (by kernel_rfl) h
  exact ⟨A, c, zs, h1, h2, h3, fun z hz => i64_wf (h4 z hz)⟩
theorem par_sv {v : Value} (h : Par enc Tryz.prog w 83 v) : ∃ A c l, v = .slice A (l : List ByteArray).length c ∧ Rd w Nil 1 (.slice A l.length c) l.length (sv l) ∧ l.length * 16 ≤ 140737488351232 ∧ ∀ s ∈ l, s.size ≤ 140737488351232 :=
  par_strings Tryz.underlying83 Tryz.underlying9 (by kernel_rfl) (by kernel_rfl) h
theorem par_uv {v : Value} (h : Par enc Tryz.prog w 59 v) : ∃ A c T, v = .slice A (T : List Nat).length c ∧ Rd w Nil 1 (.slice A T.length c) T.length (u64v T) ∧ T.length * 8 ≤ 140737488351232 := by
  obtain ⟨A, c, zs, h1, h2, h3, _, h4⟩ := par_ints (bytes := 8) Tryz.underlying59 Tryz.underlying23 (by kernel_rfl) (by kernel_rfl) h
  have e : (zs.map Int.toNat).map (fun c : Nat => Value.int .u64 (c : Int)) = zs.map (Value.int .u64) := by
    rw [List.map_map]
    refine List.map_congr_left fun z hz => ?_
    obtain ⟨k, rfl, _⟩ := u64_wf (h4 z hz)
    rfl
  have hl : (zs.map Int.toNat).length = zs.length := List.length_map ..
  refine ⟨A, c, zs.map Int.toNat, by rw [hl]; exact h1, ?_, by rw [hl]; exact h3⟩
  rw [hl, u64v, e]
  exact h2
end
end Go.Proofs.YtbcfdgnpdaaleaaGreat
