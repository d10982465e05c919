/- Tables by the method of Misra and Gries: adding. -/
import Derived.Test.YtkoklfagmbaapaaQ7
import Derived.Test.YtkoklfagmbaapaaK17
import Derived.Test.YtkoklfagmbaapaaQS
namespace Go.Proofs.Ytkoklfagmbaapaa
open Go.RowKit

theorem srt_exists {l : List ByteArray} (hn : l.Nodup) : ∃ l', l'.Perm l ∧ Srts l' := by
  refine ⟨l.mergeSort (fun a b => !nlt b a), List.mergeSort_perm _ _, wks_srts ?_ ((List.mergeSort_perm _ _).nodup_iff.2 hn)⟩
  have h := List.pairwise_mergeSort (le := fun a b => !nlt b a) (fun a b c h1 h2 => by
    simp only [Bool.not_eq_true'] at h1 h2 ⊢
    exact nle_trans h1 h2) (fun a b => by
    cases h : nlt b a
    · simp
    · simp [nlt_asymm h]) l
  exact h.imp fun h => by simpa using h
theorem TbR.sm {α : Type} {K : VI α} {b n : Nat} {T : List Nat} {seed : Int} {M : List (ByteArray × α)} {r : Res} (h : TbR K b n T seed M r) : ∀ k ∈ keys M, small k := fun k hk => by
  obtain ⟨N, cs, hC, hI, hM, hle, hsm⟩ := h
  obtain ⟨v, hv⟩ := mem_keys.1 hk
  exact hsm _ (hM.mem_iff.2 hv)
def dmin (v : Nat) (M : UM) (ks : List ByteArray) : Nat := ks.foldl (fun d k => min d ((mget M k).getD 0)) v
theorem dmin_le (M : UM) : ∀ (ks : List ByteArray) (v : Nat), dmin v M ks ≤ v
  | [], v => Nat.le_refl v
  | k :: ks, v => Nat.le_trans (dmin_le M ks _) (Nat.min_le_left _ _)
theorem dmin_mem (M : UM) : ∀ (ks : List ByteArray) (v : Nat) (k : ByteArray), k ∈ ks → dmin v M ks ≤ (mget M k).getD 0
  | x :: ks, v, k, h => by
    rcases List.mem_cons.1 h with rfl | h
    · exact Nat.le_trans (dmin_le M ks _) (Nat.min_le_right _ _)
    · exact dmin_mem M ks _ k h
def FOk (M : UM) (ded total : Nat) : Prop := total ≤ 9223372036854775808 ∧ ded ≤ total ∧ ∀ k o, mget M k = some o → o ≤ total
def FAddG (m : Nat) (M : UM) (ded total : Nat) (k : ByteArray) (v : Nat) (e : Int) (M' : UM) (ded' total' : Nat) : Prop :=
  (e ≠ 0 ∧ M' = M ∧ ded' = ded ∧ total' = total ∧ (k = ByteArray.empty ∧ e = 3 ∨ k ≠ ByteArray.empty ∧ v = 0 ∧ e = 1 ∨ k ≠ ByteArray.empty ∧ v ≠ 0 ∧ 9223372036854775808 < total + v ∧ e = 12)) ∨
  (e = 0 ∧ k ≠ ByteArray.empty ∧ v ≠ 0 ∧ total + v ≤ 9223372036854775808 ∧ total' = total + v ∧
    ((∃ o, mget M k = some o ∧ M' = (k, o + v) :: mdel M k ∧ ded' = ded) ∨ (mget M k = none ∧ M.length < m ∧ M' = (k, v) :: M ∧ ded' = ded) ∨
      (mget M k = none ∧ M.length = m ∧ ∃ ks, ks.Perm (keys M) ∧ Srts ks ∧ ded' = ded + dmin v M ks ∧
        M' = if dmin v M ks < v then (k, v - dmin v M ks) :: ks.foldl (dstep (dmin v M ks)) M else ks.foldl (dstep (dmin v M ks)) M)))

theorem dmin_snoc (v : Nat) (M : UM) (pre : List ByteArray) (k : ByteArray) : dmin v M (pre ++ [k]) = min (dmin v M pre) ((mget M k).getD 0) := by
  rw [dmin, List.foldl_append, List.foldl_cons, List.foldl_nil]; rfl
theorem dmin_att (M : UM) : ∀ (ks : List ByteArray) (v : Nat), dmin v M ks < v → ∃ k ∈ ks, (mget M k).getD 0 = dmin v M ks
  | [], v, h => absurd h (Nat.lt_irrefl v)
  | x :: ks, v, h => by
    have e : dmin v M (x :: ks) = dmin (min v ((mget M x).getD 0)) M ks := rfl
    rw [e] at h ⊢
    by_cases hl : dmin (min v ((mget M x).getD 0)) M ks < min v ((mget M x).getD 0)
    · obtain ⟨k, hk, hke⟩ := dmin_att M ks _ hl
      exact ⟨k, List.mem_cons_of_mem _ hk, hke⟩
    · have := dmin_le M ks (min v ((mget M x).getD 0))
      exact ⟨x, List.mem_cons_self .., by omega⟩
theorem isSome_in {α : Type} {M : List (ByteArray × α)} {k : ByteArray} (h : k ∈ keys M) : ∃ o, mget M k = some o := by
  have := mget_in h
  cases e : mget M k with
  | none => rw [e] at this; cases this
  | some o => exact ⟨o, rfl⟩
theorem dstep_len {d : Nat} {M : UM} {k : ByteArray} (h : k ∈ keys M) : (dstep d M k).length ≤ M.length ∧ ((mget M k).getD 0 = d → (dstep d M k).length < M.length) := by
  have := mdel_lt h
  unfold dstep
  split
  · exact ⟨by omega, fun _ => this⟩
  · rename_i hne
    exact ⟨by rw [List.length_cons]; omega, fun e => absurd e hne⟩
theorem dfold_len {d : Nat} : ∀ (ks : List ByteArray) (M : UM), ks.Nodup → (∀ k ∈ ks, k ∈ keys M) → (ks.foldl (dstep d) M).length ≤ M.length ∧ ((∃ k ∈ ks, (mget M k).getD 0 = d) → (ks.foldl (dstep d) M).length < M.length)
  | [], M, _, _ => ⟨Nat.le_refl _, fun ⟨_, h, _⟩ => by cases h⟩
  | k :: ks, M, hn, hk => by
    rw [List.nodup_cons] at hn
    have h1 := dstep_len (d := d) (hk k (List.mem_cons_self ..))
    have hne : ∀ q ∈ ks, mget (dstep d M k) q = mget M q := fun q hq => dstep_ne (fun e => hn.1 (by rw [e]; exact hq))
    have h2 := dfold_len (d := d) ks (dstep d M k) hn.2 (fun q hq => by
      obtain ⟨o, ho⟩ := isSome_in (hk q (List.mem_cons_of_mem _ hq))
      exact mget_key ((hne q hq).trans ho))
    rw [List.foldl_cons]
    refine ⟨Nat.le_trans h2.1 h1.1, ?_⟩
    rintro ⟨q, hq, he⟩
    rcases List.mem_cons.1 hq with rfl | hq
    · exact Nat.lt_of_le_of_lt h2.1 (h1.2 he)
    · exact Nat.lt_of_lt_of_le (h2.2 ⟨q, hq, by rw [hne q hq]; exact he⟩) h1.1

set_option maxHeartbeats 8000000 in
theorem fradd_spec (t m : Nat) (M : UM) (ded total : Nat) (k : ByteArray) (v : Nat) (r : Res) (w : World) (hm12 : m ≤ 12) (hk : small k) (hv : v < 18446744073709551616) (hok : FOk M ded total) (hr : FrR t m M ded total r) (hs : Holds w r.foot [r] w) :
    Spec Try.prog 11 [.pointer (some ⟨t, 0, .none⟩), .string k, .int .u64 (v : Int)] w r.foot fun u H => ∃ (e : Int) (M' : UM) (ded' total' : Nat) (r' : Res), u = .int .i64 e ∧ H = [r'] ∧ FrR t m M' ded' total' r' ∧ FAddG m M ded total k v e M' ded' total' := by
  have hr0 := hr
  obtain ⟨hm1, hm2, bX, rX, T, rfl, hX⟩ := hr
  obtain ⟨ht1, ht2, ht3⟩ := id hok
  have hMl := hX.len
  refine ISpec.spec ?_
  refine g_enter (n := 91) Try.func11 rfl rfl [(0, _), (1, _), (2, _)] rfl ⟨rfl, rfl, rfl, trivial⟩ hs ?_
  refine g_seq ?_
  refine g_reg (noDefer_of rfl) ?_
  refine wl_f (f_assign rfl) ?_
  refine wl_end [(0, _), (1, _), (2, _)] ⟨rfl, rfl, rfl, trivial⟩ ?_
  refine g_seq ?_
  refine g_block ?_
  refine g_seq ?_
  refine g_reg (noDefer_of rfl) ?_
  refine wl_f (f_move rfl) ?_
  refine wl_f (f_eqlnil rfl rfl Try.underlying24) ?_
  refine wl_f (f_assign rfl) ?_
  refine wl_end [(0, _), (1, _), (2, _), (12, _)] ⟨rfl, rfl, rfl, rfl, trivial⟩ ?_
  refine g_if (b := false) rfl (fun h => by cases h) (fun _ => ?_)
  refine g_seq ?_
  refine g_reg (noDefer_of rfl) ?_
  refine wl_f (f_move rfl) ?_
  refine wl_f (f_eqls rfl rfl) ?_
  refine wl_f (f_assign rfl) ?_
  refine wl_end [(0, _), (1, _), (2, _), (15, _)] ⟨rfl, rfl, rfl, rfl, trivial⟩ ?_
  refine g_ifd rfl (fun hc2 => ?_) (fun hc2 => ?_)
  · obtain rfl : k = ByteArray.empty := hc2
    refine g_seq ?_
    refine g_reg (noDefer_of rfl) ?_
    refine wl_f (f_assign rfl) ?_
    refine wl_end [(6, _)] ⟨rfl, trivial⟩ ?_
    refine g_ret ?_
    exact ⟨_, _, _, fun a w2 ha hh => results_tmps Try.results11 rfl a ha _, List.Sublist.refl _, ⟨3, M, ded, total, _, rfl, rfl, hr0, .inl ⟨by decide, rfl, rfl, rfl, .inl ⟨rfl, rfl⟩⟩⟩, .inl ⟨rfl, rfl⟩⟩
  have hk0 : k ≠ ByteArray.empty := hc2
  refine g_seq ?_
  refine g_reg (noDefer_of rfl) ?_
  refine wl_f (f_move rfl) ?_
  refine wl_f (f_eql rfl rfl) ?_
  refine wl_f (f_assign rfl) ?_
  refine wl_end [(0, _), (1, _), (2, _), (18, _)] ⟨rfl, rfl, rfl, rfl, trivial⟩ ?_
  refine g_ifd rfl (fun hc3 => ?_) (fun hc3 => ?_)
  · have hv0 : v = 0 := by
      have : (v : Int) = 0 := hc3
      omega
    refine g_seq ?_
    refine g_reg (noDefer_of rfl) ?_
    refine wl_f (f_assign rfl) ?_
    refine wl_end [(6, _)] ⟨rfl, trivial⟩ ?_
    refine g_ret ?_
    exact ⟨_, _, _, fun a w2 ha hh => results_tmps Try.results11 rfl a ha _, List.Sublist.refl _, ⟨1, M, ded, total, _, rfl, rfl, hr0, .inl ⟨by decide, rfl, rfl, rfl, .inr (.inl ⟨hk0, hv0, rfl⟩)⟩⟩, .inl ⟨rfl, rfl⟩⟩
  have hv0 : v ≠ 0 := fun h => hc3 (by rw [h]; rfl)
  refine g_seq ?_
  refine g_reg (noDefer_of rfl) ?_
  refine wl_f (f_move rfl) ?_
  refine wl_f (f_nilCheck rfl) ?_
  refine wl_f (f_fieldAddr 3 rfl Try.underlying66 rfl rfl (by kernel_rfl)) ?_
  refine wl_f (f_loadB 0 0 rfl rfl rfl Try.underlying33 rfl rfl) ?_
  refine wl_f (f_move rfl) ?_
  refine wl_e (e_call0 rfl Try.func33 (by kernel_rfl) (fun w hh => satfits_spec total v w (by omega) hv)) ?_
  rintro _ _ w1 ⟨_, rfl, rfl, rfl⟩
  refine wl_f (f_not rfl rfl) ?_
  refine wl_f (f_assign rfl) ?_
  refine wl_end [(0, _), (1, _), (2, _), (21, _)] ⟨rfl, rfl, rfl, rfl, trivial⟩ ?_
  refine g_ifb rfl (fun hc4 => ?_) (fun hc4 => ?_)
  · have hov : 9223372036854775808 < total + v := by simpa using hc4
    refine g_seq ?_
    refine g_reg (noDefer_of rfl) ?_
    refine wl_f (f_assign rfl) ?_
    refine wl_end [(6, _)] ⟨rfl, trivial⟩ ?_
    refine g_ret ?_
    exact ⟨_, _, _, fun a w2 ha hh => results_tmps Try.results11 rfl a ha _, List.Sublist.refl _, ⟨12, M, ded, total, _, rfl, rfl, hr0, .inl ⟨by decide, rfl, rfl, rfl, .inr (.inr ⟨hk0, hv0, hov, rfl⟩)⟩⟩, .inl ⟨rfl, rfl⟩⟩
  have hov : total + v ≤ 9223372036854775808 := by simpa using hc4
  refine g_skip ?_
  refine g_unb [ftab t bX m ded total, rX] ?_
  refine g_seq ?_
  refine g_reg (noDefer_of rfl) ?_
  refine wl_f (f_move rfl) ?_
  refine wl_f (f_nilCheck rfl) ?_
  refine wl_f (f_fieldAddr 3 rfl Try.underlying66 rfl rfl (by kernel_rfl)) ?_
  refine wl_f (f_loadb 0 rfl Try.underlying33 rfl rfl rfl) ?_
  refine wl_f (f_move rfl) ?_
  refine wl_f (f_eqv (v' := .int .u64 ((total + v : Nat) : Int)) (f_addu rfl rfl (by omega)) (by rw [Int.natCast_add])) ?_
  refine wl_f (f_nilCheck rfl) ?_
  refine wl_f (f_fieldAddr 3 rfl Try.underlying66 rfl rfl (by kernel_rfl)) ?_
  refine wl_e0 (e_store0 (us := [_]) rfl rfl rfl (by kernel_rfl) (by simp [Value.oneCell']) rfl rfl) ?_
  rintro _ _ w9_8 rfl
  refine wl_end [(0, _), (1, _), (2, _)] ⟨rfl, rfl, rfl, trivial⟩ ?_
  refine g_seq ?_
  refine g_reg (noDefer_of rfl) ?_
  refine wl_f (f_move rfl) ?_
  refine wl_f (f_nilCheck rfl) ?_
  refine wl_f (f_fieldAddr 1 rfl Try.underlying66 rfl rfl (by kernel_rfl)) ?_
  refine wl_f (f_loadb 0 rfl Try.underlying61 rfl rfl rfl) ?_
  refine wl_f (f_move rfl) ?_
  refine wl_e (e_call1 rX [_] rfl Try.func34 (by kernel_rfl) (pk1 1 rfl) (fun w hh hs' => uxget_spec bX m T 0 M rX k w hk hX hs')) ?_
  rintro _ _ w2 ⟨_, rfl, rfl, rfl⟩
  refine wl_f (f_move rfl) ?_
  refine wl_f (f_extract rfl rfl) ?_
  refine wl_f (f_extract rfl rfl) ?_
  refine wl_f (f_assign rfl) ?_
  refine wl_f (f_assign rfl) ?_
  refine wl_pick [1, 0] rfl ?_
  refine wl_end [(0, _), (1, _), (2, _), (7, _), (8, _)] ⟨rfl, rfl, rfl, rfl, rfl, trivial⟩ ?_
  refine g_seq ?_
  refine g_seq ?_
  refine g_post (fun ds m' H w' => ds = [] ∧ m' = [(0, .pointer (some ⟨t, 0, .none⟩)), (1, .string k), (2, .int .u64 (v : Int)), (7, .int .u64 (((mget M k).getD 0 : Nat) : Int)), (58, .bool ((mget M k).isSome || decide (M.length < m)))] ∧ H = [ftab t bX m ded (total + v), rX]) ?_ ?_
  · cases hg : mget M k with
    | some o =>
      refine g_draw [(0, true), (1, true), (2, true), (3, true), (4, true), (5, true), (7, true), (8, true), (9, true), (10, true), (6, false), (11, true), (12, true)] (_) ([]) mixed (by kernel_rfl) rfl (by kernel_rfl) rfl (perm_all _) (fun w11_ => ?_)
      refine wd_f rfl (f_move rfl) ?_
      refine wd_f rfl (f_move rfl) ?_
      refine wd_gs rfl rfl rfl ?_
      refine wd_gs rfl rfl rfl ?_
      refine wd_gs rfl rfl rfl ?_
      refine wd_gs rfl rfl rfl ?_
      refine wd_gs rfl rfl rfl ?_
      refine wd_gs rfl rfl rfl ?_
      refine wd_gs rfl rfl rfl ?_
      refine wd_gs rfl rfl rfl ?_
      refine wd_ges rfl rfl rfl ?_
      refine wd_gs rfl rfl rfl ?_
      refine wd_f rfl (f_pick rfl rfl rfl) ?_
      refine wd_end [(0, _), (1, _), (2, _), (7, _), (58, _)] ⟨rfl, rfl, rfl, rfl, rfl, trivial⟩ ?_
      exact ⟨rfl, rfl, rfl⟩
    | none =>
      refine g_draw [(0, true), (1, true), (2, true), (3, true), (4, true), (5, true), (7, true), (8, true), (9, true), (10, true), (6, false), (11, true), (12, true)] ([_]) ([_]) mixed (by kernel_rfl) rfl (by kernel_rfl) rfl (List.Perm.refl _) (fun w11_ => ?_)
      refine wd_f rfl (f_move rfl) ?_
      refine wd_f rfl (f_move rfl) ?_
      refine wd_gf rfl rfl rfl (f_move rfl) ?_
      refine wd_gf rfl rfl rfl (f_nilCheck rfl) ?_
      refine wd_gf rfl rfl rfl (f_fieldAddr 1 rfl Try.underlying66 rfl rfl (by kernel_rfl)) ?_
      refine wd_gf rfl rfl rfl (f_loadb 0 rfl Try.underlying61 rfl rfl rfl) ?_
      refine wd_gf rfl rfl rfl (f_move rfl) ?_
      refine wd_gf rfl rfl rfl (f_nilCheck rfl) ?_
      refine wd_gf rfl rfl rfl (f_fieldAddr 0 rfl Try.underlying66 rfl rfl (by kernel_rfl)) ?_
      refine wd_gf rfl rfl rfl (f_loadb 0 rfl Try.underlying3 rfl rfl rfl) ?_
      refine wd_ge rfl rfl rfl (e_call1 rX [_] rfl Try.func35 (by kernel_rfl) (pk1 1 rfl) (fun w hh hs' => uxlen_spec bX m T 0 M rX w hX hs')) ?_
      rintro _ _ w11_6 ⟨_, rfl, rfl, rfl⟩
      refine ⟨_, List.perm_append_comm, ?_⟩
      refine wd_gf rfl rfl rfl (f_eqv (v' := .bool (decide (M.length < m))) (f_lss rfl rfl) (congrArg Value.bool (decide_eq_decide.2 (by omega)))) ?_
      refine wd_f rfl (f_pick rfl rfl rfl) ?_
      refine wd_end [(0, _), (1, _), (2, _), (7, _), (58, _)] ⟨rfl, rfl, rfl, rfl, rfl, trivial⟩ ?_
      exact ⟨rfl, rfl, rfl⟩
  rintro _ _ _ w12 ⟨rfl, rfl, rfl⟩
  refine g_ifb rfl (fun hc5 => ?_) (fun hc5 => ?_)
  · have hgo : (mget M k).getD 0 ≤ total := by
      cases hg : mget M k with
      | none => exact Nat.zero_le _
      | some o => exact ht3 k o hg
    obtain ⟨M', hput, hG⟩ : ∃ M', mput m M k ((mget M k).getD 0 + v) = (0, M') ∧ ((∃ o, mget M k = some o ∧ M' = (k, o + v) :: mdel M k ∧ ded = ded) ∨ (mget M k = none ∧ M.length < m ∧ M' = (k, v) :: M ∧ ded = ded)) := by
      cases hg : mget M k with
      | some o => exact ⟨_, mput_over (mget_key hg), .inl ⟨o, rfl, rfl, rfl⟩⟩
      | none =>
        have hl : M.length < m := by rw [hg] at hc5; simpa using hc5
        refine ⟨_, mput_new (keys_none hg) (by omega), .inr ⟨rfl, hl, ?_, rfl⟩⟩
        rw [Option.getD_none, Nat.zero_add]
    refine g_seq ?_
    refine g_reg (noDefer_of rfl) ?_
    refine wl_f (f_move rfl) ?_
    refine wl_f (f_nilCheck rfl) ?_
    refine wl_f (f_fieldAddr 1 rfl Try.underlying66 rfl rfl (by kernel_rfl)) ?_
    refine wl_f (f_loadb 0 rfl Try.underlying61 rfl rfl rfl) ?_
    refine wl_f (f_move rfl) ?_
    refine wl_f (f_move rfl) ?_
    refine wl_f (f_move rfl) ?_
    refine wl_f (f_eqv (v' := .int .u64 (((mget M k).getD 0 + v : Nat) : Int)) (f_addu rfl rfl (by omega)) (by rw [Int.natCast_add])) ?_
    refine wl_e (e_call1 rX [_] rfl Try.func36 (by kernel_rfl) (pk1 1 rfl) (fun w hh hs' => uxput_spec bX m T 0 M rX k ((mget M k).getD 0 + v) w hk hX hs')) ?_
    rw [hput]
    rintro _ _ w13 ⟨_, rfl, rfl, rX2, rfl, hX2⟩
    refine wl_f (f_assign rfl) ?_
    refine wl_pick [1, 0] rfl ?_
    refine wl_bun (H := []) [_, _] ?_
    refine wl_end [(6, _)] ⟨rfl, trivial⟩ ?_
    refine g_ret ?_
    refine ⟨_, _, _, fun a w2 ha hh => results_tmps Try.results11 rfl a ha _, List.Sublist.refl _, ⟨0, M', ded, total + v, _, rfl, rfl, ⟨hm1, hm2, bX, rX2, T, rfl, hX2⟩, .inr ⟨rfl, hk0, hv0, hov, rfl, ?_⟩⟩, .inl ⟨rfl, rfl⟩⟩
    rcases hG with h | h
    · exact .inl h
    · exact .inr (.inl h)
  have hno : mget M k = none := by
    cases hg : mget M k with
    | none => rfl
    | some o => rw [hg] at hc5; exact absurd rfl hc5
  have hfull : M.length = m := by
    rw [hno] at hc5
    have : ¬ M.length < m := by simpa using hc5
    omega
  have hnd := hX.nd
  obtain ⟨ks, hks, hss⟩ := srt_exists hnd
  have hsm := hX.sm
  refine g_skip ?_
  refine g_seq ?_
  refine g_reg (noDefer_of rfl) ?_
  refine wl_f (f_move rfl) ?_
  refine wl_e (e_alloc1 (.int .u64 0) (by kernel_rfl) rfl) ?_
  rintro _ _ w13_1 ⟨bd, rfl, rfl⟩
  refine wl_e0 (e_store0 (us := [_]) rfl rfl rfl (by kernel_rfl) (by simp [Value.oneCell']) rfl rfl) ?_
  rintro _ _ w13_2 rfl
  refine wl_end [(0, _), (1, _), (2, _), (9, _)] ⟨rfl, rfl, rfl, rfl, trivial⟩ ?_
  refine g_seq ?_
  refine g_seq ?_
  refine g_reg (noDefer_of rfl) ?_
  refine wl_f (f_move rfl) ?_
  refine wl_e (e_call0 rfl Try.func37 (by kernel_rfl) (fun w hh => tracked_spec _ w)) ?_
  rintro _ _ w14 ⟨_, rfl, bx, rfl, rfl⟩
  refine wl_end [(0, _), (1, _), (2, _), (9, _), (70, _)] ⟨rfl, rfl, rfl, rfl, rfl, trivial⟩ ?_
  refine g_pick [0, 1, 1, 0] rfl ?_
  refine g_block ?_
  refine g_range [_, _, _, _] [] rfl Try.func51 (by kernel_rfl) (pick_perm [0, 0, 0, 0] _ rfl) ?_
  intro fn a l D w6 ha hh hself
  refine ISpec.mono (tracked1_spec l bx t bX m ded (total + v) _ rX _ M ks T w6 (fun pre M' r q => TbR xU64 bX m T 0 M' r ∧ M' = M ∧ q = blk bd [.int .u64 ((dmin v M pre : Nat) : Int)] 33) hm12 hks hss (fun k hk => hsm k (hks.mem_iff.1 hk)) (fun _ _ _ _ h => h.1) ⟨hX, rfl, rfl⟩ ?_ hself) ?_
  · rintro pre k' rest M' r q w7 hke ⟨hX', rfl, rfl⟩ hself2
    refine y_round (n := 91) ha rfl rfl hself2 ?_
    refine g_reg (noDefer_of rfl) ?_
    refine wl_f (f_assign rfl) ?_
    refine wl_end [(9, _), (11, _)] ⟨rfl, rfl, trivial⟩ ?_
    refine ⟨rfl, _, List.Perm.refl _, fun w8 => ?_⟩
    refine g_block ?_
    refine g_reg (noDefer_of rfl) ?_
    refine wl_f (f_loadb 4 rfl Try.underlying33 rfl rfl rfl) ?_
    refine wl_f (f_move rfl) ?_
    refine wl_f (f_min (r := ((dmin v M' (pre ++ [k']) : Nat) : Int)) rfl rfl (by rw [dmin_snoc]; split <;> omega)) ?_
    refine wl_e0 (e_storeN 4 (us := [_]) rfl rfl rfl rfl (by kernel_rfl) (by simp [Value.oneCell']) rfl rfl) ?_
    rintro _ _ w9 rfl
    refine wl_end [] trivial ?_
    exact ⟨rfl, _, List.Perm.refl _, rfl, M', r, _, List.Perm.refl _, hX', rfl, rfl⟩
  rintro _ H1 ⟨M1, r, q, hp, hX', rfl, rfl⟩
  refine ⟨_, hp, fun w' => ?_⟩
  have hdl := dmin_le M1 ks v
  have hnds : ks.Nodup := hks.nodup_iff.2 hnd
  have hflen := dfold_len (d := dmin v M1 ks) ks M1 hnds (fun q hq => hks.mem_iff.1 hq)
  have hfno : mget (ks.foldl (dstep (dmin v M1 ks)) M1) k = none := (dfold_ne ks M1 (fun h => keys_none hno (hks.mem_iff.1 h))).trans hno
  have hdatt : dmin v M1 ks < v → (ks.foldl (dstep (dmin v M1 ks)) M1).length < m := fun h => by
    have := hflen.2 (dmin_att M1 ks v h)
    omega
  have hdm : ∀ q o, mget M1 q = some o → dmin v M1 ks ≤ o := fun q o hq => by
    have := dmin_mem M1 ks v q (hks.mem_iff.2 (mget_key hq))
    rw [hq, Option.getD_some] at this
    exact this
  generalize hdd : dmin v M1 ks = d at hdl hflen hfno hdatt hdm
  refine g_seq ?_
  refine g_pick [2, 2, 0, 1] rfl ?_
  refine g_bun (H := [_, _]) [_, _] ?_
  refine g_reg (noDefer_of rfl) ?_
  refine wl_f (f_move rfl) ?_
  refine wl_f (f_loadb 2 rfl Try.underlying33 rfl rfl rfl) ?_
  refine wl_e (e_call1 (bun [ftab t bX m ded (total + v), r]) [_, _] rfl Try.func38 (by kernel_rfl) (List.Perm.refl _) (fun w hh hs' => ISpec.spec (deduct_spec t bX m ded (total + v) d M1 T r w hm12 hX' hsm hdm (by omega) (fun q o hq => by have := ht3 q o hq; omega) ks hks hss hs'))) ?_
  rintro _ _ w15 ⟨H2, rfl, r2, hp2, hX2⟩
  refine wl_perm _ (hp2.append_right _) ?_
  refine wl_end [(0, _), (1, _), (2, _), (9, _)] ⟨rfl, rfl, rfl, rfl, trivial⟩ ?_
  refine g_seq ?_
  refine g_seq ?_
  refine g_reg (noDefer_of rfl) ?_
  refine wl_f (f_move rfl) ?_
  refine wl_f (f_loadb 3 rfl Try.underlying33 rfl rfl rfl) ?_
  refine wl_f (f_gtr rfl rfl) ?_
  refine wl_end [(0, _), (1, _), (2, _), (9, _), (81, _)] ⟨rfl, rfl, rfl, rfl, rfl, trivial⟩ ?_
  refine g_ifd rfl (fun hc6 => ?_) (fun hc6 => ?_)
  · have hlt : d < v := by
      have : (d : Int) < (v : Int) := hc6
      omega
    have hl2 := hdatt hlt
    refine g_seq ?_
    refine g_draw [(0, true), (1, true), (2, true), (3, true), (4, true), (5, true), (6, true), (7, true), (8, false), (9, true)] [_, _, _] [_] mixed (by kernel_rfl) rfl (by kernel_rfl) rfl (pick_perm [0, 1, 1] _ rfl) (fun w16 => ?_)
    refine wd_f rfl (f_move rfl) ?_
    refine wd_f rfl (f_nilCheck rfl) ?_
    refine wd_f rfl (f_fieldAddr 1 rfl Try.underlying66 rfl rfl (by kernel_rfl)) ?_
    refine wd_f rfl (f_loadb 0 rfl Try.underlying61 rfl rfl rfl) ?_
    refine wd_f rfl (f_move rfl) ?_
    refine wd_f rfl (f_move rfl) ?_
    refine wd_f rfl (f_loadb 2 rfl Try.underlying33 rfl rfl rfl) ?_
    refine wd_f rfl (f_eqv (v' := .int .u64 ((v - d : Nat) : Int)) (f_subu rfl rfl (by omega)) (by congr 1; omega)) ?_
    refine wd_e rfl (e_call1 r2 [_, _, _] rfl Try.func36 (by kernel_rfl) (pk1 3 rfl) (fun w hh hs' => uxput_spec bX m T 0 _ r2 k (v - d) w hk hX2 hs')) ?_
    rw [mput_new (keys_none hfno) (by omega)]
    rintro _ _ w17 ⟨_, rfl, rfl, rX3, rfl, hX3⟩
    refine ⟨_, List.perm_append_comm, ?_⟩
    refine wd_f rfl (f_assign rfl) ?_
    refine wd_end [(6, _)] ⟨rfl, trivial⟩ ?_
    refine g_pick [0, 2, 0] rfl ?_
    refine g_bun (H := [_]) [_, _] ?_
    refine g_ret ?_
    exact ⟨_, _, [_], fun a w2 ha hh => results_tmps Try.results11 rfl a ha _, List.Sublist.refl _, ⟨0, _, ded + d, total + v, _, rfl, rfl, ⟨hm1, hm2, bX, rX3, T, rfl, hX3⟩, .inr ⟨rfl, hk0, hv0, hov, rfl, .inr (.inr ⟨hno, hfull, ks, hks, hss, by rw [hdd], by rw [hdd, if_pos hlt]⟩)⟩⟩, .inr ⟨D, rfl, List.Perm.swap ..⟩⟩
  · have hge : ¬ d < v := fun h => hc6 (show (d : Int) < (v : Int) by omega)
    refine g_skip ?_
    refine g_seq ?_
    refine g_reg (noDefer_of rfl) ?_
    refine wl_f (f_assign rfl) ?_
    refine wl_end [(6, _)] ⟨rfl, trivial⟩ ?_
    refine g_pick [0, 0, 0] rfl ?_
    refine g_bun (H := [_]) [_, _] ?_
    refine g_ret ?_
    exact ⟨_, _, [_], fun a w2 ha hh => results_tmps Try.results11 rfl a ha _, List.Sublist.refl _, ⟨0, _, ded + d, total + v, _, rfl, rfl, ⟨hm1, hm2, bX, r2, T, rfl, hX2⟩, .inr ⟨rfl, hk0, hv0, hov, rfl, .inr (.inr ⟨hno, hfull, ks, hks, hss, by rw [hdd], by rw [hdd, if_neg hge]⟩)⟩⟩, .inr ⟨D, rfl, List.Perm.swap ..⟩⟩
end Go.Proofs.Ytkoklfagmbaapaa
