/- Texts of this proof, part MB9: what the code does, step by step. They have no conditions. -/
import Derived.Test.YtmagdjlcckgkpaaGreatMB8
import Derived.Test.YtmagdjlcckgkpaaGreatMB6
import Derived.Test.YtmagdjlcckgkpaaGreatMB4
import Derived.Test.YtmagdjlcckgkpaaGreatMB2
import Derived.Test.YtmagdjlcckgkpaaGreatMB7
import Derived.Test.YtmagdjlcckgkpaaGreatMB3
/- Tables by the method of Misra and Gries: adding. -/
namespace Go.Proofs.YtmagdjlcckgkpaaGreat
open Go.RowKit

theorem srt_exists {l : List ByteArray} (hn : l.Nodup) : ∃ l', l'.Perm l ∧ Srts l' := by
  refine ⟨l.mergeSort (fun a b => !nlt b a), List.mergeSort_perm _ _, wks_srts ?_ ((List.mergeSort_perm _ _).nodup_iff.2 hn)⟩
  have h := List.pairwise_mergeSort (le := fun a b => !nlt b a) (fun a b c h1 h2 => by
    simp only [Bool.not_eq_true'] at h1 h2 ⊢
    exact nle_trans h1 h2) (fun a b => by
    cases h : nlt b a
    · simp
    · simp [nlt_asymm h]) l
  exact h.imp fun h => by simpa using h
theorem TbR.sm {α : Type} {K : VI α} {b n : Nat} {T : List Nat} {seed : Int} {M : List (ByteArray × α)} {r : Res} (h : TbR K b n T seed M r) : ∀ k ∈ keys M, small k := fun k hk => by
  obtain ⟨N, cs, hC, hI, hM, hle, hsm⟩ := h
  obtain ⟨v, hv⟩ := mem_keys.1 hk
  exact hsm _ (hM.mem_iff.2 hv)
def dmin (v : Nat) (M : UM) (ks : List ByteArray) : Nat := ks.foldl (fun d k => min d ((mget M k).getD 0)) v
theorem dmin_le (M : UM) : ∀ (ks : List ByteArray) (v : Nat), dmin v M ks ≤ v
  | [], v => Nat.le_refl v
  | k :: ks, v => Nat.le_trans (dmin_le M ks _) (Nat.min_le_left _ _)
theorem dmin_mem (M : UM) : ∀ (ks : List ByteArray) (v : Nat) (k : ByteArray), k ∈ ks → dmin v M ks ≤ (mget M k).getD 0
  | x :: ks, v, k, h => by
    rcases List.mem_cons.1 h with rfl | h
    · exact Nat.le_trans (dmin_le M ks _) (Nat.min_le_right _ _)
    · exact dmin_mem M ks _ k h
def FOk (M : UM) (ded total : Nat) : Prop := total ≤ 9223372036854775808 ∧ ded ≤ total ∧ ∀ k o, mget M k = some o → o ≤ total
def FAddG (m : Nat) (M : UM) (ded total : Nat) (k : ByteArray) (v : Nat) (e : Int) (M' : UM) (ded' total' : Nat) : Prop :=
  (e ≠ 0 ∧ M' = M ∧ ded' = ded ∧ total' = total ∧ (k = ByteArray.empty ∧ e = 3 ∨ k ≠ ByteArray.empty ∧ v = 0 ∧ e = 1 ∨ k ≠ ByteArray.empty ∧ v ≠ 0 ∧ 9223372036854775808 < total + v ∧ e = 12)) ∨
  (e = 0 ∧ k ≠ ByteArray.empty ∧ v ≠ 0 ∧ total + v ≤ 9223372036854775808 ∧ total' = total + v ∧
    ((∃ o, mget M k = some o ∧ M' = (k, o + v) :: mdel M k ∧ ded' = ded) ∨ (mget M k = none ∧ M.length < m ∧ M' = (k, v) :: M ∧ ded' = ded) ∨
      (mget M k = none ∧ M.length = m ∧ ∃ ks, ks.Perm (keys M) ∧ Srts ks ∧ ded' = ded + dmin v M ks ∧
        M' = if dmin v M ks < v then (k, v - dmin v M ks) :: ks.foldl (dstep (dmin v M ks)) M else ks.foldl (dstep (dmin v M ks)) M)))

theorem dmin_snoc (v : Nat) (M : UM) (pre : List ByteArray) (k : ByteArray) : dmin v M (pre ++ [k]) = min (dmin v M pre) ((mget M k).getD 0) := by
  rw [dmin, List.foldl_append, List.foldl_cons, List.foldl_nil]; rfl
theorem dmin_att (M : UM) : ∀ (ks : List ByteArray) (v : Nat), dmin v M ks < v → ∃ k ∈ ks, (mget M k).getD 0 = dmin v M ks
  | [], v, h => absurd h (Nat.lt_irrefl v)
  | x :: ks, v, h => by
    have e : dmin v M (x :: ks) = dmin (min v ((mget M x).getD 0)) M ks := rfl
    rw [e] at h ⊢
    by_cases hl : dmin (min v ((mget M x).getD 0)) M ks < min v ((mget M x).getD 0)
    · obtain ⟨k, hk, hke⟩ := dmin_att M ks _ hl
      exact ⟨k, List.mem_cons_of_mem _ hk, hke⟩
    · have := dmin_le M ks (min v ((mget M x).getD 0))
      exact ⟨x, List.mem_cons_self .., by omega⟩
theorem isSome_in {α : Type} {M : List (ByteArray × α)} {k : ByteArray} (h : k ∈ keys M) : ∃ o, mget M k = some o := by
  have := mget_in h
  cases e : mget M k with
  | none => rw [e] at this; cases this
  | some o => exact ⟨o, rfl⟩
theorem dstep_len {d : Nat} {M : UM} {k : ByteArray} (h : k ∈ keys M) : (dstep d M k).length ≤ M.length ∧ ((mget M k).getD 0 = d → (dstep d M k).length < M.length) := by
  have := mdel_lt h
  unfold dstep
  split
  · exact ⟨by omega, fun _ => this⟩
  · rename_i hne
    exact ⟨by rw [List.length_cons]; omega, fun e => absurd e hne⟩
theorem dfold_len {d : Nat} : ∀ (ks : List ByteArray) (M : UM), ks.Nodup → (∀ k ∈ ks, k ∈ keys M) → (ks.foldl (dstep d) M).length ≤ M.length ∧ ((∃ k ∈ ks, (mget M k).getD 0 = d) → (ks.foldl (dstep d) M).length < M.length)
  | [], M, _, _ => ⟨Nat.le_refl _, fun ⟨_, h, _⟩ => by cases h⟩
  | k :: ks, M, hn, hk => by
    rw [List.nodup_cons] at hn
    have h1 := dstep_len (d := d) (hk k (List.mem_cons_self ..))
    have hne : ∀ q ∈ ks, mget (dstep d M k) q = mget M q := fun q hq => dstep_ne (fun e => hn.1 (by rw [e]; exact hq))
    have h2 := dfold_len (d := d) ks (dstep d M k) hn.2 (fun q hq => by
      obtain ⟨o, ho⟩ := isSome_in (hk q (List.mem_cons_of_mem _ hq))
      exact mget_key ((hne q hq).trans ho))
    rw [List.foldl_cons]
    refine ⟨Nat.le_trans h2.1 h1.1, ?_⟩
    rintro ⟨q, hq, he⟩
    rcases List.mem_cons.1 hq with rfl | hq
    · exact Nat.lt_of_le_of_lt h2.1 (h1.2 he)
    · exact Nat.lt_of_lt_of_le (h2.2 ⟨q, hq, by rw [hne q hq]; exact he⟩) h1.1

set_option maxHeartbeats 8000000 in
theorem fradd_spec (t m : Nat) (M : UM) (ded total : Nat) (k : ByteArray) (v : Nat) (r : Res) (w : World) (hm12 : m ≤ 12) (hk : small k) (hv : v < 18446744073709551616) (hok : FOk M ded total) (hr : FrR t m M ded total r) (hs : Holds w r.foot [r] w) :
    Spec Tryz.prog 145 [.pointer (some ⟨t, 0, .none⟩), .string k, .int .u64 (v : Int)] w r.foot fun u H => ∃ (e : Int) (M' : UM) (ded' total' : Nat) (r' : Res), u = .int .i64 e ∧ H = [r'] ∧ FrR t m M' ded' total' r' ∧ FAddG m M ded total k v e M' ded' total' := by
  have hr0 := hr
  obtain ⟨hm1, hm2, bX, rX, T, rfl, hX⟩ := hr
  obtain ⟨ht1, ht2, ht3⟩ := id hok
  have hMl := hX.len
  refine ISpec.spec ?_
  refine g_enter (n := 91) Tryz.func145 rfl rfl [(0, _), (1, _), (2, _)] rfl ⟨rfl, rfl, rfl, trivial⟩ hs ?_
  refine g_seq ?_
  refine g_reg (noDefer_of rfl) ?_
  refine wl_f (f_assign rfl) (wl_end [(0, _), (1, _), (2, _)] ⟨rfl, rfl, rfl, trivial⟩ ?_)
  refine g_seq ?_
  refine g_block ?_
  refine g_seq ?_
  refine g_reg (noDefer_of rfl) ?_
  refine wl_f (f_move rfl) (wl_f (f_eqlnil rfl rfl Tryz.underlying71) ?_)
  refine wl_f (f_assign rfl) (wl_end [(0, _), (1, _), (2, _), (12, _)] ⟨rfl, rfl, rfl, rfl, trivial⟩ ?_)
  refine g_if (b := false) rfl (fun h => by cases h) (fun _ => ?_)
  refine g_seq ?_
  refine g_reg (noDefer_of rfl) ?_
  refine wl_f (f_move rfl) (wl_f (f_eqls rfl rfl) ?_)
  refine wl_f (f_assign rfl) (wl_end [(0, _), (1, _), (2, _), (15, _)] ⟨rfl, rfl, rfl, rfl, trivial⟩ ?_)
  refine g_ifd rfl (fun hc2 => ?_) (fun hc2 => ?_)
  · obtain rfl : k = ByteArray.empty := hc2
    refine g_seq ?_
    refine g_reg (noDefer_of rfl) ?_
    refine wl_f (f_assign rfl) (wl_end [(6, _)] ⟨rfl, trivial⟩ ?_)
    refine g_ret ?_
    exact ⟨_, _, _, fun a w2 ha hh => results_tmps Tryz.results145 rfl a ha _, List.Sublist.refl _, ⟨3, M, ded, total, _, rfl, rfl, hr0, .inl ⟨by decide, rfl, rfl, rfl, .inl ⟨rfl, rfl⟩⟩⟩, .inl ⟨rfl, rfl⟩⟩
  have hk0 : k ≠ ByteArray.empty := hc2
  refine g_seq ?_
  refine g_reg (noDefer_of rfl) ?_
  refine wl_f (f_move rfl) (wl_f (f_eql rfl rfl) ?_)
  refine wl_f (f_assign rfl) (wl_end [(0, _), (1, _), (2, _), (18, _)] ⟨rfl, rfl, rfl, rfl, trivial⟩ ?_)
  refine g_ifd rfl (fun hc3 => ?_) (fun hc3 => ?_)
  · have hv0 : v = 0 := by
      have : (v : Int) = 0 := hc3
      omega
    refine g_seq ?_
    refine g_reg (noDefer_of rfl) ?_
    refine wl_f (f_assign rfl) (wl_end [(6, _)] ⟨rfl, trivial⟩ ?_)
    refine g_ret ?_
    exact ⟨_, _, _, fun a w2 ha hh => results_tmps Tryz.results145 rfl a ha _, List.Sublist.refl _, ⟨1, M, ded, total, _, rfl, rfl, hr0, .inl ⟨by decide, rfl, rfl, rfl, .inr (.inl ⟨hk0, hv0, rfl⟩)⟩⟩, .inl ⟨rfl, rfl⟩⟩
  have hv0 : v ≠ 0 := fun h => hc3 (by rw [h]; rfl)
  refine g_seq ?_
  refine g_reg (noDefer_of rfl) ?_
  refine wl_f (f_move rfl) (wl_f (f_nilCheck rfl) (wl_f (f_fieldAddr 3 rfl Tryz.underlying106 rfl rfl (by kernel_rfl)) ?_))
  refine wl_f (f_loadB 0 0 rfl rfl rfl Tryz.underlying33 rfl rfl) ?_
  refine wl_f (f_move rfl) (wl_e (e_call0 rfl Tryz.func81 (by kernel_rfl) (fun w hh => satfits_spec total v w (by omega) hv)) ?_)
  rintro _ _ w1 ⟨_, rfl, rfl, rfl⟩
  refine wl_f (f_not rfl rfl) ?_
  refine wl_f (f_assign rfl) (wl_end [(0, _), (1, _), (2, _), (21, _)] ⟨rfl, rfl, rfl, rfl, trivial⟩ ?_)
  refine g_ifb rfl (fun hc4 => ?_) (fun hc4 => ?_)
  · have hov : 9223372036854775808 < total + v := by simpa using hc4
    refine g_seq ?_
    refine g_reg (noDefer_of rfl) ?_
    refine wl_f (f_assign rfl) (wl_end [(6, _)] ⟨rfl, trivial⟩ ?_)
    refine g_ret ?_
    exact ⟨_, _, _, fun a w2 ha hh => results_tmps Tryz.results145 rfl a ha _, List.Sublist.refl _, ⟨12, M, ded, total, _, rfl, rfl, hr0, .inl ⟨by decide, rfl, rfl, rfl, .inr (.inr ⟨hk0, hv0, hov, rfl⟩)⟩⟩, .inl ⟨rfl, rfl⟩⟩
  have hov : total + v ≤ 9223372036854775808 := by simpa using hc4
  refine g_skip ?_
  refine g_unb [ftab t bX m ded total, rX] ?_
  refine g_seq ?_
  refine g_reg (noDefer_of rfl) ?_
  refine wl_f (f_move rfl) (wl_f (f_nilCheck rfl) (wl_f (f_fieldAddr 3 rfl Tryz.underlying106 rfl rfl (by kernel_rfl)) ?_))
  refine wl_f (f_loadb 0 rfl Tryz.underlying33 rfl rfl rfl) ?_
  refine wl_f (f_move rfl) (wl_f (f_eqv (v' := .int .u64 ((total + v : Nat) : Int)) (f_addu rfl rfl (by omega)) (by rw [Int.natCast_add])) ?_)
  refine wl_f (f_nilCheck rfl) (wl_f (f_fieldAddr 3 rfl Tryz.underlying106 rfl rfl (by kernel_rfl)) ?_)
  refine wl_e0 (e_store0 (us := [_]) rfl rfl rfl (by kernel_rfl) (by simp [Value.oneCell']) rfl rfl) ?_
  rintro _ _ w9_8 rfl
  refine wl_end [(0, _), (1, _), (2, _)] ⟨rfl, rfl, rfl, trivial⟩ ?_
  refine g_seq ?_
  refine g_reg (noDefer_of rfl) ?_
  refine wl_f (f_move rfl) (wl_f (f_nilCheck rfl) (wl_f (f_fieldAddr 1 rfl Tryz.underlying106 rfl rfl (by kernel_rfl)) ?_))
  refine wl_f (f_loadb 0 rfl Tryz.underlying102 rfl rfl rfl) ?_
  refine wl_f (f_move rfl) (wl_e (e_call1 rX [_] rfl Tryz.func153 (by kernel_rfl) (pk1 1 rfl) (fun w hh hs' => uxget_spec bX m T 0 M rX k w hk hX hs')) ?_)
  rintro _ _ w2 ⟨_, rfl, rfl, rfl⟩
  refine wl_f (f_move rfl) (wl_f (f_extract rfl rfl) ?_)
  refine wl_f (f_extract rfl rfl) ?_
  refine wl_f (f_assign rfl) (wl_f (f_assign rfl) (wl_pick [1, 0] rfl ?_))
  refine wl_end [(0, _), (1, _), (2, _), (7, _), (8, _)] ⟨rfl, rfl, rfl, rfl, rfl, trivial⟩ ?_
  refine g_seq ?_
  refine g_seq ?_
  refine g_post (fun ds m' H w' => ds = [] ∧ m' = [(0, .pointer (some ⟨t, 0, .none⟩)), (1, .string k), (2, .int .u64 (v : Int)), (7, .int .u64 (((mget M k).getD 0 : Nat) : Int)), (58, .bool ((mget M k).isSome || decide (M.length < m)))] ∧ H = [ftab t bX m ded (total + v), rX]) ?_ ?_
  · cases hg : mget M k with
    | some o =>
      refine g_draw [(0, true), (1, true), (2, true), (3, true), (4, true), (5, true), (7, true), (8, true), (9, true), (10, true), (6, false), (11, true), (12, true)] (_) ([]) mixed (by kernel_rfl) rfl (by kernel_rfl) rfl (perm_all _) (fun w11_ => ?_)
      refine wd_f rfl (f_move rfl) (wd_f rfl (f_move rfl) (wd_gs rfl rfl rfl ?_))
      refine wd_gs rfl rfl rfl ?_
      refine wd_gs rfl rfl rfl ?_
      refine wd_gs rfl rfl rfl ?_
      refine wd_gs rfl rfl rfl ?_
      refine wd_gs rfl rfl rfl ?_
      refine wd_gs rfl rfl rfl ?_
      refine wd_gs rfl rfl rfl ?_
      refine wd_ges rfl rfl rfl ?_
      refine wd_gs rfl rfl rfl ?_
      refine wd_f rfl (f_pick rfl rfl rfl) ?_
      refine wd_end [(0, _), (1, _), (2, _), (7, _), (58, _)] ⟨rfl, rfl, rfl, rfl, rfl, trivial⟩ ?_
      exact ⟨rfl, rfl, rfl⟩
    | none =>
      refine g_draw [(0, true), (1, true), (2, true), (3, true), (4, true), (5, true), (7, true), (8, true), (9, true), (10, true), (6, false), (11, true), (12, true)] ([_]) ([_]) mixed (by kernel_rfl) rfl (by kernel_rfl) rfl (List.Perm.refl _) (fun w11_ => ?_)
      refine wd_f rfl (f_move rfl) (wd_f rfl (f_move rfl) (wd_gf rfl rfl rfl (f_move rfl) ?_))
      refine wd_gf rfl rfl rfl (f_nilCheck rfl) ?_
      refine wd_gf rfl rfl rfl (f_fieldAddr 1 rfl Tryz.underlying106 rfl rfl (by kernel_rfl)) ?_
      refine wd_gf rfl rfl rfl (f_loadb 0 rfl Tryz.underlying102 rfl rfl rfl) ?_
      refine wd_gf rfl rfl rfl (f_move rfl) ?_
      refine wd_gf rfl rfl rfl (f_nilCheck rfl) ?_
      refine wd_gf rfl rfl rfl (f_fieldAddr 0 rfl Tryz.underlying106 rfl rfl (by kernel_rfl)) ?_
      refine wd_gf rfl rfl rfl (f_loadb 0 rfl Tryz.underlying3 rfl rfl rfl) ?_
      refine wd_ge rfl rfl rfl (e_call1 rX [_] rfl Tryz.func154 (by kernel_rfl) (pk1 1 rfl) (fun w hh hs' => uxlen_spec bX m T 0 M rX w hX hs')) ?_
      rintro _ _ w11_6 ⟨_, rfl, rfl, rfl⟩
      refine ⟨_, List.perm_append_comm, ?_⟩
      refine wd_gf rfl rfl rfl (f_eqv (v' := .bool (decide (M.length < m))) (f_lss rfl rfl) (congrArg Value.bool (decide_eq_decide.2 (by omega)))) ?_
      refine wd_f rfl (f_pick rfl rfl rfl) ?_
      refine wd_end [(0, _), (1, _), (2, _), (7, _), (58, _)] ⟨rfl, rfl, rfl, rfl, rfl, trivial⟩ ?_
      exact ⟨rfl, rfl, rfl⟩
  rintro _ _ _ w12 ⟨rfl, rfl, rfl⟩
  refine g_ifb rfl (fun hc5 => ?_) (fun hc5 => ?_)
  · have hgo : (mget M k).getD 0 ≤ total := by
      cases hg : mget M k with
      | none => exact Nat.zero_le _
      | some o => exact ht3 k o hg
    obtain ⟨M', hput, hG⟩ : ∃ M', mput m M k ((mget M k).getD 0 + v) = (0, M') ∧ ((∃ o, mget M k = some o ∧ M' = (k, o + v) :: mdel M k ∧ ded = ded) ∨ (mget M k = none ∧ M.length < m ∧ M' = (k, v) :: M ∧ ded = ded)) := by
      cases hg : mget M k with
      | some o => exact ⟨_, mput_over (mget_key hg), .inl ⟨o, rfl, rfl, rfl⟩⟩
      | none =>
        have hl : M.length < m := by rw [hg] at hc5; simpa using hc5
        refine ⟨_, mput_new (keys_none hg) (by omega), .inr ⟨rfl, hl, ?_, rfl⟩⟩
        rw [Option.getD_none, Nat.zero_add]
    refine g_seq ?_
    refine g_reg (noDefer_of rfl) ?_
    refine wl_f (f_move rfl) (wl_f (f_nilCheck rfl) (wl_f (f_fieldAddr 1 rfl Tryz.underlying106 rfl rfl (by kernel_rfl)) ?_))
    refine wl_f (f_loadb 0 rfl Tryz.underlying102 rfl rfl rfl) ?_
    refine wl_f (f_move rfl) (wl_f (f_move rfl) (wl_f (f_move rfl) (wl_f (f_eqv (v' := .int .u64 (((mget M k).getD 0 + v : Nat) : Int)) (f_addu rfl rfl (by omega)) (by rw [Int.natCast_add])) ?_)))
    refine wl_e (e_call1 rX [_] rfl Tryz.func155 (by kernel_rfl) (pk1 1 rfl) (fun w hh hs' => uxput_spec bX m T 0 M rX k ((mget M k).getD 0 + v) w hk hX hs')) ?_
    rw [hput]
    rintro _ _ w13 ⟨_, rfl, rfl, rX2, rfl, hX2⟩
    refine wl_f (f_assign rfl) (wl_pick [1, 0] rfl ?_)
    refine wl_bun (H := []) [_, _] ?_
    refine wl_end [(6, _)] ⟨rfl, trivial⟩ ?_
    refine g_ret ?_
    refine ⟨_, _, _, fun a w2 ha hh => results_tmps Tryz.results145 rfl a ha _, List.Sublist.refl _, ⟨0, M', ded, total + v, _, rfl, rfl, ⟨hm1, hm2, bX, rX2, T, rfl, hX2⟩, .inr ⟨rfl, hk0, hv0, hov, rfl, ?_⟩⟩, .inl ⟨rfl, rfl⟩⟩
    rcases hG with h | h
    · exact .inl h
    · exact .inr (.inl h)
  have hno : mget M k = none := by
    cases hg : mget M k with
    | none => rfl
    | some o => rw [hg] at hc5; exact absurd rfl hc5
  have hfull : M.length = m := by
    rw [hno] at hc5
    have : ¬ M.length < m := by simpa using hc5
    omega
  have hnd := hX.nd
  obtain ⟨ks, hks, hss⟩ := srt_exists hnd
  have hsm := hX.sm
  refine g_skip ?_
  refine g_seq ?_
  refine g_reg (noDefer_of rfl) ?_
  refine wl_f (f_move rfl) (wl_e (e_alloc1 (.int .u64 0) (by kernel_rfl) rfl) ?_)
  rintro _ _ w13_1 ⟨bd, rfl, rfl⟩
  refine wl_e0 (e_store0 (us := [_]) rfl rfl rfl (by kernel_rfl) (by simp [Value.oneCell']) rfl rfl) ?_
  rintro _ _ w13_2 rfl
  refine wl_end [(0, _), (1, _), (2, _), (9, _)] ⟨rfl, rfl, rfl, rfl, trivial⟩ ?_
  refine g_seq ?_
  refine g_seq ?_
  refine g_reg (noDefer_of rfl) ?_
  refine wl_f (f_move rfl) (wl_e (e_call0 rfl Tryz.func156 (by kernel_rfl) (fun w hh => tracked_spec _ w)) ?_)
  rintro _ _ w14 ⟨_, rfl, bx, rfl, rfl⟩
  refine wl_end [(0, _), (1, _), (2, _), (9, _), (70, _)] ⟨rfl, rfl, rfl, rfl, rfl, trivial⟩ ?_
  refine g_pick [0, 1, 1, 0] rfl ?_
  refine g_block ?_
  refine g_range [_, _, _, _] [] rfl Tryz.func160 (by kernel_rfl) (pick_perm [0, 0, 0, 0] _ rfl) ?_
  intro fn a l D w6 ha hh hself
  refine ISpec.mono (tracked1_spec l bx t bX m ded (total + v) _ rX _ M ks T w6 (fun pre M' r q => TbR xU64 bX m T 0 M' r ∧ M' = M ∧ q = blk bd [.int .u64 ((dmin v M pre : Nat) : Int)] 33) hm12 hks hss (fun k hk => hsm k (hks.mem_iff.1 hk)) (fun _ _ _ _ h => h.1) ⟨hX, rfl, rfl⟩ ?_ hself) ?_
  · rintro pre k' rest M' r q w7 hke ⟨hX', rfl, rfl⟩ hself2
    refine y_round (n := 91) ha rfl rfl hself2 ?_
    refine g_reg (noDefer_of rfl) ?_
    refine wl_f (f_assign rfl) (wl_end [(9, _), (11, _)] ⟨rfl, rfl, trivial⟩ ?_)
    refine ⟨rfl, _, List.Perm.refl _, fun w8 => ?_⟩
    refine g_block ?_
    refine g_reg (noDefer_of rfl) ?_
    refine wl_f (f_loadb 4 rfl Tryz.underlying33 rfl rfl rfl) ?_
    refine wl_f (f_move rfl) (wl_f (f_min (r := ((dmin v M' (pre ++ [k']) : Nat) : Int)) rfl rfl (by rw [dmin_snoc]; split <;> omega)) ?_)
    refine wl_e0 (e_storeN 4 (us := [_]) rfl rfl rfl rfl (by kernel_rfl) (by simp [Value.oneCell']) rfl rfl) ?_
    rintro _ _ w9 rfl
    refine wl_end [] trivial ?_
    exact ⟨rfl, _, List.Perm.refl _, rfl, M', r, _, List.Perm.refl _, hX', rfl, rfl⟩
  rintro _ H1 ⟨M1, r, q, hp, hX', rfl, rfl⟩
  refine ⟨_, hp, fun w' => ?_⟩
  have hdl := dmin_le M1 ks v
  have hnds : ks.Nodup := hks.nodup_iff.2 hnd
  have hflen := dfold_len (d := dmin v M1 ks) ks M1 hnds (fun q hq => hks.mem_iff.1 hq)
  have hfno : mget (ks.foldl (dstep (dmin v M1 ks)) M1) k = none := (dfold_ne ks M1 (fun h => keys_none hno (hks.mem_iff.1 h))).trans hno
  have hdatt : dmin v M1 ks < v → (ks.foldl (dstep (dmin v M1 ks)) M1).length < m := fun h => by
    have := hflen.2 (dmin_att M1 ks v h)
    omega
  have hdm : ∀ q o, mget M1 q = some o → dmin v M1 ks ≤ o := fun q o hq => by
    have := dmin_mem M1 ks v q (hks.mem_iff.2 (mget_key hq))
    rw [hq, Option.getD_some] at this
    exact this
  generalize hdd : dmin v M1 ks = d at hdl hflen hfno hdatt hdm
  refine g_seq ?_
  refine g_pick [2, 2, 0, 1] rfl ?_
  refine g_bun (H := [_, _]) [_, _] ?_
  refine g_reg (noDefer_of rfl) ?_
  refine wl_f (f_move rfl) (wl_f (f_loadb 2 rfl Tryz.underlying33 rfl rfl rfl) ?_)
  refine wl_e (e_call1 (bun [ftab t bX m ded (total + v), r]) [_, _] rfl Tryz.func157 (by kernel_rfl) (List.Perm.refl _) (fun w hh hs' => ISpec.spec (deduct_spec t bX m ded (total + v) d M1 T r w hm12 hX' hsm hdm (by omega) (fun q o hq => by have := ht3 q o hq; omega) ks hks hss hs'))) ?_
  rintro _ _ w15 ⟨H2, rfl, r2, hp2, hX2⟩
  refine wl_perm _ (hp2.append_right _) ?_
  refine wl_end [(0, _), (1, _), (2, _), (9, _)] ⟨rfl, rfl, rfl, rfl, trivial⟩ ?_
  refine g_seq ?_
  refine g_seq ?_
  refine g_reg (noDefer_of rfl) ?_
  refine wl_f (f_move rfl) (wl_f (f_loadb 3 rfl Tryz.underlying33 rfl rfl rfl) ?_)
  refine wl_f (f_gtr rfl rfl) ?_
  refine wl_end [(0, _), (1, _), (2, _), (9, _), (81, _)] ⟨rfl, rfl, rfl, rfl, rfl, trivial⟩ ?_
  refine g_ifd rfl (fun hc6 => ?_) (fun hc6 => ?_)
  · have hlt : d < v := by
      have : (d : Int) < (v : Int) := hc6
      omega
    have hl2 := hdatt hlt
    refine g_seq ?_
    refine g_draw [(0, true), (1, true), (2, true), (3, true), (4, true), (5, true), (6, true), (7, true), (8, false), (9, true)] [_, _, _] [_] mixed (by kernel_rfl) rfl (by kernel_rfl) rfl (pick_perm [0, 1, 1] _ rfl) (fun w16 => ?_)
    refine wd_f rfl (f_move rfl) (wd_f rfl (f_nilCheck rfl) (wd_f rfl (f_fieldAddr 1 rfl Tryz.underlying106 rfl rfl (by kernel_rfl)) ?_))
    refine wd_f rfl (f_loadb 0 rfl Tryz.underlying102 rfl rfl rfl) ?_
    refine wd_f rfl (f_move rfl) (wd_f rfl (f_move rfl) (wd_f rfl (f_loadb 2 rfl Tryz.underlying33 rfl rfl rfl) ?_))
    refine wd_f rfl (f_eqv (v' := .int .u64 ((v - d : Nat) : Int)) (f_subu rfl rfl (by omega)) (by congr 1; omega)) ?_
    refine wd_e rfl (e_call1 r2 [_, _, _] rfl Tryz.func155 (by kernel_rfl) (pk1 3 rfl) (fun w hh hs' => uxput_spec bX m T 0 _ r2 k (v - d) w hk hX2 hs')) ?_
    rw [mput_new (keys_none hfno) (by omega)]
    rintro _ _ w17 ⟨_, rfl, rfl, rX3, rfl, hX3⟩
    refine ⟨_, List.perm_append_comm, ?_⟩
    refine wd_f rfl (f_assign rfl) (wd_end [(6, _)] ⟨rfl, trivial⟩ ?_)
    refine g_pick [0, 2, 0] rfl ?_
    refine g_bun (H := [_]) [_, _] ?_
    refine g_ret ?_
    exact ⟨_, _, [_], fun a w2 ha hh => results_tmps Tryz.results145 rfl a ha _, List.Sublist.refl _, ⟨0, _, ded + d, total + v, _, rfl, rfl, ⟨hm1, hm2, bX, rX3, T, rfl, hX3⟩, .inr ⟨rfl, hk0, hv0, hov, rfl, .inr (.inr ⟨hno, hfull, ks, hks, hss, by rw [hdd], by rw [hdd, if_pos hlt]⟩)⟩⟩, .inr ⟨D, rfl, List.Perm.swap ..⟩⟩
  · have hge : ¬ d < v := fun h => hc6 (show (d : Int) < (v : Int) by omega)
    refine g_skip ?_
    refine g_seq ?_
    refine g_reg (noDefer_of rfl) ?_
    refine wl_f (f_assign rfl) (wl_end [(6, _)] ⟨rfl, trivial⟩ ?_)
    refine g_pick [0, 0, 0] rfl ?_
    refine g_bun (H := [_]) [_, _] ?_
    refine g_ret ?_
    exact ⟨_, _, [_], fun a w2 ha hh => results_tmps Tryz.results145 rfl a ha _, List.Sublist.refl _, ⟨0, _, ded + d, total + v, _, rfl, rfl, ⟨hm1, hm2, bX, r2, T, rfl, hX2⟩, .inr ⟨rfl, hk0, hv0, hov, rfl, .inr (.inr ⟨hno, hfull, ks, hks, hss, by rw [hdd], by rw [hdd, if_neg hge]⟩)⟩⟩, .inr ⟨D, rfl, List.Perm.swap ..⟩⟩
end Go.Proofs.YtmagdjlcckgkpaaGreat

/- Comparing entries. -/
namespace Go.Proofs.YtmagdjlcckgkpaaGreat
open Go.RowKit

theorem eqEn (s s' : ByteArray) (t t' u u' : Int) (w : World) : (Op.equalIn 10000 46 (.agg [.string s, .int .u64 t, .int .u64 u].toArray) (.agg [.string s', .int .u64 t', .int .u64 u'].toArray)).run Tryz.prog w = .ok (decide (s = s' ∧ t = t' ∧ u = u')) w := by
  have ht : Tryz.prog.underlying 46 = some (.struct (Tryz.prog.fieldsOf 46)) := by kernel_rfl
  rw [run_equalIn_struct w 9999 46 _ _ ht (by kernel_rfl)]
  simp only [Program.fieldsOf, Tryz.underlying46]
  have p0 : ∀ (s : ByteArray) (t u : Int), (part 9 #[.string s, .int .u64 t, .int .u64 u] 0).run Tryz.prog w = .ok (.string s) w := fun s t u => by kernel_rfl
  have p1 : ∀ (s : ByteArray) (t u : Int), (part 33 #[.string s, .int .u64 t, .int .u64 u] 1).run Tryz.prog w = .ok (.int .u64 t) w := fun s t u => by kernel_rfl
  have p2 : ∀ (s : ByteArray) (t u : Int), (part 33 #[.string s, .int .u64 t, .int .u64 u] 2).run Tryz.prog w = .ok (.int .u64 u) w := fun s t u => by kernel_rfl
  have q0 : (Op.equalIn 9999 9 (.string s) (.string s')).run Tryz.prog w = .ok (s.toList == s'.toList) w := run_equalIn_string w 9998 _ s s' Tryz.underlying9
  have q1 : (Op.equalIn 9999 33 (.int .u64 t) (.int .u64 t')).run Tryz.prog w = .ok (t == t') w := run_equalIn_int w 9998 33 .u64 .u64 t t' Tryz.underlying33
  have q2 : (Op.equalIn 9999 33 (.int .u64 u) (.int .u64 u')).run Tryz.prog w = .ok (u == u') w := run_equalIn_int w 9998 33 .u64 .u64 u u' Tryz.underlying33
  by_cases h0 : s = s'
  · subst h0
    by_cases h1 : t = t'
    · subst h1
      by_cases h2 : u = u'
      · subst h2; simp [Op.eqFields, p0, p1, p2, q0, q1, q2]
      · simp [Op.eqFields, p0, p1, p2, q0, q1, q2, h2]
    · simp [Op.eqFields, p0, p1, p2, q0, q1, q2, h1]
  · have : ¬ s.toList = s'.toList := fun e => h0 (toList_inj.1 e)
    simp [Op.eqFields, p0, p1, p2, q0, q1, q2, h0, this]
theorem neqEn (s s' : ByteArray) (t t' u u' : Int) (w : World) : (binOp .neq 46 (.agg [.string s, .int .u64 t, .int .u64 u].toArray) (.agg [.string s', .int .u64 t', .int .u64 u'].toArray)).run Tryz.prog w = .ok (.bool (!decide (s = s' ∧ t = t' ∧ u = u'))) w := by
  rw [run_neq_struct, eqEn]; rfl
theorem eqlEn (s s' : ByteArray) (t t' u u' : Int) (w : World) : (binOp .eql 46 (.agg [.string s, .int .u64 t, .int .u64 u].toArray) (.agg [.string s', .int .u64 t', .int .u64 u'].toArray)).run Tryz.prog w = .ok (.bool (decide (s = s' ∧ t = t' ∧ u = u'))) w := by
  rw [run_eql_struct, eqEn]; rfl
theorem encs_len (l : List En) : (encs l).length = l.length * 3 := by rw [encs, ecells_len, List.length_map]
theorem encs_get {l : List En} {i : Nat} {x : En} (h : l[i]? = some x) : ((encs l).drop (0 + i * 3)).take 3 = ecell (some x) := ecells_get (by rw [List.getElem?_map, h]; rfl)
/-- The cells of an entry that a reader sees. -/
theorem encs_at {w : World} {b off : Nat} {l : List En} {i : Nat} {x : En} (d : ∀ j u, (encs l)[j]? = some u → w.cell? ⟨b, off + j, .none⟩ = some u) (h : l[i]? = some x) :
    ∀ j u, (ecell (some x))[j]? = some u → w.cell? ⟨b, off + i * 3 + j, .none⟩ = some u := by
  intro j u hu
  have h' := encs_get h
  rw [← h', List.getElem?_take] at hu
  split at hu
  · rw [List.getElem?_drop, Nat.zero_add] at hu
    have := d (i * 3 + j) u hu
    rwa [← Nat.add_assoc] at this
  · cases hu
theorem sameEntries_spec (v1 v2 : Value) (xs ys : List En) (w : World) (h1 : Rd w Nil 3 v1 xs.length (encs xs)) (h2 : Rd w Nil 3 v2 ys.length (encs ys)) (hx : xs.length ≤ 140737488355328) (hy : ys.length ≤ 140737488355328) :
    Spec Tryz.prog 18 [v1, v2] w Nil fun r H => r = .bool (decide (xs = ys)) ∧ H = [] := by
  obtain ⟨A1, c1, rfl, -, hc1', g1⟩ := h1
  obtain ⟨A2, c2, rfl, -, hc2', g2⟩ := h2
  refine enter (n := 26) Tryz.func18 rfl rfl [(0, _), (1, _)] rfl ⟨rfl, rfl, trivial⟩ (Holds.start _ _) ?_
  refine w_seq (w_reg (wl_f (f_assign rfl) (wl_end [(0, _), (1, _)] ⟨rfl, rfl, trivial⟩ ?_)))
  refine w_seq (w_seq (w_reg (wl_f (f_move rfl) (wl_f (f_len rfl Tryz.underlying42) ?_))))
  refine wl_f (f_move rfl) (wl_f (f_len rfl Tryz.underlying42) ?_)
  refine wl_f (f_neq rfl rfl) ?_
  refine wl_end [(0, _), (1, _), (10, _)] ⟨rfl, rfl, rfl, trivial⟩ ?_
  refine w_ifd rfl (fun hc1 => ?_) (fun hc1 => ?_)
  · skip
    refine w_seq (w_reg (wl_f (f_assign rfl) (wl_end [(4, _)] ⟨rfl, trivial⟩ ?_)))
    refine w_ret ?_
    refine ⟨_, _, fun a ha hh => results_tmps Tryz.results18 rfl a ha _, List.Sublist.refl _, ?_⟩
    exact ⟨by rw [decide_eq_false (fun e => hc1 (by rw [e]))]; rfl, rfl⟩
  · skip
    refine w_skip ?_
    refine w_seq (w_seq (w_reg (wl_f (f_move rfl) (wl_f (f_len rfl Tryz.underlying42) ?_))))
    refine wl_f (f_move rfl) (wl_end [(0, _), (1, _), (12, _), (13, _)] ⟨rfl, rfl, rfl, rfl, trivial⟩ ?_)
    refine w_block ?_
    refine w_loop (fun k m H w => ∃ i : Nat, m = [(0, .slice A1 xs.length c1), (1, .slice A2 ys.length c2), (12, .int .i64 xs.length), (13, .int .i64 i)] ∧ H = [] ∧ k + i = xs.length ∧ xs.take i = ys.take i) xs.length ⟨0, rfl, rfl, rfl, rfl⟩ ?_
    rintro k _ _ w' ⟨i, rfl, rfl, hk, ht⟩
    refine w_seq (w_reg (wl_f (f_lss rfl rfl) ?_))
    refine wl_end [(0, _), (1, _), (12, _), (13, _), (14, _)] ⟨rfl, rfl, rfl, rfl, rfl, trivial⟩ ?_
    refine w_seq ?_
    refine w_ifd rfl (fun hc2 => ?_) (fun hc2 => ?_)
    · skip
      have hlen : xs.length = ys.length := by omega
      have hi1 : i < xs.length := by omega
      have hi2 : i < ys.length := by omega
      obtain ⟨b1, o1, rfl, -, -, d1⟩ := g1.resolve_left (by omega)
      obtain ⟨b2, o2, rfl, -, -, d2⟩ := g2.resolve_left (by omega)
      have e1 : xs[i]? = some xs[i] := List.getElem?_eq_getElem hi1
      have e2 : ys[i]? = some ys[i] := List.getElem?_eq_getElem hi2
      refine w_skip ?_
      refine w_seq (w_block ?_)
      refine w_seq (w_reg (wl_f (f_move rfl) (wl_f (f_assign rfl) (wl_end [(0, _), (1, _), (5, _), (12, _), (13, _)] ⟨rfl, rfl, rfl, rfl, rfl, trivial⟩ ?_))))
      refine w_seq ?_
      refine w_draw [(0, true), (1, true), (2, true), (3, true), (4, true), (5, true), (6, true), (7, true), (8, true)] (_) ([]) mixed (by kernel_rfl) (by kernel_rfl) rfl (perm_all _) (fun w6_ => ?_)
      refine wd_f rfl (f_move rfl) (wd_f rfl (f_move rfl) (wd_f rfl (f_indexAddr 3 (i := i) rfl rfl Tryz.underlying42 (by kernel_rfl) rfl hi1) ?_))
      refine wd_f rfl (f_loadso (cs := ecell (some xs[i])) rfl Tryz.underlying46 rfl (by kernel_rfl) (encs_at d1 e1) id) ?_
      refine wd_f rfl (f_move rfl) (wd_f rfl (f_move rfl) (wd_f rfl (f_indexAddr 3 (i := i) rfl rfl Tryz.underlying42 (by kernel_rfl) rfl hi2) ?_))
      refine wd_f rfl (f_loadso (cs := ecell (some ys[i])) rfl Tryz.underlying46 rfl (by kernel_rfl) (encs_at d2 e2) id) ?_
      refine wd_f rfl (f_bin rfl rfl (fun w => run_eqGuard_agg w _ _ _ _ _ _ (by kernel_rfl)) (fun w => neqEn _ _ _ _ _ _ w)) ?_
      refine wd_end [(0, _), (1, _), (12, _), (13, _), (24, _)] ⟨rfl, rfl, rfl, rfl, rfl, trivial⟩ ?_
      refine w_ifb rfl (fun hc3 => ?_) (fun hc3 => ?_)
      · skip
        refine w_seq (w_reg (wl_f (f_assign rfl) (wl_end [(4, _)] ⟨rfl, trivial⟩ ?_)))
        refine w_ret ?_
        refine ⟨_, _, fun a ha hh => results_tmps Tryz.results18 rfl a ha _, List.Sublist.refl _, ?_⟩
        exact ⟨by rw [decide_eq_false (fun e => by subst e; simp at hc3)]; rfl, rfl⟩
      · skip
        refine w_skip ?_
        refine w_reg (wl_f (f_add rfl rfl (by omega)) ?_)
        refine wl_f (f_move rfl) (wl_end [(0, _), (1, _), (12, _), (13, _)] ⟨rfl, rfl, rfl, rfl, trivial⟩ ?_)
        refine ⟨k - 1, by omega, i + 1, rfl, rfl, by omega, ?_⟩
        have h3 : xs[i].1 = ys[i].1 ∧ (xs[i].2.1 : Int) = (ys[i].2.1 : Int) ∧ (xs[i].2.2 : Int) = (ys[i].2.2 : Int) := by simpa using hc3
        have : xs[i] = ys[i] := Prod.ext h3.1 (Prod.ext (by have := h3.2.1; omega) (by have := h3.2.2; omega))
        rw [List.take_succ_eq_append_getElem hi1, List.take_succ_eq_append_getElem hi2, ht, this]
    · skip
      refine w_exit0 ?_
      refine w_seq (w_reg (wl_f (f_assign rfl) (wl_end [(4, _)] ⟨rfl, trivial⟩ ?_)))
      refine w_ret ?_
      refine ⟨_, _, fun a ha hh => results_tmps Tryz.results18 rfl a ha _, List.Sublist.refl _, ?_⟩
      exact ⟨by rw [decide_eq_true (by rw [List.take_of_length_le (by omega), List.take_of_length_le (by omega)] at ht; exact ht)]; rfl, rfl⟩
end Go.Proofs.YtmagdjlcckgkpaaGreat

/- Tables by the method of Misra and Gries: all entries; nil tables. -/
namespace Go.Proofs.YtmagdjlcckgkpaaGreat
open Go.RowKit

def fent (M : UM) (ded : Nat) (k : ByteArray) : En := (k, (mget M k).getD 0, ded)
section
variable {P : Program} {n : Nat} {w0 : World} {F0 : Nat → Prop} {r : Option Nat} {N R : CondG} {X : Nat → CondG} {ds : List Deferred} {m : Env} {H : List Res} {w : World}
theorem g_nilrow {c : Code} (e sz : Nat) (h : G P n w0 F0 r c N R X ds m (row (.slice .none 0 0) e sz 0 [] :: H) w) : G P n w0 F0 r c N R X ds m H w := fun a ha hh => h a ha (hh.nilrow e sz)
theorem g_bodyB {c : Code} {o x tab r0 q : Res} (Ψ : List Res → Prop) (hN : ∀ L, Ψ L → ∀ m w, N [] m [o, x, tab, r0, bun L] w)
    (h : G P n w0 F0 r c (fun ds _ H2 _ => ds = [] ∧ ∃ L E, H2.Perm (L ++ ([o, x, tab, r0] ++ E)) ∧ Ψ L) R X [] m [o, x, tab, r0, q] w) : G P n w0 F0 r c N R X [] m [o, x, tab, r0, q] w :=
  g_fin _ h fun _ m H2 w9 ⟨e, L, E, hp, hΨ⟩ => by
    subst e
    exact ⟨[o, x, tab, r0, bun L], fun hh => ((Holds.bun.1 (hh.perm hp)).perm (pick_perm [1, 1, 1, 1, 0] _ rfl)).drop_ (List.sublist_append_left _ _), hN L hΨ m w9⟩
end
set_option maxHeartbeats 4000000 in
theorem frentries_spec (t m : Nat) (M : UM) (ded total : Nat) (r : Res) (w : World) (hm12 : m ≤ 12) (hr : FrR t m M ded total r) (hs : Holds w r.foot [r] w) :
    Spec Tryz.prog 146 [.pointer (some ⟨t, 0, .none⟩)] w r.foot fun v H => ∃ ks : List ByteArray, ks.Perm (keys M) ∧ Srts ks ∧ H = [row v 46 3 (ks.map (fent M ded)).length (encs (ks.map (fent M ded))), r] := by
  have hr0 := hr
  obtain ⟨hm1, hm2, bX, rX, T, rfl, hX⟩ := hr
  have hMl := hX.len
  obtain ⟨ks, hks, hss⟩ := srt_exists hX.nd
  have hsm := hX.sm
  have hkl : ks.length ≤ 12 := by
    have := hks.length_eq
    rw [keys, List.length_map] at this
    omega
  refine ISpec.spec ?_
  refine g_enter (n := 23) Tryz.func146 rfl rfl [(0, _)] rfl ⟨rfl, trivial⟩ hs ?_
  refine g_seq ?_
  refine g_reg (noDefer_of rfl) ?_
  refine wl_e (e_box (cs := [_]) rfl rfl) ?_
  rintro _ _ w0_0 ⟨bt, rfl, rfl⟩
  refine wl_f (f_assign rfl) (wl_end [(1, _)] ⟨rfl, trivial⟩ ?_)
  refine g_seq ?_
  refine g_seq ?_
  refine g_reg (noDefer_of rfl) ?_
  refine wl_f (f_loadb 0 rfl Tryz.underlying71 rfl rfl rfl) ?_
  refine wl_f (f_eqlnil rfl rfl Tryz.underlying71) ?_
  refine wl_end [(1, _), (7, _)] ⟨rfl, rfl, trivial⟩ ?_
  refine g_if (b := false) rfl (fun h => by cases h) (fun _ => ?_)
  refine g_skip ?_
  refine g_seq ?_
  refine g_reg (noDefer_of rfl) ?_
  refine wl_e (e_alloc1 (.slice .none 0 0) (by kernel_rfl) rfl) ?_
  rintro _ _ w3_0 ⟨bo, rfl, rfl⟩
  refine wl_end [(1, _), (3, _)] ⟨rfl, rfl, trivial⟩ ?_
  refine g_seq ?_
  refine g_seq ?_
  refine g_reg (noDefer_of rfl) ?_
  refine wl_f (f_loadb 1 rfl Tryz.underlying71 rfl rfl rfl) ?_
  refine wl_e (e_call0 rfl Tryz.func156 (by kernel_rfl) (fun w hh => tracked_spec _ w)) ?_
  rintro _ _ w5 ⟨_, rfl, bx, rfl, rfl⟩
  refine wl_end [(1, _), (3, _), (9, _)] ⟨rfl, rfl, rfl, trivial⟩ ?_
  refine g_nilrow 46 3 ?_
  refine g_pick [2, 0, 1, 0, 0] rfl ?_
  refine g_bun (H := [_, _]) [_, _, _] ?_
  refine g_pick [2, 0, 0] rfl ?_
  refine g_unb [ftab t bX m ded total, rX] ?_
  refine g_block ?_
  refine g_range [_, _, _, _] [] rfl Tryz.func160 (by kernel_rfl) (pick_perm [3, 0, 0, 0] _ rfl) ?_
  intro fn a l D w6 ha hh hself
  refine ISpec.mono (tracked1_spec l bx t bX m ded total _ rX _ M ks T w6 (fun pre M' r q => (M' = M ∧ r = rX) ∧ ∃ v, q = bun [blk bo [v] 42, row v 46 3 (pre.map (fent M ded)).length (encs (pre.map (fent M ded))), blk bt [.pointer (some ⟨t, 0, .none⟩)] 71]) hm12 hks hss (fun k hk => hsm k (hks.mem_iff.1 hk)) (fun _ _ _ _ h => by obtain ⟨⟨rfl, rfl⟩, _⟩ := h; exact hX) ⟨⟨rfl, rfl⟩, _, rfl⟩ ?_ hself) ?_
  · rintro pre k rest M' r q w7 hke ⟨⟨rfl, rfl⟩, v, rfl⟩ hself2
    have hpl : pre.length + 1 ≤ 12 := by
      have : ks.length = pre.length + (rest.length + 1) := by rw [hke]; simp
      omega
    have hpm : (pre.map (fent M' ded)).length = pre.length := List.length_map ..
    refine y_round (n := 23) ha rfl rfl hself2 ?_
    refine g_seq ?_
    refine g_reg (noDefer_of rfl) ?_
    refine wl_f (f_assign rfl) (wl_end [(1, _), (3, _), (4, _), (11, _)] ⟨rfl, rfl, rfl, rfl, trivial⟩ ?_)
    refine g_reg (noDefer_of rfl) ?_
    refine wl_f (f_assign rfl) (wl_end [(1, _), (3, _), (4, _), (5, _)] ⟨rfl, rfl, rfl, rfl, trivial⟩ ?_)
    refine ⟨rfl, _, List.Perm.refl _, fun w8 => ?_⟩
    refine g_bodyB (fun L => ∃ v', L = [blk bo [v'] 42, row v' 46 3 ((pre ++ [k]).map (fent M' ded)).length (encs ((pre ++ [k]).map (fent M' ded))), blk bt [.pointer (some ⟨t, 0, .none⟩)] 71]) (fun L ⟨v', hL⟩ m w => ⟨rfl, _, List.Perm.refl _, rfl, M', r, _, List.Perm.refl _, ⟨rfl, rfl⟩, v', by rw [hL]⟩) ?_
    refine g_pick [4, 0, 0, 0, 0] rfl ?_
    refine g_unb [_, _, _] ?_
    refine g_block ?_
    refine g_drawk [(0, true), (1, true), (2, true), (3, true), (4, true), (5, true), (6, true), (7, true), (8, false), (9, false), (10, false)] [(_, some 10), (_, none), (_, none), (_, none), (_, none), (_, none)] [_] mixed (by kernel_rfl) rfl (by kernel_rfl) rfl rfl (pick_perm [0, 1, 1, 1, 1, 1] _ rfl) (fun w9 => ?_)
    refine wk_f rfl (f_loadb 0 rfl Tryz.underlying42 rfl rfl rfl) ?_
    refine wk_f rfl (f_move rfl) (wk_f rfl (f_move rfl) (wk_f rfl (f_loadb 1 rfl Tryz.underlying71 rfl rfl rfl) ?_))
    refine wk_f rfl (f_nilCheck rfl) (wk_f rfl (f_fieldAddr 2 rfl Tryz.underlying106 rfl rfl (by kernel_rfl)) ?_)
    refine wk_f rfl (f_loadb 4 rfl Tryz.underlying33 rfl rfl rfl) ?_
    refine wk_f rfl (f_build rfl (fun w => build_entry _ _ _ w)) ?_
    refine wk_e rfl (e_lit1 (cs := [_, _, _]) t42 rfl rfl rfl (by omega)) ?_
    rintro _ _ w10 ⟨bl, rfl, rfl⟩
    refine ⟨_, List.perm_middle.symm, ?_⟩
    refine wk_e rfl (e_appN 7 t42 rfl rfl rfl (fun w hh => Rd.held0 hh (i := 6) rfl) (by simp [Value.oneCell']) (by omega) (by omega)) ?_
    rintro v2 _ w11 ⟨⟨A2, c2, rfl⟩, rfl⟩
    refine ⟨_, List.Perm.refl _, ?_⟩
    refine wk_e0 rfl (e_storeN 0 (us := [_]) rfl rfl rfl rfl (by kernel_rfl) (by simp [Value.oneCell']) rfl rfl) ?_
    rintro _ _ w12 rfl
    refine ⟨_, pick_perm [1, 1, 1, 1, 1] _ rfl, ?_⟩
    refine wk_end [] trivial ?_
    refine ⟨rfl, [_, _, _], [_], pick_perm [5, 6, 0] _ rfl, .slice A2 ((pre.map (fent M' ded)).length + 1) c2, ?_⟩
    rw [List.map_append, List.map_cons, List.map_nil, encs_snoc, List.length_append]
    rfl
  rintro _ H1 ⟨M1, r, q, hp, ⟨rfl, rfl⟩, v, rfl⟩
  refine ⟨_, hp, fun w' => ?_⟩
  refine g_seq ?_
  refine g_pick [2, 2, 2, 0] rfl ?_
  refine g_bun (H := [_, _]) [_, _] ?_
  refine g_pick [1, 0, 0] rfl ?_
  refine g_unb [_, _, _] ?_
  refine g_reg (noDefer_of rfl) ?_
  refine wl_f (f_loadb 0 rfl Tryz.underlying42 rfl rfl rfl) ?_
  refine wl_f (f_assign rfl) (wl_end [(2, _)] ⟨rfl, trivial⟩ ?_)
  refine g_pick [1, 2, 2] rfl ?_
  refine g_ret ?_
  exact ⟨v, _, [_, _], fun a w2 ha hh => results_tmps (vs := [v]) Tryz.results146 rfl a ha _, List.Sublist.refl _, ⟨ks, hks, hss, rfl⟩, .inr ⟨D, rfl, List.perm_append_comm (l₁ := [_, _]) (l₂ := [_])⟩⟩
theorem frentries_nil (w : World) : Spec Tryz.prog 146 [.pointer .none] w Nil fun r H => r = .slice .none 0 0 := by
  refine enter (n := 23) Tryz.func146 rfl rfl [(0, _)] rfl ⟨rfl, trivial⟩ (Holds.start _ _) ?_
  refine w_seq (w_reg (wl_e (e_box (cs := [_]) rfl rfl) ?_))
  rintro _ _ w0_0 ⟨bt, rfl, rfl⟩
  refine wl_f (f_assign rfl) (wl_end [(1, _)] ⟨rfl, trivial⟩ ?_)
  refine w_seq (w_seq (w_reg (wl_f (f_loadb 0 rfl Tryz.underlying71 rfl rfl rfl) ?_)))
  refine wl_f (f_eqlnil rfl rfl Tryz.underlying71) ?_
  refine wl_end [(1, _), (7, _)] ⟨rfl, rfl, trivial⟩ ?_
  refine w_ift rfl ?_
  refine w_seq (w_reg (wl_f (f_assign rfl) (wl_end [(2, _)] ⟨rfl, trivial⟩ ?_)))
  refine w_ret ?_
  exact ⟨_, _, fun a ha hh => results_tmps Tryz.results146 rfl a ha _, List.Sublist.refl _, rfl⟩
set_option maxHeartbeats 1000000 in
theorem frtake_nil (k : ByteArray) (w : World) : Spec Tryz.prog 150 [.pointer .none, .string k] w Nil fun v H => v = .tuple [enZ, .bool false].toArray := by
  refine enter (n := 23) Tryz.func150 rfl rfl [(0, _), (1, _)] rfl ⟨rfl, rfl, trivial⟩ (Holds.start _ _) ?_
  refine w_seq (w_reg (wl_e (e_allocs [.string ByteArray.empty, .int .u64 0, .int .u64 0] (by kernel_rfl)) ?_))
  rintro _ _ w0_0 ⟨b0_0, rfl, rfl⟩
  refine wl_f (f_assign rfl) (wl_end [(0, _), (1, _), (4, _)] ⟨rfl, rfl, rfl, trivial⟩ ?_)
  refine w_seq (w_reg (wl_f (f_move rfl) (wl_f (f_move rfl) (wl_e (e_call0 rfl Tryz.func147 (by kernel_rfl) (fun w hh => frget_nil k w)) ?_))))
  rintro _ _ w1 ⟨_, rfl, rfl, rfl⟩
  refine wl_f (f_move rfl) (wl_f (f_extract rfl rfl) ?_)
  refine wl_f (f_extract rfl rfl) ?_
  refine wl_e (e_allocs [.string ByteArray.empty, .int .u64 0, .int .u64 0] (by kernel_rfl)) ?_
  rintro _ _ w1_6 ⟨b1_6, rfl, rfl⟩
  refine wl_e0 (e_store0 (us := [_, _, _]) rfl rfl rfl (by kernel_rfl) (by simp [Value.oneCell']) rfl rfl) ?_
  rintro _ _ w1_7 rfl
  refine wl_f (f_assign rfl) (wl_end [(0, _), (1, _), (4, _), (6, _), (7, _)] ⟨rfl, rfl, rfl, rfl, rfl, trivial⟩ ?_)
  refine w_seq (w_seq (w_reg (wl_f (f_move rfl) (wl_end [(0, _), (1, _), (4, _), (6, _), (7, _), (14, _)] ⟨rfl, rfl, rfl, rfl, rfl, rfl, trivial⟩ ?_))))
  refine w_iff rfl ?_
  refine w_skip ?_
  refine w_seq (w_reg (wl_f (f_loadsb (cs := [_, _, _]) 0 rfl Tryz.underlying46 rfl (by kernel_rfl) rfl rfl) ?_))
  refine wl_f (f_move rfl) (wl_e0 (e_store1 (us := [_, _, _]) rfl rfl rfl (by kernel_rfl) (by simp [Value.oneCell']) rfl rfl) ?_)
  rintro _ _ w4_2 rfl
  refine wl_f (f_assign rfl) (wl_end [(4, _), (5, _)] ⟨rfl, rfl, trivial⟩ ?_)
  refine w_ret ?_
  refine ⟨_, _, fun a ha hh => results_mix Tryz.results150 (rm_cell (cell_agg 1 rfl Tryz.underlying46 rfl (by kernel_rfl) rfl) (rm_tmp rfl rm_nil)) a ha _ hh, List.nil_sublist _, ?_⟩
  rfl
set_option maxHeartbeats 1000000 in
theorem frswap_nil (k x : ByteArray) (o s : Int) (w : World) : Spec Tryz.prog 149 [.pointer .none, .string k, .agg #[.string x, .int .u64 o, .int .u64 s]] w Nil fun v H => v = .tuple [enZ, .int .i64 8].toArray := by
  refine enter (n := 73) Tryz.func149 rfl rfl [(0, _), (1, _), (2, _)] rfl ⟨rfl, rfl, rfl, trivial⟩ (Holds.start _ _) ?_
  refine w_seq (w_reg (wl_e (e_box (cs := [_, _, _]) rfl rfl) ?_))
  rintro _ _ w0_0 ⟨b0_0, rfl, rfl⟩
  refine wl_e (e_allocs [.string ByteArray.empty, .int .u64 0, .int .u64 0] (by kernel_rfl)) ?_
  rintro _ _ w0_1 ⟨b0_1, rfl, rfl⟩
  refine wl_f (f_assign rfl) (wl_end [(0, _), (1, _), (5, _), (6, _)] ⟨rfl, rfl, rfl, rfl, trivial⟩ ?_)
  refine w_seq (w_reg (wl_f (f_move rfl) (wl_f (f_move rfl) (wl_e (e_call0 rfl Tryz.func147 (by kernel_rfl) (fun w hh => frget_nil k w)) ?_))))
  rintro _ _ w1 ⟨_, rfl, rfl, rfl⟩
  refine wl_f (f_move rfl) (wl_f (f_extract rfl rfl) ?_)
  refine wl_f (f_extract rfl rfl) ?_
  refine wl_e (e_allocs [.string ByteArray.empty, .int .u64 0, .int .u64 0] (by kernel_rfl)) ?_
  rintro _ _ w1_6 ⟨b1_6, rfl, rfl⟩
  refine wl_e0 (e_store0 (us := [_, _, _]) rfl rfl rfl (by kernel_rfl) (by simp [Value.oneCell']) rfl rfl) ?_
  rintro _ _ w1_7 rfl
  refine wl_f (f_assign rfl) (wl_end [(0, _), (1, _), (5, _), (6, _), (8, _), (9, _)] ⟨rfl, rfl, rfl, rfl, rfl, rfl, trivial⟩ ?_)
  refine w_seq (w_seq (w_reg (wl_f (f_move rfl) (wl_f (f_not rfl rfl) ?_))))
  refine wl_end [(0, _), (1, _), (5, _), (6, _), (8, _), (19, _)] ⟨rfl, rfl, rfl, rfl, rfl, rfl, trivial⟩ ?_
  refine w_ift rfl ?_
  refine w_seq (w_reg (wl_f (f_build rfl build_entry0) ?_))
  refine wl_e0 (e_store1 (us := [_, _, _]) rfl rfl rfl (by kernel_rfl) (by simp [Value.oneCell']) rfl rfl) ?_
  rintro _ _ w3_1 rfl
  refine wl_f (f_assign rfl) (wl_end [(6, _), (7, _)] ⟨rfl, rfl, trivial⟩ ?_)
  refine w_ret ?_
  refine ⟨_, _, fun a ha hh => results_mix Tryz.results149 (rm_cell (cell_agg 1 rfl Tryz.underlying46 rfl (by kernel_rfl) rfl) (rm_tmp rfl rm_nil)) a ha _ hh, List.nil_sublist _, ?_⟩
  rfl
end Go.Proofs.YtmagdjlcckgkpaaGreat

/- The proof kit, eighteenth part: a call of a method of an interface value. -/
namespace Go.Proofs.YtmagdjlcckgkpaaGreat
open Go.RowKit
section
variable {P : Program} {n : Nat} {w0 : World} {F0 : Nat → Prop} {m : Env} {H : List Res} {w : World} {ty : TypeId}
theorem e_calli {recv : Operand} {name : String} {t : TypeId} {pv : Value} {f : FuncId} {fn : Func} {xs : List Operand} {vs : List Value} {ts : Array TypeId} {Φ : Value → List Res → Prop} (Hc Hr : List Res) (hrv : ev m recv = some (.iface t pv))
    (hm : ∀ w, (method (P.types.size + Made.depth) t pv name).run P w = .ok (f, pv) w)
    (hx : evs m xs = some vs) (hf : P.funcs[f]? = some fn) (hb : (fn.body.isNone, fn.name == "runtime.NumGoroutine") = (false, false)) (hH : H.Perm (Hc ++ Hr))
    (hc : ∀ w, Holds w0 F0 H w → Holds w (feet Hc) Hc w → Spec P f (pv :: vs) w (feet Hc) Φ) :
    Eff P n w0 F0 (.call { callee := .invoke recv name, args := xs.toArray, argTypes := ts }) ty m H w (fun v H' => ∃ H1, H' = H1 ++ Hr ∧ Φ v H1) := fun o a K Q ho1 ho2 ha hh hk => by
  have hargs : (xs.toArray.map a.eval) = vs.toArray := by
    apply Array.ext'
    simpa using ha.evals _ hx
  have hcf : ∀ args : Array Value, (callFunc f args).run P w = .ok (.enter f args) w := fun args => by
    injection hb with hb1 hb2
    simp only [callFunc, Sem.run_bind, run_program, Result.andThen_ok, hf, hb1, hb2, Bool.false_eq_true, if_false, Sem.run_pure]
  have hrun : (execOp a.eval o).run P w = .ok (.enter f (pv :: vs).toArray) w := by
    have e0 : (#[Value.iface t pv] ++ vs.toArray)[0]? = some (Value.iface t pv) := by simp
    have e1 : (#[Value.iface t pv] ++ vs.toArray).extract 1 (#[Value.iface t pv] ++ vs.toArray).size = vs.toArray := by
      apply Array.ext'
      simp
    have e2 : #[pv] ++ vs.toArray = (pv :: vs).toArray := by
      apply Array.ext'
      simp
    simp only [execOp, ho1, resolve, ha.eval hrv, hargs, Sem.run_bind, Sem.run_pure, Result.andThen_ok, invoke, e0, e1, callMethod, run_program, hm, hcf, e2]
  have hperm := hh.perm hH
  have hself : Holds w (feet Hc) Hc w := by
    refine ⟨Frm.refl _ _, ?_⟩
    have hcs := (Hs.append.1 hperm.2).1
    have key : ∀ L : List Res, Hs w0 F0 L w → (∀ r ∈ L, ∀ k, r.foot k → feet Hc k) → Hs w (feet Hc) L w := by
      intro L
      induction L with
      | nil => exact fun _ _ => trivial
      | cons r L ih => exact fun h hin => ⟨⟨h.1.1, fun k hk => ⟨(h.1.2.1 k hk).1, .inr (hin r (List.mem_cons_self ..) k hk)⟩, h.1.2.2⟩, ih h.2 fun s hs => hin s (List.mem_cons_of_mem _ hs)⟩
    exact key Hc hcs fun r hr k hk => ⟨r, hr, hk⟩
  unfold Oper.wp
  rw [hrun, Oper.upon_enter]
  refine Calls.mono (hc w hh hself) ?_
  rintro e' w' ⟨v, H1, rfl, hh1, hp⟩
  exact hk v _ w' ⟨H1, rfl, hp⟩ (hperm.call hh1)
theorem e_calli1 {recv : Operand} {name : String} {t : TypeId} {pv : Value} {f : FuncId} {fn : Func} {xs : List Operand} {vs : List Value} {ts : Array TypeId} {Φ : Value → List Res → Prop} (r : Res) (Hr : List Res) (hrv : ev m recv = some (.iface t pv))
    (hm : ∀ w, (method (P.types.size + Made.depth) t pv name).run P w = .ok (f, pv) w)
    (hx : evs m xs = some vs) (hf : P.funcs[f]? = some fn) (hb : (fn.body.isNone, fn.name == "runtime.NumGoroutine") = (false, false)) (hH : H.Perm (r :: Hr))
    (hc : ∀ w, Holds w0 F0 H w → Holds w r.foot [r] w → Spec P f (pv :: vs) w r.foot Φ) :
    Eff P n w0 F0 (.call { callee := .invoke recv name, args := xs.toArray, argTypes := ts }) ty m H w (fun v H' => ∃ H1, H' = H1 ++ Hr ∧ Φ v H1) :=
  e_calli [r] Hr hrv hm hx hf hb hH fun w hh hs => by rw [feet_one] at hs ⊢; exact hc w hh hs
/-- A value that is made an interface value. -/
theorem f_iface {xt : TypeId} {x : Operand} {v : Value} {d : TypeDesc} (hx : ev m x = some v) (ht : P.underlying xt = some d) (hd : (match d with | .interface _ => false | _ => true) = true) : Flt P n w0 F0 (.makeInterface xt x) ty m H (.iface xt v) := fun o a w h1 h2 ha hh => by
  have : (Instr.makeInterface xt v).run P w = .ok (.iface xt v) w := by
    cases d <;> simp_all [Instr.makeInterface, run_underlying ht]
  simp [execOp, h1, ha.eval hx, this]
end
end Go.Proofs.YtmagdjlcckgkpaaGreat

/- Tables of either mode: calls of methods; nil tables; limits. -/
namespace Go.Proofs.YtmagdjlcckgkpaaGreat
open Go.RowKit

theorem Spec.bunp {P : Program} {f : FuncId} {vs : List Value} {w : World} {F : Nat → Prop} {Φ Ψ : Value → List Res → Prop} (h : Spec P f vs w F Φ) (hp : ∀ v H, Φ v H → ∃ L H', H.Perm (L ++ H') ∧ Ψ v (bun L :: H')) : Spec P f vs w F Ψ :=
  Calls.mono h fun _ _ ⟨v, H1, he, hh, hv⟩ => by
    obtain ⟨L, H', hperm, hψ⟩ := hp v H1 hv
    exact ⟨v, _, he, Holds.bun.1 (hh.perm hperm), hψ⟩
/-- The head of a table: the method's type and where it is. -/
def thd (t : Nat) (ty : TypeId) (b : Nat) : Res := blk t [.iface ty (.pointer (some ⟨b, 0, .none⟩))] 75
section
variable {ty : TypeId} {f : FuncId} {fn : Func} {t b : Nat} {r' : Res} {w : World}
theorem tuntracked_gen {Φ : Value → List Res → Prop} (hm : ∀ w, (method (Tryz.prog.types.size + Made.depth) ty (.pointer (some ⟨b, 0, .none⟩)) "Untracked").run Tryz.prog w = .ok (f, .pointer (some ⟨b, 0, .none⟩)) w) (hf : Tryz.prog.funcs[f]? = some fn) (hb : (fn.body.isNone, fn.name == "runtime.NumGoroutine") = (false, false))
    (hc : ∀ w, Holds w r'.foot [r'] w → Spec Tryz.prog f [.pointer (some ⟨b, 0, .none⟩)] w r'.foot Φ) (hs : Holds w (bun [thd t ty b, r']).foot [bun [thd t ty b, r']] w) :
    Spec Tryz.prog 15 [.pointer (some ⟨t, 0, .none⟩)] w (bun [thd t ty b, r']).foot fun v H => ∃ H1, H = H1 ++ [thd t ty b] ∧ Φ v H1 := by
  refine enter (n := 10) Tryz.func15 rfl rfl [(0, _)] rfl ⟨rfl, trivial⟩ hs ?_
  refine w_unb (H := []) [thd t ty b, r'] ?_
  refine w_seq (w_reg (wl_f (f_assign rfl) (wl_end [(0, _)] ⟨rfl, trivial⟩ ?_)))
  refine w_seq (w_seq (w_reg (wl_f (f_move rfl) (wl_f (f_eqlnil rfl rfl Tryz.underlying24) ?_))))
  refine wl_end [(0, _), (4, _)] ⟨rfl, rfl, trivial⟩ ?_
  refine w_iff rfl ?_
  refine w_skip ?_
  refine w_seq (w_reg (wl_f (f_move rfl) (wl_f (f_nilCheck rfl) (wl_f (f_fieldAddr 0 rfl Tryz.underlying75 rfl rfl (by kernel_rfl)) ?_))))
  refine wl_f (f_loadb 0 rfl Tryz.underlying67 rfl rfl rfl) ?_
  refine wl_e (e_calli1 r' [_] rfl hm rfl hf hb (pk1 1 rfl) (fun w hh hs' => hc w hs')) ?_
  rintro v _ w1 ⟨H1, rfl, hv⟩
  refine wl_f (f_assign rfl) (wl_end [(2, _)] ⟨rfl, trivial⟩ ?_)
  refine w_ret ?_
  refine ⟨_, _, fun a ha hh => results_tmps Tryz.results15 rfl a ha _, List.Sublist.refl _, ?_⟩
  exact ⟨H1, rfl, hv⟩
theorem ttotal_gen {Φ : Value → List Res → Prop} (hm : ∀ w, (method (Tryz.prog.types.size + Made.depth) ty (.pointer (some ⟨b, 0, .none⟩)) "Total").run Tryz.prog w = .ok (f, .pointer (some ⟨b, 0, .none⟩)) w) (hf : Tryz.prog.funcs[f]? = some fn) (hb : (fn.body.isNone, fn.name == "runtime.NumGoroutine") = (false, false))
    (hc : ∀ w, Holds w r'.foot [r'] w → Spec Tryz.prog f [.pointer (some ⟨b, 0, .none⟩)] w r'.foot Φ) (hs : Holds w (bun [thd t ty b, r']).foot [bun [thd t ty b, r']] w) :
    Spec Tryz.prog 16 [.pointer (some ⟨t, 0, .none⟩)] w (bun [thd t ty b, r']).foot fun v H => ∃ H1, H = H1 ++ [thd t ty b] ∧ Φ v H1 := by
  refine enter (n := 10) Tryz.func16 rfl rfl [(0, _)] rfl ⟨rfl, trivial⟩ hs ?_
  refine w_unb (H := []) [thd t ty b, r'] ?_
  refine w_seq (w_reg (wl_f (f_assign rfl) (wl_end [(0, _)] ⟨rfl, trivial⟩ ?_)))
  refine w_seq (w_seq (w_reg (wl_f (f_move rfl) (wl_f (f_eqlnil rfl rfl Tryz.underlying24) ?_))))
  refine wl_end [(0, _), (4, _)] ⟨rfl, rfl, trivial⟩ ?_
  refine w_iff rfl ?_
  refine w_skip ?_
  refine w_seq (w_reg (wl_f (f_move rfl) (wl_f (f_nilCheck rfl) (wl_f (f_fieldAddr 0 rfl Tryz.underlying75 rfl rfl (by kernel_rfl)) ?_))))
  refine wl_f (f_loadb 0 rfl Tryz.underlying67 rfl rfl rfl) ?_
  refine wl_e (e_calli1 r' [_] rfl hm rfl hf hb (pk1 1 rfl) (fun w hh hs' => hc w hs')) ?_
  rintro v _ w1 ⟨H1, rfl, hv⟩
  refine wl_f (f_assign rfl) (wl_end [(2, _)] ⟨rfl, trivial⟩ ?_)
  refine w_ret ?_
  refine ⟨_, _, fun a ha hh => results_tmps Tryz.results16 rfl a ha _, List.Sublist.refl _, ?_⟩
  exact ⟨H1, rfl, hv⟩
theorem tlen_gen {Φ : Value → List Res → Prop} (hm : ∀ w, (method (Tryz.prog.types.size + Made.depth) ty (.pointer (some ⟨b, 0, .none⟩)) "Len").run Tryz.prog w = .ok (f, .pointer (some ⟨b, 0, .none⟩)) w) (hf : Tryz.prog.funcs[f]? = some fn) (hb : (fn.body.isNone, fn.name == "runtime.NumGoroutine") = (false, false))
    (hc : ∀ w, Holds w r'.foot [r'] w → Spec Tryz.prog f [.pointer (some ⟨b, 0, .none⟩)] w r'.foot Φ) (hs : Holds w (bun [thd t ty b, r']).foot [bun [thd t ty b, r']] w) :
    Spec Tryz.prog 25 [.pointer (some ⟨t, 0, .none⟩)] w (bun [thd t ty b, r']).foot fun v H => ∃ H1, H = H1 ++ [thd t ty b] ∧ Φ v H1 := by
  refine enter (n := 10) Tryz.func25 rfl rfl [(0, _)] rfl ⟨rfl, trivial⟩ hs ?_
  refine w_unb (H := []) [thd t ty b, r'] ?_
  refine w_seq (w_reg (wl_f (f_assign rfl) (wl_end [(0, _)] ⟨rfl, trivial⟩ ?_)))
  refine w_seq (w_seq (w_reg (wl_f (f_move rfl) (wl_f (f_eqlnil rfl rfl Tryz.underlying24) ?_))))
  refine wl_end [(0, _), (4, _)] ⟨rfl, rfl, trivial⟩ ?_
  refine w_iff rfl ?_
  refine w_skip ?_
  refine w_seq (w_reg (wl_f (f_move rfl) (wl_f (f_nilCheck rfl) (wl_f (f_fieldAddr 0 rfl Tryz.underlying75 rfl rfl (by kernel_rfl)) ?_))))
  refine wl_f (f_loadb 0 rfl Tryz.underlying67 rfl rfl rfl) ?_
  refine wl_e (e_calli1 r' [_] rfl hm rfl hf hb (pk1 1 rfl) (fun w hh hs' => hc w hs')) ?_
  rintro v _ w1 ⟨H1, rfl, hv⟩
  refine wl_f (f_assign rfl) (wl_end [(2, _)] ⟨rfl, trivial⟩ ?_)
  refine w_ret ?_
  refine ⟨_, _, fun a ha hh => results_tmps Tryz.results25 rfl a ha _, List.Sublist.refl _, ?_⟩
  exact ⟨H1, rfl, hv⟩
theorem tentries_gen {Φ : Value → List Res → Prop} (hm : ∀ w, (method (Tryz.prog.types.size + Made.depth) ty (.pointer (some ⟨b, 0, .none⟩)) "Entries").run Tryz.prog w = .ok (f, .pointer (some ⟨b, 0, .none⟩)) w) (hf : Tryz.prog.funcs[f]? = some fn) (hb : (fn.body.isNone, fn.name == "runtime.NumGoroutine") = (false, false))
    (hc : ∀ w, Holds w r'.foot [r'] w → Spec Tryz.prog f [.pointer (some ⟨b, 0, .none⟩)] w r'.foot Φ) (hs : Holds w (bun [thd t ty b, r']).foot [bun [thd t ty b, r']] w) :
    Spec Tryz.prog 14 [.pointer (some ⟨t, 0, .none⟩)] w (bun [thd t ty b, r']).foot fun v H => ∃ H1, H = H1 ++ [thd t ty b] ∧ Φ v H1 := by
  refine enter (n := 10) Tryz.func14 rfl rfl [(0, _)] rfl ⟨rfl, trivial⟩ hs ?_
  refine w_unb (H := []) [thd t ty b, r'] ?_
  refine w_seq (w_reg (wl_f (f_assign rfl) (wl_end [(0, _)] ⟨rfl, trivial⟩ ?_)))
  refine w_seq (w_seq (w_reg (wl_f (f_move rfl) (wl_f (f_eqlnil rfl rfl Tryz.underlying24) ?_))))
  refine wl_end [(0, _), (4, _)] ⟨rfl, rfl, trivial⟩ ?_
  refine w_iff rfl ?_
  refine w_skip ?_
  refine w_seq (w_reg (wl_f (f_move rfl) (wl_f (f_nilCheck rfl) (wl_f (f_fieldAddr 0 rfl Tryz.underlying75 rfl rfl (by kernel_rfl)) ?_))))
  refine wl_f (f_loadb 0 rfl Tryz.underlying67 rfl rfl rfl) ?_
  refine wl_e (e_calli1 r' [_] rfl hm rfl hf hb (pk1 1 rfl) (fun w hh hs' => hc w hs')) ?_
  rintro v _ w1 ⟨H1, rfl, hv⟩
  refine wl_f (f_assign rfl) (wl_end [(2, _)] ⟨rfl, trivial⟩ ?_)
  refine w_ret ?_
  refine ⟨_, _, fun a ha hh => results_tmps Tryz.results14 rfl a ha _, List.Sublist.refl _, ?_⟩
  exact ⟨H1, rfl, hv⟩
theorem tadd_gen {Φ : Value → List Res → Prop} {k : ByteArray} {v : Nat} (hm : ∀ w, (method (Tryz.prog.types.size + Made.depth) ty (.pointer (some ⟨b, 0, .none⟩)) "Add").run Tryz.prog w = .ok (f, .pointer (some ⟨b, 0, .none⟩)) w) (hf : Tryz.prog.funcs[f]? = some fn) (hb : (fn.body.isNone, fn.name == "runtime.NumGoroutine") = (false, false))
    (hc : ∀ w, Holds w r'.foot [r'] w → Spec Tryz.prog f [.pointer (some ⟨b, 0, .none⟩), .string k, .int .u64 (v : Int)] w r'.foot Φ) (hs : Holds w (bun [thd t ty b, r']).foot [bun [thd t ty b, r']] w) :
    Spec Tryz.prog 11 [.pointer (some ⟨t, 0, .none⟩), .string k, .int .u64 (v : Int)] w (bun [thd t ty b, r']).foot fun u H => ∃ H1, H = H1 ++ [thd t ty b] ∧ Φ u H1 := by
  refine enter (n := 16) Tryz.func11 rfl rfl [(0, _), (1, _), (2, _)] rfl ⟨rfl, rfl, rfl, trivial⟩ hs ?_
  refine w_unb (H := []) [thd t ty b, r'] ?_
  refine w_seq (w_reg (wl_f (f_assign rfl) (wl_end [(0, _), (1, _), (2, _)] ⟨rfl, rfl, rfl, trivial⟩ ?_)))
  refine w_seq (w_seq (w_reg (wl_f (f_move rfl) (wl_f (f_eqlnil rfl rfl Tryz.underlying24) ?_))))
  refine wl_end [(0, _), (1, _), (2, _), (8, _)] ⟨rfl, rfl, rfl, rfl, trivial⟩ ?_
  refine w_iff rfl ?_
  refine w_skip ?_
  refine w_seq (w_reg (wl_f (f_move rfl) (wl_f (f_nilCheck rfl) (wl_f (f_fieldAddr 0 rfl Tryz.underlying75 rfl rfl (by kernel_rfl)) ?_))))
  refine wl_f (f_loadb 0 rfl Tryz.underlying67 rfl rfl rfl) ?_
  refine wl_f (f_move rfl) (wl_f (f_move rfl) (wl_e (e_calli1 r' [_] rfl hm rfl hf hb (pk1 1 rfl) (fun w hh hs' => hc w hs')) ?_))
  rintro u _ w1 ⟨H1, rfl, hv⟩
  refine wl_f (f_assign rfl) (wl_end [(6, _)] ⟨rfl, trivial⟩ ?_)
  refine w_ret ?_
  refine ⟨_, _, fun a ha hh => results_tmps Tryz.results11 rfl a ha _, List.Sublist.refl _, ?_⟩
  exact ⟨H1, rfl, hv⟩
set_option maxHeartbeats 1000000 in
theorem ttake_gen {Ψ : ByteArray → Nat → Nat → Bool → Res → Prop} {k : ByteArray} (hm : ∀ w, (method (Tryz.prog.types.size + Made.depth) ty (.pointer (some ⟨b, 0, .none⟩)) "Take").run Tryz.prog w = .ok (f, .pointer (some ⟨b, 0, .none⟩)) w) (hf : Tryz.prog.funcs[f]? = some fn) (hb : (fn.body.isNone, fn.name == "runtime.NumGoroutine") = (false, false))
    (hc : ∀ w, Holds w r'.foot [r'] w → Spec Tryz.prog f [.pointer (some ⟨b, 0, .none⟩), .string k] w r'.foot fun v H => ∃ k' o' s' is r1, v = .tuple [enV k' o' s', .bool is].toArray ∧ H = [r1] ∧ Ψ k' o' s' is r1) (hs : Holds w (bun [thd t ty b, r']).foot [bun [thd t ty b, r']] w) :
    Spec Tryz.prog 17 [.pointer (some ⟨t, 0, .none⟩), .string k] w (bun [thd t ty b, r']).foot fun v H => ∃ k' o' s' is r1, v = .tuple [enV k' o' s', .bool is].toArray ∧ H = [bun [thd t ty b, r1]] ∧ Ψ k' o' s' is r1 := by
  refine enter (n := 17) Tryz.func17 rfl rfl [(0, _), (1, _)] rfl ⟨rfl, rfl, trivial⟩ hs ?_
  refine w_unb (H := []) [thd t ty b, r'] ?_
  refine w_seq (w_reg (wl_e (e_allocs [.string ByteArray.empty, .int .u64 0, .int .u64 0] (by kernel_rfl)) ?_))
  rintro _ _ w0_0 ⟨b0_0, rfl, rfl⟩
  refine wl_f (f_assign rfl) (wl_end [(0, _), (1, _), (4, _)] ⟨rfl, rfl, rfl, trivial⟩ ?_)
  refine w_seq (w_seq (w_reg (wl_f (f_move rfl) (wl_f (f_eqlnil rfl rfl Tryz.underlying24) ?_))))
  refine wl_end [(0, _), (1, _), (4, _), (7, _)] ⟨rfl, rfl, rfl, rfl, trivial⟩ ?_
  refine w_iff rfl ?_
  refine w_skip ?_
  refine w_seq (w_reg (wl_f (f_move rfl) (wl_f (f_nilCheck rfl) (wl_f (f_fieldAddr 0 rfl Tryz.underlying75 rfl rfl (by kernel_rfl)) ?_))))
  refine wl_f (f_loadb 1 rfl Tryz.underlying67 rfl rfl rfl) ?_
  refine wl_f (f_move rfl) (wl_e (e_calli1 r' [_, _] rfl hm rfl hf hb (pk1 2 rfl) (fun w hh hs' => hc w hs')) ?_)
  rintro _ _ w1 ⟨_, rfl, k', o', s', is, r1, rfl, rfl, hv⟩
  refine wl_f (f_extract rfl rfl) ?_
  refine wl_f (f_extract rfl rfl) ?_
  refine wl_e0 (e_store1 (us := [_, _, _]) rfl rfl rfl (by kernel_rfl) (by simp [Value.oneCell']) rfl rfl) ?_
  rintro _ _ w3_8 rfl
  refine wl_f (f_assign rfl) (wl_end [(4, _), (5, _)] ⟨rfl, rfl, trivial⟩ ?_)
  refine w_pick [2, 0, 0] rfl ?_
  refine w_bun (H := [_]) [thd t ty b, r1] ?_
  refine w_pick [1, 0] rfl ?_
  refine w_ret ?_
  refine ⟨_, _, fun a ha hh => results_mix Tryz.results17 (rm_cell (cell_agg 0 rfl Tryz.underlying46 rfl (by kernel_rfl) rfl) (rm_tmp rfl rm_nil)) a ha _ hh, List.sublist_cons_self .., ?_⟩
  exact ⟨k', o', s', is, r1, rfl, rfl, hv⟩
set_option maxHeartbeats 1000000 in
theorem tswap_gen {Ψ : ByteArray → Nat → Nat → Int → Res → Prop} {k x : ByteArray} {xo xs : Nat} (hm : ∀ w, (method (Tryz.prog.types.size + Made.depth) ty (.pointer (some ⟨b, 0, .none⟩)) "Swap").run Tryz.prog w = .ok (f, .pointer (some ⟨b, 0, .none⟩)) w) (hf : Tryz.prog.funcs[f]? = some fn) (hb : (fn.body.isNone, fn.name == "runtime.NumGoroutine") = (false, false))
    (hc : ∀ w, Holds w r'.foot [r'] w → Spec Tryz.prog f [.pointer (some ⟨b, 0, .none⟩), .string k, .agg #[.string x, .int .u64 (xo : Int), .int .u64 (xs : Int)]] w r'.foot fun v H => ∃ k' o' s' e r1, v = .tuple [enV k' o' s', .int .i64 e].toArray ∧ H = [r1] ∧ Ψ k' o' s' e r1) (hs : Holds w (bun [thd t ty b, r']).foot [bun [thd t ty b, r']] w) :
    Spec Tryz.prog 20 [.pointer (some ⟨t, 0, .none⟩), .string k, .agg #[.string x, .int .u64 (xo : Int), .int .u64 (xs : Int)]] w (bun [thd t ty b, r']).foot fun v H => ∃ k' o' s' e r1, v = .tuple [enV k' o' s', .int .i64 e].toArray ∧ H = [bun [thd t ty b, r1]] ∧ Ψ k' o' s' e r1 := by
  refine enter (n := 20) Tryz.func20 rfl rfl [(0, _), (1, _), (2, _)] rfl ⟨rfl, rfl, rfl, trivial⟩ hs ?_
  refine w_unb (H := []) [thd t ty b, r'] ?_
  refine w_seq (w_reg (wl_e (e_box (cs := [_, _, _]) rfl rfl) ?_))
  rintro _ _ w0_0 ⟨b0_0, rfl, rfl⟩
  refine wl_e (e_allocs [.string ByteArray.empty, .int .u64 0, .int .u64 0] (by kernel_rfl)) ?_
  rintro _ _ w0_1 ⟨b0_1, rfl, rfl⟩
  refine wl_f (f_assign rfl) (wl_end [(0, _), (1, _), (5, _), (6, _)] ⟨rfl, rfl, rfl, rfl, trivial⟩ ?_)
  refine w_seq (w_seq (w_reg (wl_f (f_move rfl) (wl_f (f_eqlnil rfl rfl Tryz.underlying24) ?_))))
  refine wl_end [(0, _), (1, _), (5, _), (6, _), (9, _)] ⟨rfl, rfl, rfl, rfl, rfl, trivial⟩ ?_
  refine w_iff rfl ?_
  refine w_skip ?_
  refine w_seq ?_
  refine w_drawk [(0, true), (1, true), (2, true), (3, true), (4, true), (5, true), (6, false), (7, true), (8, true), (9, false), (10, true)] ([(blk b0_0 [.string x, .int .u64 (xo : Int), .int .u64 (xs : Int)] 46, none), (thd t ty b, none)]) ([blk b0_1 [.string ByteArray.empty, .int .u64 0, .int .u64 0] 46, r']) mixed (by kernel_rfl) (by kernel_rfl) rfl rfl (pick_perm [1, 1] _ rfl) (fun w3_ => ?_)
  refine wk_f rfl (f_move rfl) (wk_f rfl (f_nilCheck rfl) (wk_f rfl (f_fieldAddr 0 rfl Tryz.underlying75 rfl rfl (by kernel_rfl)) ?_))
  refine wk_f rfl (f_loadb 1 rfl Tryz.underlying67 rfl rfl rfl) ?_
  refine wk_f rfl (f_move rfl) (wk_f rfl (f_loadsb (cs := [_, _, _]) 0 rfl Tryz.underlying46 rfl (by kernel_rfl) rfl rfl) ?_)
  refine wk_e rfl (e_calli1 r' [_, _, _] rfl hm rfl hf hb (pk1 3 rfl) (fun w hh hs' => hc w hs')) ?_
  rintro _ _ w1 ⟨_, rfl, k', o', s', e, r1, rfl, rfl, hv⟩
  refine ⟨_, pick_perm [1, 1] _ rfl, ?_⟩
  refine wk_f rfl (f_extract rfl rfl) ?_
  refine wk_f rfl (f_extract rfl rfl) ?_
  refine wk_e0 rfl (e_storeN 3 (us := [_, _, _]) rfl rfl rfl rfl (by kernel_rfl) (by simp [Value.oneCell']) rfl rfl) ?_
  rintro _ _ w3_9 rfl
  refine ⟨_, List.Perm.refl _, ?_⟩
  refine wk_f rfl (f_assign rfl) (wk_endp [(6, _), (7, _)] [1, 1, 1] ⟨rfl, rfl, trivial⟩ rfl ?_)
  refine w_bun (H := [_]) [thd t ty b, r1] ?_
  refine w_pick [1, 0] rfl ?_
  refine w_ret ?_
  refine ⟨_, _, fun a ha hh => results_mix Tryz.results20 (rm_cell (cell_agg 0 rfl Tryz.underlying46 rfl (by kernel_rfl) rfl) (rm_tmp rfl rm_nil)) a ha _ hh, List.sublist_cons_self .., ?_⟩
  exact ⟨k', o', s', e, r1, rfl, rfl, hv⟩
def bnV (lo hi : Nat) : Value := .agg #[.int .u64 (lo : Int), .int .u64 (hi : Int)]
theorem build_bounds0 (w : World) : (Instr.build 36 #[]).run Tryz.prog w = .ok (.agg [.int .u64 0, .int .u64 0].toArray) w := by kernel_rfl
theorem build_bounds1 (hi : Int) (w : World) : (Instr.build 36 [(1, .int .u64 hi)].toArray).run Tryz.prog w = .ok (.agg [.int .u64 0, .int .u64 hi].toArray) w := by kernel_rfl
theorem build_bounds2 (lo hi : Int) (w : World) : (Instr.build 36 [(0, .int .u64 lo), (1, .int .u64 hi)].toArray).run Tryz.prog w = .ok (.agg [.int .u64 lo, .int .u64 hi].toArray) w := by kernel_rfl
set_option maxHeartbeats 2000000 in
theorem tbounds_gen {Ψ : ByteArray → Nat → Nat → Bool → Prop} {base : Nat} {f2 : FuncId} {fn2 : Func} {k : ByteArray} (hm : ∀ w, (method (Tryz.prog.types.size + Made.depth) ty (.pointer (some ⟨b, 0, .none⟩)) "Get").run Tryz.prog w = .ok (f, .pointer (some ⟨b, 0, .none⟩)) w) (hf : Tryz.prog.funcs[f]? = some fn) (hb : (fn.body.isNone, fn.name == "runtime.NumGoroutine") = (false, false))
    (hm2 : ∀ w, (method (Tryz.prog.types.size + Made.depth) ty (.pointer (some ⟨b, 0, .none⟩)) "Untracked").run Tryz.prog w = .ok (f2, .pointer (some ⟨b, 0, .none⟩)) w) (hf2 : Tryz.prog.funcs[f2]? = some fn2) (hb2 : (fn2.body.isNone, fn2.name == "runtime.NumGoroutine") = (false, false))
    (hc : ∀ w, Holds w r'.foot [r'] w → Spec Tryz.prog f [.pointer (some ⟨b, 0, .none⟩), .string k] w r'.foot fun v H => ∃ k' o' s' is, v = .tuple [enV k' o' s', .bool is].toArray ∧ H = [r'] ∧ Ψ k' o' s' is)
    (hc2 : ∀ w, Holds w r'.foot [r'] w → Spec Tryz.prog f2 [.pointer (some ⟨b, 0, .none⟩)] w r'.foot fun v H => v = .int .u64 (base : Int) ∧ H = [r'])
    (hlt : ∀ k' o' s' is, Ψ k' o' s' is → o' + s' < 18446744073709551616) (hs : Holds w (bun [thd t ty b, r']).foot [bun [thd t ty b, r']] w) :
    Spec Tryz.prog 12 [.pointer (some ⟨t, 0, .none⟩), .string k] w (bun [thd t ty b, r']).foot fun v H => ∃ k' o' s' is, v = .tuple [bnV (if is then o' else 0) (if is then o' + s' else base), .bool is].toArray ∧ H = [bun [thd t ty b, r']] ∧ Ψ k' o' s' is := by
  refine enter (n := 42) Tryz.func12 rfl rfl [(0, _), (1, _)] rfl ⟨rfl, rfl, trivial⟩ hs ?_
  refine w_seq (w_reg (wl_e (e_allocs [.int .u64 0, .int .u64 0] (by kernel_rfl)) ?_))
  rintro _ _ w0_0 ⟨b0_0, rfl, rfl⟩
  refine wl_f (f_assign rfl) (wl_end [(0, _), (1, _), (4, _)] ⟨rfl, rfl, rfl, trivial⟩ ?_)
  refine w_seq (w_seq (w_reg (wl_f (f_move rfl) (wl_f (f_eqlnil rfl rfl Tryz.underlying24) ?_))))
  refine wl_end [(0, _), (1, _), (4, _), (11, _)] ⟨rfl, rfl, rfl, rfl, trivial⟩ ?_
  refine w_iff rfl ?_
  refine w_skip ?_
  refine w_seq (w_pick [1, 0] rfl ?_)
  refine w_unb [thd t ty b, r'] ?_
  refine w_reg (wl_f (f_move rfl) (wl_f (f_nilCheck rfl) (wl_f (f_fieldAddr 0 rfl Tryz.underlying75 rfl rfl (by kernel_rfl)) ?_)))
  refine wl_f (f_loadb 0 rfl Tryz.underlying67 rfl rfl rfl) ?_
  refine wl_f (f_move rfl) (wl_e (e_calli1 r' [_, _] rfl hm rfl hf hb (pk1 1 rfl) (fun w hh hs' => hc w hs')) ?_)
  rintro _ _ w1 ⟨_, rfl, k', o', s', is, rfl, rfl, hv⟩
  have hos := hlt k' o' s' is hv
  refine wl_f (f_move rfl) (wl_f (f_extract rfl rfl) ?_)
  refine wl_f (f_extract rfl rfl) ?_
  refine wl_e (e_allocs [.string ByteArray.empty, .int .u64 0, .int .u64 0] (by kernel_rfl)) ?_
  rintro _ _ w3_9 ⟨b3_9, rfl, rfl⟩
  refine wl_e0 (e_store0 (us := [_, _, _]) rfl rfl rfl (by kernel_rfl) (by simp [Value.oneCell']) rfl rfl) ?_
  rintro _ _ w3_10 rfl
  refine wl_f (f_assign rfl) (wl_end [(0, _), (4, _), (6, _), (7, _)] ⟨rfl, rfl, rfl, rfl, trivial⟩ ?_)
  refine w_seq (w_seq (w_reg (wl_f (f_move rfl) (wl_f (f_not rfl rfl) ?_))))
  refine wl_end [(0, _), (4, _), (6, _), (23, _)] ⟨rfl, rfl, rfl, rfl, trivial⟩ ?_
  refine w_ifb rfl (fun hc2' => ?_) (fun hc2' => ?_)
  · skip
    have his : is = false := by simpa using hc2'
    subst his
    refine w_seq (w_reg (wl_f (f_move rfl) (wl_f (f_nilCheck rfl) (wl_f (f_fieldAddr 0 rfl Tryz.underlying75 rfl rfl (by kernel_rfl)) ?_))))
    refine wl_f (f_loadb 2 rfl Tryz.underlying67 rfl rfl rfl) ?_
    refine wl_e (e_calli1 r' [_, _, _] rfl hm2 rfl hf2 hb2 (pk1 1 rfl) (fun w hh hs' => hc2 w hs')) ?_
    rintro _ _ w2 ⟨_, rfl, rfl, rfl⟩
    refine wl_f (f_build rfl (fun w => build_bounds1 _ w)) ?_
    refine wl_e0 (e_store3 (us := [_, _]) rfl rfl rfl (by kernel_rfl) (by simp [Value.oneCell']) rfl rfl) ?_
    rintro _ _ w5_6 rfl
    refine wl_f (f_assign rfl) (wl_end [(4, _), (5, _)] ⟨rfl, rfl, trivial⟩ ?_)
    refine w_pick [2, 0, 1] rfl ?_
    refine w_bun (H := [_]) [thd t ty b, r'] ?_
    refine w_pick [1, 0] rfl ?_
    refine w_ret ?_
    refine ⟨_, _, fun a ha hh => results_mix Tryz.results12 (rm_cell (cell_agg 0 rfl Tryz.underlying36 rfl (by kernel_rfl) rfl) (rm_tmp rfl rm_nil)) a ha _ hh, List.sublist_cons_self .., ?_⟩
    exact ⟨k', o', s', false, rfl, rfl, hv⟩
  · skip
    have his : is = true := by simpa using hc2'
    subst his
    refine w_skip ?_
    refine w_seq (w_reg (wl_f (f_fieldAddr 1 rfl Tryz.underlying46 rfl rfl (by kernel_rfl)) ?_))
    refine wl_f (f_loadb 0 rfl Tryz.underlying33 rfl rfl rfl) ?_
    refine wl_f (f_fieldAddr 2 rfl Tryz.underlying46 rfl rfl (by kernel_rfl)) ?_
    refine wl_f (f_loadb 0 rfl Tryz.underlying33 rfl rfl rfl) ?_
    refine wl_e (e_call0 rfl Tryz.func36 (by kernel_rfl) (fun w hh => satadd_spec o' s' w (by omega) (by omega))) ?_
    rintro _ _ w2 ⟨_, rfl, rfl, rfl⟩
    rw [if_pos hos]
    refine wl_f (f_move rfl) (wl_f (f_extract rfl rfl) ?_)
    refine wl_f (f_extract rfl rfl) ?_
    refine wl_f (f_assign rfl) (wl_f (f_assign rfl) (wl_end [(4, _), (6, _), (8, _)] ⟨rfl, rfl, rfl, trivial⟩ ?_))
    refine w_seq (w_reg (wl_f (f_fieldAddr 1 rfl Tryz.underlying46 rfl rfl (by kernel_rfl)) ?_))
    refine wl_f (f_loadb 0 rfl Tryz.underlying33 rfl rfl rfl) ?_
    refine wl_f (f_move rfl) (wl_f (f_build rfl (fun w => build_bounds2 _ _ w)) ?_)
    refine wl_e0 (e_store3 (us := [_, _]) rfl rfl rfl (by kernel_rfl) (by simp [Value.oneCell']) rfl rfl) ?_
    rintro _ _ w7_4 rfl
    refine wl_f (f_assign rfl) (wl_end [(4, _), (5, _)] ⟨rfl, rfl, trivial⟩ ?_)
    refine w_pick [2, 1, 1] rfl ?_
    refine w_bun (H := [_]) [thd t ty b, r'] ?_
    refine w_pick [1, 0] rfl ?_
    refine w_ret ?_
    refine ⟨_, _, fun a ha hh => results_mix Tryz.results12 (rm_cell (cell_agg 0 rfl Tryz.underlying36 rfl (by kernel_rfl) rfl) (rm_tmp rfl rm_nil)) a ha _ hh, List.sublist_cons_self .., ?_⟩
    exact ⟨k', o', s', true, rfl, rfl, hv⟩
end
end Go.Proofs.YtmagdjlcckgkpaaGreat

/- Tables of tracked keys, plain: what counts and slacks keep. -/
namespace Go.Proofs.YtmagdjlcckgkpaaGreat
open Go.RowKit

def efr : Option En → Nat
  | none => 1
  | some _ => 0
def fr (E : List (Option En)) : Nat := (E.map efr).sum
theorem fr_set {E : List (Option En)} {n : Nat} {o : Option En} (x : Option En) (h : E[n]? = some o) : fr (E.set n x) + efr o = fr E + efr x := by
  obtain ⟨A, B, rfl, rfl⟩ := split_at h
  rw [set_split]
  simp only [fr, List.map_append, List.map_cons, List.sum_append, List.sum_cons]
  omega
theorem fr_cnt (E : List (Option En)) : fr E + (E.filterMap id).length = E.length := by
  induction E with
  | nil => rfl
  | cons o E ih =>
    cases o with
    | none => simp only [fr, efr, List.map_cons, List.sum_cons, List.filterMap_cons, id, List.length_cons] at ih ⊢; omega
    | some x => simp only [fr, efr, List.map_cons, List.sum_cons, List.filterMap_cons, id, List.length_cons] at ih ⊢; omega
theorem fr_new (m : Nat) : fr (List.replicate m none) = m := by
  induction m with
  | zero => rfl
  | succ m ih => rw [List.replicate_succ, fr, List.map_cons, List.sum_cons]; rw [fr] at ih; rw [ih]; exact Nat.add_comm _ _
theorem fr_full {E : List (Option En)} (h : ∀ i < E.length, ∃ x, E[i]? = some (some x)) : fr E = 0 := by
  have h1 : ∀ o ∈ E, efr o = 0 := fun o ho => by
    obtain ⟨i, hi⟩ := List.mem_iff_getElem?.1 ho
    obtain ⟨x, hx⟩ := h i (List.getElem?_eq_some_iff.1 hi).1
    rw [hi] at hx
    injection hx with hx
    rw [hx]; rfl
  clear h
  induction E with
  | nil => rfl
  | cons o E ih =>
    rw [fr, List.map_cons, List.sum_cons, h1 o (List.mem_cons_self ..), Nat.zero_add]
    exact ih fun o ho => h1 o (List.mem_cons_of_mem _ ho)
theorem esum_fr {E : List (Option En)} {b : Nat} (h : ∀ x, some x ∈ E → b ≤ x.2.1 + x.2.2) : E.length * b ≤ esum E + fr E * b := by
  induction E with
  | nil => simp
  | cons o E ih =>
    have h2 := ih fun x hx => h x (List.mem_cons_of_mem _ hx)
    cases o with
    | none =>
      simp only [esum, fr, efr, ecnt, List.map_cons, List.sum_cons, List.length_cons] at h2 ⊢
      rw [Nat.succ_mul, Nat.add_mul]
      omega
    | some x =>
      have h1 := h x (List.mem_cons_self ..)
      simp only [esum, fr, efr, ecnt, List.map_cons, List.sum_cons, List.length_cons] at h2 ⊢
      rw [Nat.succ_mul, Nat.zero_add]
      omega
structure BInv (E : List (Option En)) (base total : Nat) : Prop where
  sum : esum E + fr E * base ≤ total
  ge : ∀ k i o s, Has E k i o s → base ≤ o + s
theorem BInv.new (m : Nat) : BInv (List.replicate m none) 0 0 := ⟨by rw [esum0]; simp, fun k i o s h => absurd h has0⟩
theorem BInv.mbase {E : List (Option En)} {base total : Nat} (h : BInv E base total) : E.length * base ≤ total :=
  Nat.le_trans (esum_fr fun x hx => by
    obtain ⟨i, hi⟩ := List.mem_iff_getElem?.1 hx
    exact h.ge x.1 i x.2.1 x.2.2 hi) h.sum
theorem BInv.set {E : List (Option En)} {base total n : Nat} {k : ByteArray} {o s o' s' : Nat} {x : ByteArray} (h : BInv E base total) (hi : Has E k n o s) (h1 : base ≤ o' + s') {total' : Nat} (h2 : o' + s' + total ≤ o + s + total') : BInv (E.set n (some (x, o', s'))) base total' := by
  have a := esum_set (some (x, o', s')) hi
  have b := fr_set (some (x, o', s')) hi
  simp only [ecnt, efr] at a b
  have e : fr (E.set n (some (x, o', s'))) = fr E := by omega
  refine ⟨?_, fun q j o2 s2 hj => ?_⟩
  · rw [e]; have := h.sum; omega
  · rcases has_set hi hj with ⟨_, e2⟩ | ⟨_, hj⟩
    · injection e2 with _ e2; injection e2 with e2 e3; omega
    · exact h.ge q j o2 s2 hj
theorem BInv.drop {E : List (Option En)} {base total n : Nat} {k : ByteArray} {o s : Nat} (h : BInv E base total) (hi : Has E k n o s) : BInv (E.set n none) base total := by
  have a := esum_set none hi
  have b := fr_set none hi
  simp only [ecnt, efr] at a b
  have hl : n < E.length := (List.getElem?_eq_some_iff.1 hi).1
  have hb := h.ge k n o s hi
  have e : fr (E.set n none) = fr E + 1 := by omega
  refine ⟨?_, fun q j o2 s2 hj => ?_⟩
  · rw [e, Nat.succ_mul]; have := h.sum; omega
  · have hne : n ≠ j := fun e => by
      subst e
      have hj' : (E.set n none)[n]? = some (some (q, o2, s2)) := hj
      rw [List.getElem?_set_self hl] at hj'; cases hj'
    have hj' : (E.set n none)[j]? = some (some (q, o2, s2)) := hj
    rw [List.getElem?_set_ne hne] at hj'
    exact h.ge q j o2 s2 hj'
theorem BInv.add {m : Nat} {E E' : List (Option En)} {base base' total total' w : Nat} {k : ByteArray} {e : Int} (h : BInv E base total) (hm : E.length = m) (hA : AddG m E base total k w e E' base' total') : BInv E' base' total' := by
  rcases hA with ⟨_, rfl, rfl, rfl, _⟩ | ⟨_, _, _, _, rfl, ⟨i, o, s, hi, rfl, rfl⟩ | ⟨hno, n, E1, ⟨hnm, hn, hc⟩, rfl⟩⟩
  · exact h
  · have := h.ge k i o s hi
    exact h.set hi (by omega) (by omega)
  · have a := esum_set (some (k, w, base')) hn
    have b := fr_set (some (k, w, base')) hn
    simp only [ecnt, efr] at a b
    rcases hc with ⟨rfl, rfl, _⟩ | ⟨hall, k0, o0, s0, hi0, rfl, rfl, hle⟩
    · refine ⟨?_, fun q j o2 s2 hj => ?_⟩
      · have h1 := h.sum
        rw [show fr E1 = fr (E1.set n (some (k, w, base'))) + 1 by omega, Nat.succ_mul] at h1
        omega
      · rcases has_set hn hj with ⟨_, e2⟩ | ⟨_, hj⟩
        · injection e2 with _ e2; injection e2 with e2 e3; omega
        · exact h.ge q j o2 s2 hj
    · have h0 := fr_full (E := E) fun i hi => hall i (by omega)
      have a0 := esum_set none hi0
      have b0 := fr_set none hi0
      simp only [ecnt, efr] at a0 b0
      refine ⟨?_, fun q j o2 s2 hj => ?_⟩
      · rw [show fr ((E.set n none).set n (some (k, w, o0 + s0))) = 0 by omega]
        have h1 := h.sum
        omega
      · rcases has_set hn hj with ⟨_, e2⟩ | ⟨hne, hj⟩
        · injection e2 with _ e2; injection e2 with e2 e3; omega
        · have hj' : (E.set n none)[j]? = some (some (q, o2, s2)) := hj
          rw [List.getElem?_set_ne (fun e => hne e.symm)] at hj'
          exact hle j q o2 s2 hj'
theorem BInv.tok {E : List (Option En)} {base total : Nat} (h : BInv E base total) (hl : 1 ≤ E.length) (ht : total ≤ 9223372036854775808) : TOk E base total := by
  refine ⟨ht, ?_, fun i k o s hi => ?_⟩
  · have h1 := h.mbase
    have h2 : 1 * base ≤ E.length * base := Nat.mul_le_mul_right _ hl
    omega
  · have a := esum_set none hi
    simp only [ecnt] at a
    have := h.sum
    omega
theorem BInv.swap {E E' : List (Option En)} {base total : Nat} {k x : ByteArray} {xo xs : Nat} {v : Value} (h : BInv E base total) (hS : SwapG E base k x xo xs v E') : BInv E' base total ∧ E'.length = E.length := by
  rcases hS with ⟨_, _, rfl, _⟩ | ⟨i, o, s, hi, _, _, hle, _, rfl⟩
  · exact ⟨h, rfl⟩
  · have := h.ge k i o s hi
    exact ⟨h.set hi (by omega) (by omega), List.length_set⟩
theorem AddG.le {m : Nat} {E E' : List (Option En)} {base base' total total' w : Nat} {k : ByteArray} {e : Int} (hA : AddG m E base total k w e E' base' total') (ht : TOk E base total) : total' ≤ 9223372036854775808 := (hA.tok ht).1

/-- No slack is more than the bound of what is not tracked. -/
def SlI (E : List (Option En)) (base : Nat) : Prop := ∀ k i o s, Has E k i o s → s ≤ base
theorem SlI.new (m : Nat) : SlI (List.replicate m none) 0 := fun k i o s h => absurd h has0
theorem SlI.drop {E : List (Option En)} {base n : Nat} (h : SlI E base) : SlI (E.set n none) base := fun k i o s hi => by
  unfold Has at hi
  rw [List.getElem?_set] at hi
  split at hi
  · split at hi <;> cases hi
  · exact h k i o s hi
theorem SlI.set {E : List (Option En)} {base n : Nat} {x : ByteArray} {xo xs : Nat} (h : SlI E base) (hx : xs ≤ base) : SlI (E.set n (some (x, xo, xs))) base := fun k i o s hi => by
  unfold Has at hi
  rw [List.getElem?_set] at hi
  split at hi
  · split at hi
    · injection hi with hi
      injection hi with hi
      injection hi with _ hi
      injection hi with _ hi
      omega
    · cases hi
  · exact h k i o s hi
theorem SlI.mono {E : List (Option En)} {b b' : Nat} (h : SlI E b) (hb : b ≤ b') : SlI E b' := fun k i o s hi => Nat.le_trans (h k i o s hi) hb
theorem SlI.free {m n : Nat} {E E' : List (Option En)} {base base' total : Nat} (h : SlI E base) (hB : BInv E base total) (hf : FreeG m E base n E' base') : SlI E' base' ∧ base ≤ base' := by
  rcases hf with ⟨_, _, ⟨rfl, rfl, _⟩ | ⟨_, k, o, s, hn, rfl, rfl, _⟩⟩
  · exact ⟨h, Nat.le_refl _⟩
  · have hb := hB.ge k n o s hn
    exact ⟨h.drop.mono hb, hb⟩
theorem SlI.add {m : Nat} {E E' : List (Option En)} {base base' total total' w : Nat} {k : ByteArray} {e : Int} (h : SlI E base) (hB : BInv E base total) (hA : AddG m E base total k w e E' base' total') : SlI E' base' := by
  rcases hA with ⟨_, rfl, rfl, _⟩ | ⟨_, _, _, _, _, ⟨i, o, s, hi, rfl, rfl⟩ | ⟨_, n, E1, hf, rfl⟩⟩
  · exact h
  · exact h.set (h k i o s hi)
  · exact (h.free hB hf).1.set (Nat.le_refl _)
theorem SlI.swap {E E' : List (Option En)} {base : Nat} {k x : ByteArray} {xo xs : Nat} {v : Value} (h : SlI E base) (hx : xs ≤ base) (hS : SwapG E base k x xo xs v E') : SlI E' base := by
  rcases hS with ⟨_, _, rfl, _⟩ | ⟨i, o, s, hi, _, _, _, _, rfl⟩
  · exact h
  · exact h.set (by omega)
end Go.Proofs.YtmagdjlcckgkpaaGreat

/- Misra and Gries, plain: what additions keep. -/
namespace Go.Proofs.YtmagdjlcckgkpaaGreat
open Go.RowKit

def osum (M : UM) : Nat := (M.map Prod.snd).sum
theorem mget_self {M : UM} {k : ByteArray} {v : Nat} : mget ((k, v) :: M) k = some v := by simp [mget]
theorem mget_mdel_self {M : UM} {k : ByteArray} : mget (mdel M k) k = none := mget_none (mdel_not M k)
theorem osum_del {M : UM} {k : ByteArray} {o : Nat} (hn : (keys M).Nodup) (h : mget M k = some o) : osum M = o + osum (mdel M k) := by
  induction M with
  | nil => simp [mget] at h
  | cons x M ih =>
    obtain ⟨a, v⟩ := x
    simp only [keys, List.map_cons, List.nodup_cons] at hn
    by_cases e : a = k
    · subst e
      rw [mget_self] at h
      injection h with h
      subst h
      rw [mdel_self, mdel_none hn.1]
      simp [osum]
    · rw [mget_cons_ne e] at h
      have e1 : mdel ((a, v) :: M) k = (a, v) :: mdel M k := by simp [mdel, e]
      have := ih hn.2 h
      rw [e1]
      simp only [osum, List.map_cons, List.sum_cons] at this ⊢
      omega
theorem osum_mem {M : UM} {k : ByteArray} {o : Nat} (hn : (keys M).Nodup) (h : mget M k = some o) : o ≤ osum M := by rw [osum_del hn h]; omega
theorem osum_keys {M : UM} (hn : (keys M).Nodup) : ((keys M).map fun k => (mget M k).getD 0).sum = osum M := by
  rw [keys, List.map_map, osum]
  congr 1
  refine List.map_congr_left fun x hx => ?_
  show (mget M x.1).getD 0 = x.2
  rw [mget_some hn (show (x.1, x.2) ∈ M from hx)]
  rfl
theorem over_nd {M : UM} {k : ByteArray} {v : Nat} (h : (keys M).Nodup) : (keys ((k, v) :: mdel M k)).Nodup := List.nodup_cons.2 ⟨mdel_not M k, mdel_nd h k⟩
theorem new_nd {M : UM} {k : ByteArray} {v : Nat} (h : (keys M).Nodup) (hk : mget M k = none) : (keys ((k, v) :: M)).Nodup := List.nodup_cons.2 ⟨keys_none hk, h⟩
theorem dstep_nd {d : Nat} {M : UM} {k : ByteArray} (h : (keys M).Nodup) : (keys (dstep d M k)).Nodup := by
  unfold dstep
  split
  · exact mdel_nd h k
  · exact over_nd h
theorem dfold_nd {d : Nat} : ∀ (ks : List ByteArray) {M : UM}, (keys M).Nodup → (keys (ks.foldl (dstep d) M)).Nodup
  | [], _, h => h
  | k :: ks, _, h => dfold_nd ks (dstep_nd h)
theorem dstep_get {d : Nat} {M : UM} {k : ByteArray} : mget (dstep d M k) k = if (mget M k).getD 0 = d then none else some ((mget M k).getD 0 - d) := by
  unfold dstep
  split
  · exact mget_mdel_self
  · exact mget_self
theorem dfold_get {d : Nat} {q : ByteArray} : ∀ (ks : List ByteArray) (M : UM), ks.Nodup → q ∈ ks → mget (ks.foldl (dstep d) M) q = if (mget M q).getD 0 = d then none else some ((mget M q).getD 0 - d)
  | k :: ks, M, hn, hq => by
    rw [List.nodup_cons] at hn
    rw [List.foldl_cons]
    by_cases e : q = k
    · subst e
      rw [dfold_ne ks _ hn.1, dstep_get]
    · rw [dfold_get ks _ hn.2 ((List.mem_cons.1 hq).resolve_left e), dstep_ne (fun e' => e e'.symm)]
theorem dstep_sum {d o : Nat} {M : UM} {k : ByteArray} (hn : (keys M).Nodup) (h : mget M k = some o) (hd : d ≤ o) : osum (dstep d M k) + d = osum M := by
  rw [osum_del hn h]
  unfold dstep
  rw [h, Option.getD_some]
  split
  · omega
  · simp only [osum, List.map_cons, List.sum_cons]; omega
theorem dfold_sum {d : Nat} : ∀ (ks : List ByteArray) (M : UM), ks.Nodup → (keys M).Nodup → (∀ k ∈ ks, ∃ o, mget M k = some o ∧ d ≤ o) → osum (ks.foldl (dstep d) M) + ks.length * d = osum M
  | [], M, _, _, _ => by simp
  | k :: ks, M, hn, hM, hk => by
    rw [List.nodup_cons] at hn
    obtain ⟨o, ho, hd⟩ := hk k (List.mem_cons_self ..)
    have h1 := dstep_sum hM ho hd
    have h2 := dfold_sum ks (dstep d M k) hn.2 (dstep_nd hM) (fun q hq => by
      obtain ⟨o', ho', hd'⟩ := hk q (List.mem_cons_of_mem _ hq)
      exact ⟨o', by rw [dstep_ne (fun e => hn.1 (by rw [e]; exact hq))]; exact ho', hd'⟩)
    rw [List.foldl_cons, List.length_cons, Nat.succ_mul]
    omega

section
variable {m : Nat} {M M' : UM} {ded ded' total total' v : Nat} {k : ByteArray} {e : Int}
theorem FAddG.sum (h : FAddG m M ded total k v e M' ded' total') (hn : (keys M).Nodup) (he : e = 0) : total' = total + v ∧ osum M' + (m + 1) * ded' = osum M + (m + 1) * ded + v ∧ (keys M').Nodup := by
  rcases h with ⟨he', _⟩ | ⟨_, _, _, _, rfl, ⟨o, ho, rfl, rfl⟩ | ⟨hno, _, rfl, rfl⟩ | ⟨hno, hl, ks, hp, hs, rfl, rfl⟩⟩
  · exact absurd he he'
  · refine ⟨rfl, ?_, over_nd hn⟩
    have := osum_del hn ho
    simp only [osum, List.map_cons, List.sum_cons] at this ⊢
    omega
  · refine ⟨rfl, ?_, new_nd hn hno⟩
    simp only [osum, List.map_cons, List.sum_cons]
    omega
  · have hkn : ks.Nodup := hp.nodup_iff.2 hn
    have hall : ∀ q ∈ ks, ∃ o, mget M q = some o ∧ dmin v M ks ≤ o := fun q hq => by
      obtain ⟨o, ho⟩ := isSome_in (hp.mem_iff.1 hq)
      have := dmin_mem M ks v q hq
      rw [ho, Option.getD_some] at this
      exact ⟨o, ho, this⟩
    have h1 := dfold_sum ks M hkn hn hall
    have hkl : ks.length = m := by rw [hp.length_eq, keys, List.length_map]; exact hl
    rw [hkl] at h1
    have hdl := dmin_le M ks v
    have hno' : mget (ks.foldl (dstep (dmin v M ks)) M) k = none := (dfold_ne ks M (fun h => keys_none hno (hp.mem_iff.1 h))).trans hno
    have hnd' := dfold_nd (d := dmin v M ks) ks hn
    generalize ks.foldl (dstep (dmin v M ks)) M = F at h1 hno' hnd' ⊢
    generalize dmin v M ks = d at h1 hdl hno' ⊢
    have hm : (m + 1) * (ded + d) = (m + 1) * ded + m * d + d := by rw [Nat.mul_add, Nat.succ_mul m d]; omega
    refine ⟨rfl, ?_, ?_⟩
    · rw [hm]
      split
      · simp only [osum, List.map_cons, List.sum_cons] at h1 ⊢
        omega
      · omega
    · split
      · exact new_nd hnd' hno'
      · exact hnd'
theorem FAddG.same (h : FAddG m M ded total k v e M' ded' total') (he : e ≠ 0) : M' = M ∧ ded' = ded ∧ total' = total := by
  rcases h with ⟨_, h1, h2, h3, _⟩ | ⟨he', _⟩
  · exact ⟨h1, h2, h3⟩
  · exact absurd he' he
theorem FAddG.top (h : FAddG m M ded total k v e M' ded' total') (he : e = 0) : total' ≤ 9223372036854775808 := by
  rcases h with ⟨he', _⟩ | ⟨_, _, _, h, rfl, _⟩
  · exact absurd he he'
  · exact h
theorem FAddG.ok (h : FAddG m M ded total k v e M' ded' total') (hk : k ≠ ByteArray.empty) (hv : v ≠ 0) (ht : total + v ≤ 9223372036854775808) : e = 0 := by
  rcases h with ⟨_, _, _, _, ⟨h, _⟩ | ⟨_, h, _⟩ | ⟨_, _, h, _⟩⟩ | ⟨h, _⟩
  · exact absurd h hk
  · exact absurd h hv
  · omega
  · exact h
/-- Sums are within bounds, and nothing counted is 0. -/
structure FInv (m : Nat) (M : UM) (ded total : Nat) : Prop where
  nd : (keys M).Nodup
  sum : osum M + (m + 1) * ded ≤ total
  top : total ≤ 9223372036854775808
  pos : ∀ k o, mget M k = some o → o ≠ 0
theorem FInv.new (m : Nat) : FInv m [] 0 0 := ⟨List.nodup_nil, by simp [osum], by omega, fun k o h => by simp [mget] at h⟩
theorem FInv.ded_le (h : FInv m M ded total) : ded ≤ total := by
  have := h.sum
  rw [Nat.succ_mul] at this
  omega
theorem FInv.ok (h : FInv m M ded total) : FOk M ded total := ⟨h.top, h.ded_le, fun k o ho => by have := osum_mem h.nd ho; have := h.sum; omega⟩
theorem FAddG.pos (h : FAddG m M ded total k v e M' ded' total') (hn : (keys M).Nodup) (hp : ∀ k o, mget M k = some o → o ≠ 0) : ∀ k o, mget M' k = some o → o ≠ 0 := by
  rcases h with ⟨_, rfl, _⟩ | ⟨_, _, hv, _, _, ⟨o, ho, rfl, _⟩ | ⟨hno, _, rfl, _⟩ | ⟨hno, hl, ks, hpm, hs, _, rfl⟩⟩
  · exact hp
  · intro q o' ho'
    by_cases e : k = q
    · subst e; rw [mget_self] at ho'; injection ho' with ho'; omega
    · rw [mget_cons_ne e, mget_mdel_ne e] at ho'; exact hp q o' ho'
  · intro q o' ho'
    by_cases e : k = q
    · subst e; rw [mget_self] at ho'; injection ho' with ho'; omega
    · rw [mget_cons_ne e] at ho'; exact hp q o' ho'
  · have hkn : ks.Nodup := hpm.nodup_iff.2 hn
    have hF : ∀ q o, mget (ks.foldl (dstep (dmin v M ks)) M) q = some o → o ≠ 0 := fun q o hq => by
      by_cases hqk : q ∈ ks
      · rw [dfold_get ks M hkn hqk] at hq
        have := dmin_mem M ks v q hqk
        split at hq
        · cases hq
        · injection hq with hq; omega
      · rw [dfold_ne ks M hqk] at hq; exact hp q o hq
    split
    · intro q o' ho'
      by_cases e : k = q
      · subst e; rw [mget_self] at ho'; injection ho' with ho'; omega
      · rw [mget_cons_ne e] at ho'; exact hF q o' ho'
    · exact hF
theorem FInv.add (h : FInv m M ded total) (hA : FAddG m M ded total k v e M' ded' total') : FInv m M' ded' total' := by
  by_cases he : e = 0
  · obtain ⟨h1, h2, h3⟩ := hA.sum h.nd he
    exact ⟨h3, by have := h.sum; omega, hA.top he, hA.pos h.nd h.pos⟩
  · obtain ⟨rfl, rfl, rfl⟩ := hA.same he
    exact h
theorem FInv.del (h : FInv m M ded total) : FInv m (mdel M k) ded total := by
  refine ⟨mdel_nd h.nd k, ?_, h.top, fun q o hq => ?_⟩
  · have h1 := h.sum
    cases hg : mget M k with
    | none => rw [mdel_none (keys_none hg)]; exact h1
    | some o => rw [osum_del h.nd hg] at h1; omega
  · by_cases e : k = q
    · subst e; rw [mget_mdel_self] at hq; cases hq
    · rw [mget_mdel_ne e] at hq; exact h.pos q o hq
theorem FInv.swap {x : ByteArray} {xo xs : Nat} {u : Value} (h : FInv m M ded total) (hS : FSwapG M ded k x xo xs u M') : FInv m M' ded total := by
  rcases hS with ⟨_, _, rfl, _⟩ | ⟨o, ho, hx, hno, hc, _, rfl⟩
  · exact h
  · have hd := h.del (k := k)
    have hno' : mget (mdel M k) x = none := by
      by_cases e : k = x
      · subst e; exact mget_mdel_self
      · rw [mget_mdel_ne e]; exact hno
    refine ⟨new_nd hd.nd hno', ?_, h.top, fun q o' hq => ?_⟩
    · have h1 := h.sum
      rw [osum_del h.nd ho] at h1
      simp only [osum, List.map_cons, List.sum_cons] at h1 ⊢
      omega
    · by_cases e : x = q
      · subst e; rw [mget_self] at hq; injection hq with hq; omega
      · rw [mget_cons_ne e] at hq; exact hd.pos q o' hq
/-- Only additions: the weight of each key is within its bounds. -/
structure FH (m : Nat) (M : UM) (ded total : Nat) (f : ByteArray → Nat) : Prop where
  inv : FInv m M ded total
  eq : osum M + (m + 1) * ded = total
  yes : ∀ k o, mget M k = some o → o ≤ f k ∧ f k ≤ o + ded
  no : ∀ k, mget M k = none → f k ≤ ded
theorem FH.new (m : Nat) : FH m [] 0 0 (fun _ => 0) := ⟨FInv.new m, by simp [osum], fun k o h => by simp [mget] at h, fun _ _ => Nat.le_refl _⟩
theorem FH.add {f : ByteArray → Nat} (h : FH m M ded total f) (hA : FAddG m M ded total k v e M' ded' total') :
    (e ≠ 0 ∧ M' = M ∧ ded' = ded ∧ total' = total) ∨ (e = 0 ∧ total' = total + v ∧ FH m M' ded' total' (fadd f k v)) := by
  by_cases he : e = 0
  · have hI := h.inv.add hA
    obtain ⟨h1, h2, h3⟩ := hA.sum h.inv.nd he
    have key : ((∀ q o, mget M' q = some o → o ≤ fadd f k v q ∧ fadd f k v q ≤ o + ded') ∧ (∀ q, mget M' q = none → fadd f k v q ≤ ded')) → FH m M' ded' total' (fadd f k v) := fun hy => ⟨hI, by have := h.eq; omega, hy.1, hy.2⟩
    refine .inr ⟨he, h1, key ?_⟩
    clear key
    rcases hA with ⟨he', _⟩ | ⟨_, _, _, _, rfl, ⟨o, ho, rfl, rfl⟩ | ⟨hno, _, rfl, rfl⟩ | ⟨hno, hl, ks, hp, hs, rfl, rfl⟩⟩
    · exact absurd he he'
    · refine ⟨fun q o' hq => ?_, fun q hq => ?_⟩
      · by_cases e : k = q
        · subst e
          rw [mget_self] at hq
          injection hq with hq
          have := h.yes k o ho
          rw [fadd_self]; omega
        · rw [mget_cons_ne e, mget_mdel_ne e] at hq
          rw [fadd_ne (fun e' => e e'.symm)]
          exact h.yes q o' hq
      · by_cases e : k = q
        · subst e; rw [mget_self] at hq; cases hq
        · rw [mget_cons_ne e, mget_mdel_ne e] at hq
          rw [fadd_ne (fun e' => e e'.symm)]
          exact h.no q hq
    · refine ⟨fun q o' hq => ?_, fun q hq => ?_⟩
      · by_cases e : k = q
        · subst e
          rw [mget_self] at hq
          injection hq with hq
          have := h.no k hno
          rw [fadd_self]; omega
        · rw [mget_cons_ne e] at hq
          rw [fadd_ne (fun e' => e e'.symm)]
          exact h.yes q o' hq
      · by_cases e : k = q
        · subst e; rw [mget_self] at hq; cases hq
        · rw [mget_cons_ne e] at hq
          rw [fadd_ne (fun e' => e e'.symm)]
          exact h.no q hq
    · have hkn : ks.Nodup := hp.nodup_iff.2 h.inv.nd
      have hdl := dmin_le M ks v
      have hkk : k ∉ ks := fun hk => keys_none hno (hp.mem_iff.1 hk)
      have hgk : mget (ks.foldl (dstep (dmin v M ks)) M) k = none := (dfold_ne ks M hkk).trans hno
      have hfk := h.no k hno
      have hF1 : ∀ q o', k ≠ q → mget (ks.foldl (dstep (dmin v M ks)) M) q = some o' → o' ≤ f q ∧ f q ≤ o' + (ded + dmin v M ks) := fun q o' hkq hq => by
        by_cases hqk : q ∈ ks
        · obtain ⟨o, ho⟩ := isSome_in (hp.mem_iff.1 hqk)
          rw [dfold_get ks M hkn hqk, ho, Option.getD_some] at hq
          have hd := dmin_mem M ks v q hqk
          rw [ho, Option.getD_some] at hd
          have := h.yes q o ho
          split at hq
          · cases hq
          · injection hq with hq; omega
        · rw [dfold_ne ks M hqk] at hq
          have := h.yes q o' hq
          omega
      have hF2 : ∀ q, k ≠ q → mget (ks.foldl (dstep (dmin v M ks)) M) q = none → f q ≤ ded + dmin v M ks := fun q hkq hq => by
        by_cases hqk : q ∈ ks
        · obtain ⟨o, ho⟩ := isSome_in (hp.mem_iff.1 hqk)
          rw [dfold_get ks M hkn hqk, ho, Option.getD_some] at hq
          have := h.yes q o ho
          split at hq
          · omega
          · cases hq
        · rw [dfold_ne ks M hqk] at hq
          have := h.no q hq
          omega
      generalize ks.foldl (dstep (dmin v M ks)) M = F at hgk hF1 hF2 ⊢
      generalize dmin v M ks = d at hdl hF1 hF2 ⊢
      split
      · refine ⟨fun q o' hq => ?_, fun q hq => ?_⟩
        · by_cases e : k = q
          · subst e
            rw [mget_self] at hq
            injection hq with hq
            rw [fadd_self]; omega
          · rw [mget_cons_ne e] at hq
            rw [fadd_ne (fun e' => e e'.symm)]
            exact hF1 q o' e hq
        · by_cases e : k = q
          · subst e; rw [mget_self] at hq; cases hq
          · rw [mget_cons_ne e] at hq
            rw [fadd_ne (fun e' => e e'.symm)]
            exact hF2 q e hq
      · refine ⟨fun q o' hq => ?_, fun q hq => ?_⟩
        · by_cases e : k = q
          · subst e; rw [hgk] at hq; cases hq
          · rw [fadd_ne (fun e' => e e'.symm)]
            exact hF1 q o' e hq
        · by_cases e : k = q
          · subst e
            rw [fadd_self]; omega
          · rw [fadd_ne (fun e' => e e'.symm)]
            exact hF2 q e hq
  · obtain ⟨h1, h2, h3⟩ := hA.same he
    exact .inl ⟨he, h1, h2, h3⟩
end
theorem fget_form2 (M : UM) (ded : Nat) (k : ByteArray) : ∃ (k' : ByteArray) (o s : Nat) (is : Bool), fget M ded k = .tuple [enV k' o s, .bool is].toArray ∧ (is = true → mget M k = some o ∧ s = ded ∧ k' = k) ∧ (is = false → mget M k = none ∧ o = 0 ∧ s = 0 ∧ k' = ByteArray.empty) := by
  unfold fget
  cases h : mget M k with
  | none => exact ⟨ByteArray.empty, 0, 0, false, rfl, (fun e => by cases e), (fun _ => ⟨rfl, rfl, rfl, rfl⟩)⟩
  | some o => exact ⟨k, o, ded, true, rfl, (fun _ => ⟨rfl, rfl, rfl⟩), (fun e => by cases e)⟩
def isum (l : List En) : Nat := (l.map fun x => x.2.1).sum
theorem isum_fent {M : UM} {ded : Nat} {ks : List ByteArray} (hn : (keys M).Nodup) (hp : ks.Perm (keys M)) : isum (ks.map (fent M ded)) = osum M := by
  rw [← osum_keys hn, isum, List.map_map]
  exact (hp.map _).sum_nat
theorem isum_take {l : List En} {i : Nat} {x : En} (h : l[i]? = some x) : isum (l.take (i + 1)) = isum (l.take i) + x.2.1 := by
  rw [take_snoc' h]; simp [isum]
theorem isum_take_le (l : List En) (i : Nat) : isum (l.take i) ≤ isum l := by
  conv => rhs; rw [← List.take_append_drop i l]
  simp only [isum, List.map_append, List.sum_append]
  omega
end Go.Proofs.YtmagdjlcckgkpaaGreat

/- Tables of either mode: what calls do. -/
namespace Go.Proofs.YtmagdjlcckgkpaaGreat
open Go.RowKit

/-- A table's state in either mode. -/
inductive TS
  | sv (E : List (Option En)) (l : Ord) (base total : Nat)
  | fr (M : UM) (ded total : Nat)
def TS.base : TS → Nat
  | .sv _ _ base _ => base
  | .fr _ ded _ => ded
def TS.total : TS → Nat
  | .sv _ _ _ total => total
  | .fr _ _ total => total
def TS.new (mode m : Nat) : TS := if mode = 1 then .sv (List.replicate m none) [] 0 0 else .fr [] 0 0
def TbS (t m : Nat) : TS → Res → Prop
  | .sv E l base total, r => ∃ b r', r = bun [thd t 68 b, r'] ∧ SvR b m E l base total r'
  | .fr M ded total, r => ∃ b r', r = bun [thd t 71 b, r'] ∧ FrR b m M ded total r'
/-- What holds of every table. -/
def TsI (m : Nat) : TS → Prop
  | .sv E _ base total => 1 ≤ m ∧ E.length = m ∧ BInv E base total ∧ SlI E base ∧ total ≤ 9223372036854775808
  | .fr M ded total => 1 ≤ m ∧ FInv m M ded total
/-- What holds of every table, whatever is exchanged. -/
def TsJ (m : Nat) : TS → Prop
  | .sv E _ base total => 1 ≤ m ∧ E.length = m ∧ BInv E base total ∧ total ≤ 9223372036854775808
  | .fr M ded total => 1 ≤ m ∧ FInv m M ded total
def AddS (m : Nat) (k : ByteArray) (v : Nat) (e : Int) : TS → TS → Prop
  | .sv E l base total, .sv E' l' base' total' => AddG m E base total k v e E' base' total' ∧ AddL m E l base k v e E' l' base'
  | .fr M ded total, .fr M' ded' total' => FAddG m M ded total k v e M' ded' total'
  | _, _ => False
def GetS (k k' : ByteArray) (o s : Nat) (is : Bool) : TS → Prop
  | .sv E _ _ _ => (is = true → ∃ i, Has E k i o s ∧ k' = k) ∧ (is = false → Hasnt E k ∧ o = 0 ∧ s = 0 ∧ k' = ByteArray.empty)
  | .fr M ded _ => (is = true → mget M k = some o ∧ s = ded ∧ k' = k) ∧ (is = false → mget M k = none ∧ o = 0 ∧ s = 0 ∧ k' = ByteArray.empty)
def TakeS (k : ByteArray) (v : Value) : TS → TS → Prop
  | .sv E l base total, .sv E' l' base' total' => base' = base ∧ total' = total ∧ ((∃ i o s, Has E k i o s ∧ E' = E.set i none ∧ l' = rem l i ∧ v = .tuple [enV k o s, .bool true].toArray) ∨ (Hasnt E k ∧ E' = E ∧ l' = l))
  | .fr M ded total, .fr M' ded' total' => ded' = ded ∧ total' = total ∧ M' = mdel M k
  | _, _ => False
def SwapS (k x : ByteArray) (xo xs : Nat) (v : Value) : TS → TS → Prop
  | .sv E l base total, .sv E' l' base' total' => base' = base ∧ total' = total ∧ SwapG E base k x xo xs v E' ∧ SwapL E l base k xo xs v l'
  | .fr M ded total, .fr M' ded' total' => ded' = ded ∧ total' = total ∧ FSwapG M ded k x xo xs v M'
  | _, _ => False
def EntS (es : List En) : TS → Prop
  | .sv E _ _ _ => es.Perm (E.filterMap id) ∧ Srts (es.map Prod.fst)
  | .fr M ded _ => ∃ ks : List ByteArray, ks.Perm (keys M) ∧ Srts ks ∧ es = ks.map (fent M ded)
def TS.len : TS → Nat
  | .sv E _ _ _ => (E.filterMap id).length
  | .fr M _ _ => M.length
section
variable {m : Nat} {S S' : TS} {k x : ByteArray} {v : Nat} {e : Int}
theorem TsI.new (mode m : Nat) (hm : 1 ≤ m) : TsI m (TS.new mode m) := by
  unfold TS.new
  split
  · exact ⟨hm, List.length_replicate, BInv.new m, SlI.new m, by omega⟩
  · exact ⟨hm, FInv.new m⟩
theorem FreeG.lenE {m n : Nat} {E E' : List (Option En)} {base base' : Nat} (h : FreeG m E base n E' base') : E'.length = E.length := by
  rcases h with ⟨_, _, ⟨rfl, _⟩ | ⟨_, _, _, _, _, rfl, _⟩⟩
  · rfl
  · exact List.length_set
theorem AddG.lenE {m : Nat} {E E' : List (Option En)} {base base' total total' w : Nat} {k : ByteArray} {e : Int} (h : AddG m E base total k w e E' base' total') : E'.length = E.length ∧ (total' ≤ 9223372036854775808 ∨ total' = total) := by
  rcases h with ⟨_, rfl, _, rfl, _⟩ | ⟨_, _, _, ht, rfl, ⟨i, o, s, _, rfl, _⟩ | ⟨_, n, E1, hf, rfl⟩⟩
  · exact ⟨rfl, .inr rfl⟩
  · exact ⟨List.length_set, .inl ht⟩
  · exact ⟨by rw [List.length_set]; exact hf.lenE, .inl ht⟩
theorem TsI.add (h : TsI m S) (hA : AddS m k v e S S') : TsI m S' := by
  cases S with
  | sv E l base total =>
    cases S' with
    | sv E' l' base' total' =>
      obtain ⟨h1, h2, h3, h4, h5⟩ := h
      obtain ⟨h6, h7⟩ := hA.1.lenE
      exact ⟨h1, by omega, h3.add h2 hA.1, h4.add h3 hA.1, by omega⟩
    | fr _ _ _ => cases hA
  | fr M ded total =>
    cases S' with
    | sv _ _ _ _ => cases hA
    | fr M' ded' total' => exact ⟨h.1, h.2.add hA⟩
theorem TsI.take {u : Value} (h : TsI m S) (hT : TakeS k u S S') : TsI m S' := by
  cases S with
  | sv E l base total =>
    cases S' with
    | sv E' l' base' total' =>
      obtain ⟨h1, h2, h3, h4, h5⟩ := h
      obtain ⟨rfl, rfl, ⟨i, o, s, hi, rfl, _⟩ | ⟨_, rfl, _⟩⟩ := hT
      · exact ⟨h1, by rw [List.length_set]; exact h2, h3.drop hi, h4.drop, h5⟩
      · exact ⟨h1, h2, h3, h4, h5⟩
    | fr _ _ _ => cases hT
  | fr M ded total =>
    cases S' with
    | sv _ _ _ _ => cases hT
    | fr M' ded' total' =>
      obtain ⟨rfl, rfl, rfl⟩ := hT
      exact ⟨h.1, h.2.del⟩
theorem TsI.swap {xo xs : Nat} {u : Value} (h : TsI m S) (hx : xs ≤ S.base) (hS : SwapS k x xo xs u S S') : TsI m S' := by
  cases S with
  | sv E l base total =>
    cases S' with
    | sv E' l' base' total' =>
      obtain ⟨h1, h2, h3, h4, h5⟩ := h
      obtain ⟨rfl, rfl, hG, _⟩ := hS
      obtain ⟨h6, h7⟩ := h3.swap hG
      exact ⟨h1, by omega, h6, h4.swap hx hG, h5⟩
    | fr _ _ _ => cases hS
  | fr M ded total =>
    cases S' with
    | sv _ _ _ _ => cases hS
    | fr M' ded' total' =>
      obtain ⟨rfl, rfl, hG⟩ := hS
      exact ⟨h.1, h.2.swap hG⟩
theorem TsI.j (h : TsI m S) : TsJ m S := by
  cases S with
  | sv E l base total => exact ⟨h.1, h.2.1, h.2.2.1, h.2.2.2.2⟩
  | fr M ded total => exact h
theorem TsJ.new (mode m : Nat) (hm : 1 ≤ m) : TsJ m (TS.new mode m) := (TsI.new mode m hm).j
theorem TsJ.add (h : TsJ m S) (hA : AddS m k v e S S') : TsJ m S' := by
  cases S with
  | sv E l base total =>
    cases S' with
    | sv E' l' base' total' =>
      obtain ⟨h1, h2, h3, h5⟩ := h
      obtain ⟨h6, h7⟩ := hA.1.lenE
      exact ⟨h1, by omega, h3.add h2 hA.1, by omega⟩
    | fr _ _ _ => cases hA
  | fr M ded total =>
    cases S' with
    | sv _ _ _ _ => cases hA
    | fr M' ded' total' => exact ⟨h.1, h.2.add hA⟩
theorem TsJ.take {u : Value} (h : TsJ m S) (hT : TakeS k u S S') : TsJ m S' := by
  cases S with
  | sv E l base total =>
    cases S' with
    | sv E' l' base' total' =>
      obtain ⟨h1, h2, h3, h5⟩ := h
      obtain ⟨rfl, rfl, ⟨i, o, s, hi, rfl, _⟩ | ⟨_, rfl, _⟩⟩ := hT
      · exact ⟨h1, by rw [List.length_set]; exact h2, h3.drop hi, h5⟩
      · exact ⟨h1, h2, h3, h5⟩
    | fr _ _ _ => cases hT
  | fr M ded total =>
    cases S' with
    | sv _ _ _ _ => cases hT
    | fr M' ded' total' =>
      obtain ⟨rfl, rfl, rfl⟩ := hT
      exact ⟨h.1, h.2.del⟩
theorem TsJ.swap {xo xs : Nat} {u : Value} (h : TsJ m S) (hS : SwapS k x xo xs u S S') : TsJ m S' := by
  cases S with
  | sv E l base total =>
    cases S' with
    | sv E' l' base' total' =>
      obtain ⟨h1, h2, h3, h5⟩ := h
      obtain ⟨rfl, rfl, hG, _⟩ := hS
      obtain ⟨h6, h7⟩ := h3.swap hG
      exact ⟨h1, by omega, h6, h5⟩
    | fr _ _ _ => cases hS
  | fr M ded total =>
    cases S' with
    | sv _ _ _ _ => cases hS
    | fr M' ded' total' =>
      obtain ⟨rfl, rfl, hG⟩ := hS
      exact ⟨h.1, h.2.swap hG⟩
theorem TsJ.fits {k' : ByteArray} {o s : Nat} {is : Bool} (h : TsJ m S) (hg : GetS k k' o s is S) : o + s < 18446744073709551616 := by
  cases S with
  | sv E l base total =>
    obtain ⟨h1, h2, h3, h5⟩ := h
    cases is with
    | true => obtain ⟨i, hi, _⟩ := hg.1 rfl; have := (h3.tok (by omega) h5).2.2 i k o s hi; omega
    | false => obtain ⟨_, rfl, rfl, _⟩ := hg.2 rfl; omega
  | fr M ded total =>
    obtain ⟨h1, h2⟩ := h
    cases is with
    | true => obtain ⟨hi, rfl, _⟩ := hg.1 rfl; have h3 := osum_mem h2.nd hi; have h4 := h2.sum; have h5 := h2.top; rw [Nat.succ_mul] at h4; omega
    | false => obtain ⟨_, rfl, rfl, _⟩ := hg.2 rfl; omega
theorem TsI.fits {k' : ByteArray} {o s : Nat} {is : Bool} (h : TsI m S) (hg : GetS k k' o s is S) : o + s < 18446744073709551616 := h.j.fits hg
theorem SwapG.form {E E' : List (Option En)} {base xo xs : Nat} {u : Value} (h : SwapG E base k x xo xs u E') : ∃ (k' : ByteArray) (o' s' : Nat) (e : Int), u = .tuple [enV k' o' s', .int .i64 e].toArray := by
  rcases h with ⟨e, rfl, _⟩ | ⟨i, o, s, _, _, _, _, rfl, _⟩
  · exact ⟨ByteArray.empty, 0, 0, e, rfl⟩
  · exact ⟨k, o, s, 0, rfl⟩
theorem FSwapG.form' {M M' : UM} {ded xo xs : Nat} {u : Value} (h : FSwapG M ded k x xo xs u M') : ∃ (k' : ByteArray) (o' s' : Nat) (e : Int), u = .tuple [enV k' o' s', .int .i64 e].toArray := by
  rcases h with ⟨e, rfl, _⟩ | ⟨o, _, _, _, _, rfl, _⟩
  · exact ⟨ByteArray.empty, 0, 0, e, rfl⟩
  · exact ⟨k, o, ded, 0, rfl⟩
end
section
variable {t m : Nat} {S : TS} {r : Res} {w : World}
theorem tadd_spec (k : ByteArray) (v : Nat) (hm12 : m ≤ 12) (hk : small k) (hv : v < 18446744073709551616) (hI : TsJ m S) (hr : TbS t m S r) (hs : Holds w r.foot [r] w) :
    Spec Tryz.prog 11 [.pointer (some ⟨t, 0, .none⟩), .string k, .int .u64 (v : Int)] w r.foot fun u H => ∃ e S' r', u = .int .i64 e ∧ H = [r'] ∧ TbS t m S' r' ∧ AddS m k v e S S' := by
  cases S with
  | sv E l base total =>
    obtain ⟨b, r', rfl, hr'⟩ := hr
    obtain ⟨h1, h2, h3, h5⟩ := hI
    refine (tadd_gen (f := 73) (fun w => by kernel_rfl) Tryz.func73 (by kernel_rfl) (fun w hh => svadd_spec b m E base total k v r' w hk hv (h3.tok (by omega) h5) hr' hh) hs).bunp ?_
    rintro u _ ⟨_, rfl, e, E', l', base', total', r1, hu, rfl, hr1, hA, hL⟩
    exact ⟨[thd t _ b, r1], [], List.Perm.swap .., e, .sv E' l' base' total', _, hu, rfl, ⟨b, r1, rfl, hr1⟩, hA, hL⟩
  | fr M ded total =>
    obtain ⟨b, r', rfl, hr'⟩ := hr
    refine (tadd_gen (f := 145) (fun w => by kernel_rfl) Tryz.func145 (by kernel_rfl) (fun w hh => fradd_spec b m M ded total k v r' w hm12 hk hv hI.2.ok hr' hh) hs).bunp ?_
    rintro u _ ⟨_, rfl, e, M', ded', total', r1, hu, rfl, hr1, hA⟩
    exact ⟨[thd t _ b, r1], [], List.Perm.swap .., e, .fr M' ded' total', _, hu, rfl, ⟨b, r1, rfl, hr1⟩, hA⟩
theorem ttake_spec (k : ByteArray) (hk : small k) (hr : TbS t m S r) (hs : Holds w r.foot [r] w) :
    Spec Tryz.prog 17 [.pointer (some ⟨t, 0, .none⟩), .string k] w r.foot fun v H => ∃ k' o' s' is S' r', v = .tuple [enV k' o' s', .bool is].toArray ∧ H = [r'] ∧ TbS t m S' r' ∧ GetS k k' o' s' is S ∧ TakeS k (.tuple [enV k' o' s', .bool is].toArray) S S' := by
  cases S with
  | sv E l base total =>
    obtain ⟨b, r', rfl, hr'⟩ := hr
    refine (ttake_gen (Ψ := fun k' o' s' is r1 => ∃ E' l', SvR b m E' l' base total r1 ∧ GetS k k' o' s' is (.sv E l base total) ∧ ((∃ i o s, Has E k i o s ∧ E' = E.set i none ∧ l' = rem l i ∧ Value.tuple [enV k' o' s', .bool is].toArray = Value.tuple [enV k o s, .bool true].toArray) ∨ (Hasnt E k ∧ E' = E ∧ l' = l))) (f := 78) (fun w => by kernel_rfl) Tryz.func78 (by kernel_rfl) (fun w hh => (svtake_spec b m E base total k r' w hk hr' hh).mono ?_) hs).mono ?_
    · rintro v _ ⟨hG, r1, E', l', rfl, hr1, hT⟩
      obtain ⟨k', o, s, is, rfl, hy, hn⟩ := hG.form
      exact ⟨k', o, s, is, r1, rfl, rfl, E', l', hr1, ⟨hy, hn⟩, hT⟩
    · rintro v _ ⟨k', o, s, is, r1, rfl, rfl, E', l', hr1, hg, hT⟩
      exact ⟨k', o, s, is, .sv E' l' base total, _, rfl, rfl, ⟨b, r1, rfl, hr1⟩, hg, rfl, rfl, hT⟩
  | fr M ded total =>
    obtain ⟨b, r', rfl, hr'⟩ := hr
    refine (ttake_gen (Ψ := fun k' o' s' is r1 => FrR b m (mdel M k) ded total r1 ∧ GetS k k' o' s' is (.fr M ded total)) (f := 150) (fun w => by kernel_rfl) Tryz.func150 (by kernel_rfl) (fun w hh => (frtake_spec b m M ded total k r' w hk hr' hh).mono ?_) hs).mono ?_
    · rintro v _ ⟨rfl, r1, rfl, hr1⟩
      obtain ⟨k', o, s, is, hfg, hy, hn⟩ := fget_form2 M ded k
      exact ⟨k', o, s, is, r1, hfg, rfl, hr1, hy, hn⟩
    · rintro v _ ⟨k', o, s, is, r1, rfl, rfl, hr1, hg⟩
      exact ⟨k', o, s, is, .fr (mdel M k) ded total, _, rfl, rfl, ⟨b, r1, rfl, hr1⟩, hg, rfl, rfl, rfl⟩
theorem tswap_spec (k x : ByteArray) (xo xs : Nat) (hk : small k) (hx : small x) (hxo : xo < 18446744073709551616) (hxs : xs < 18446744073709551616) (hI : TsJ m S) (hr : TbS t m S r) (hs : Holds w r.foot [r] w) :
    Spec Tryz.prog 20 [.pointer (some ⟨t, 0, .none⟩), .string k, .agg #[.string x, .int .u64 (xo : Int), .int .u64 (xs : Int)]] w r.foot fun v H => ∃ k' o' s' e S' r', v = .tuple [enV k' o' s', .int .i64 e].toArray ∧ H = [r'] ∧ TbS t m S' r' ∧ SwapS k x xo xs (.tuple [enV k' o' s', .int .i64 e].toArray) S S' := by
  cases S with
  | sv E l base total =>
    obtain ⟨b, r', rfl, hr'⟩ := hr
    obtain ⟨h1, h2, h3, h5⟩ := hI
    refine (tswap_gen (Ψ := fun k' o' s' e r1 => ∃ E' l', SvR b m E' l' base total r1 ∧ SwapG E base k x xo xs (.tuple [enV k' o' s', .int .i64 e].toArray) E' ∧ SwapL E l base k xo xs (.tuple [enV k' o' s', .int .i64 e].toArray) l') (f := 77) (fun w => by kernel_rfl) Tryz.func77 (by kernel_rfl) (fun w hh => (svswap_spec b m E base total k x xo xs r' w hk hx hxo hxs (h3.tok (by omega) h5) h3.ge hr' hh).mono ?_) hs).mono ?_
    · rintro v _ ⟨r1, E', l', rfl, hr1, hG, hL⟩
      obtain ⟨k', o, s, e, rfl⟩ := hG.form
      exact ⟨k', o, s, e, r1, rfl, rfl, E', l', hr1, hG, hL⟩
    · rintro v _ ⟨k', o, s, e, r1, rfl, rfl, E', l', hr1, hG, hL⟩
      exact ⟨k', o, s, e, .sv E' l' base total, _, rfl, rfl, ⟨b, r1, rfl, hr1⟩, rfl, rfl, hG, hL⟩
  | fr M ded total =>
    obtain ⟨b, r', rfl, hr'⟩ := hr
    refine (tswap_gen (Ψ := fun k' o' s' e r1 => ∃ M', FrR b m M' ded total r1 ∧ FSwapG M ded k x xo xs (.tuple [enV k' o' s', .int .i64 e].toArray) M') (f := 149) (fun w => by kernel_rfl) Tryz.func149 (by kernel_rfl) (fun w hh => (frswap_spec b m M ded total k x xo xs r' w hk hx hr' hh).mono ?_) hs).mono ?_
    · rintro v _ ⟨r1, M', rfl, hr1, hG⟩
      obtain ⟨k', o, s, e, rfl⟩ := hG.form'
      exact ⟨k', o, s, e, r1, rfl, rfl, M', hr1, hG⟩
    · rintro v _ ⟨k', o, s, e, r1, rfl, rfl, M', hr1, hG⟩
      exact ⟨k', o, s, e, .fr M' ded total, _, rfl, rfl, ⟨b, r1, rfl, hr1⟩, rfl, rfl, hG⟩
theorem tbounds_spec (k : ByteArray) (hk : small k) (hI : TsJ m S) (hr : TbS t m S r) (hs : Holds w r.foot [r] w) :
    Spec Tryz.prog 12 [.pointer (some ⟨t, 0, .none⟩), .string k] w r.foot fun v H => ∃ k' o' s' is, v = .tuple [bnV (if is then o' else 0) (if is then o' + s' else S.base), .bool is].toArray ∧ H = [r] ∧ GetS k k' o' s' is S := by
  cases S with
  | sv E l base total =>
    obtain ⟨b, r', rfl, hr'⟩ := hr
    refine tbounds_gen (Ψ := fun k' o' s' is => GetS k k' o' s' is (.sv E l base total)) (f := 75) (f2 := 80) (fun w => by kernel_rfl) Tryz.func75 (by kernel_rfl) (fun w => by kernel_rfl) Tryz.func80 (by kernel_rfl) (fun w hh => (svget_spec b m E base total k r' w hk hr' hh).mono ?_) (fun w hh => svuntracked_spec b m E base total r' w hr' hh) (fun k' o s is hg => hI.fits hg) hs
    rintro v _ ⟨hG, rfl⟩
    obtain ⟨k', o, s, is, rfl, hy, hn⟩ := hG.form
    exact ⟨k', o, s, is, rfl, rfl, hy, hn⟩
  | fr M ded total =>
    obtain ⟨b, r', rfl, hr'⟩ := hr
    refine tbounds_gen (Ψ := fun k' o' s' is => GetS k k' o' s' is (.fr M ded total)) (f := 147) (f2 := 152) (fun w => by kernel_rfl) Tryz.func147 (by kernel_rfl) (fun w => by kernel_rfl) Tryz.func152 (by kernel_rfl) (fun w hh => (frget_spec b m M ded total k r' w hk hr' hh).mono ?_) (fun w hh => fruntracked_spec b m M ded total r' w hr' hh) (fun k' o s is hg => hI.fits hg) hs
    rintro v _ ⟨rfl, rfl⟩
    obtain ⟨k', o, s, is, hfg, hy, hn⟩ := fget_form2 M ded k
    exact ⟨k', o, s, is, hfg, rfl, hy, hn⟩
theorem tuntracked_spec (hr : TbS t m S r) (hs : Holds w r.foot [r] w) :
    Spec Tryz.prog 15 [.pointer (some ⟨t, 0, .none⟩)] w r.foot fun v H => v = .int .u64 (S.base : Nat) ∧ H = [r] := by
  cases S with
  | sv E l base total =>
    obtain ⟨b, r', rfl, hr'⟩ := hr
    refine (tuntracked_gen (f := 80) (fun w => by kernel_rfl) Tryz.func80 (by kernel_rfl) (fun w hh => svuntracked_spec b m E base total r' w hr' hh) hs).bunp ?_
    rintro u _ ⟨_, rfl, hu, rfl⟩
    exact ⟨[thd t _ b, r'], [], List.Perm.swap .., hu, rfl⟩
  | fr M ded total =>
    obtain ⟨b, r', rfl, hr'⟩ := hr
    refine (tuntracked_gen (f := 152) (fun w => by kernel_rfl) Tryz.func152 (by kernel_rfl) (fun w hh => fruntracked_spec b m M ded total r' w hr' hh) hs).bunp ?_
    rintro u _ ⟨_, rfl, hu, rfl⟩
    exact ⟨[thd t _ b, r'], [], List.Perm.swap .., hu, rfl⟩
theorem ttotal_spec (hr : TbS t m S r) (hs : Holds w r.foot [r] w) :
    Spec Tryz.prog 16 [.pointer (some ⟨t, 0, .none⟩)] w r.foot fun v H => v = .int .u64 (S.total : Nat) ∧ H = [r] := by
  cases S with
  | sv E l base total =>
    obtain ⟨b, r', rfl, hr'⟩ := hr
    refine (ttotal_gen (f := 79) (fun w => by kernel_rfl) Tryz.func79 (by kernel_rfl) (fun w hh => svtotal_spec b m E base total r' w hr' hh) hs).bunp ?_
    rintro u _ ⟨_, rfl, hu, rfl⟩
    exact ⟨[thd t _ b, r'], [], List.Perm.swap .., hu, rfl⟩
  | fr M ded total =>
    obtain ⟨b, r', rfl, hr'⟩ := hr
    refine (ttotal_gen (f := 151) (fun w => by kernel_rfl) Tryz.func151 (by kernel_rfl) (fun w hh => frtotal_spec b m M ded total r' w hr' hh) hs).bunp ?_
    rintro u _ ⟨_, rfl, hu, rfl⟩
    exact ⟨[thd t _ b, r'], [], List.Perm.swap .., hu, rfl⟩
theorem tlen_spec (hr : TbS t m S r) (hs : Holds w r.foot [r] w) :
    Spec Tryz.prog 25 [.pointer (some ⟨t, 0, .none⟩)] w r.foot fun v H => v = .int .i64 (S.len : Nat) ∧ H = [r] := by
  cases S with
  | sv E l base total =>
    obtain ⟨b, r', rfl, hr'⟩ := hr
    refine (tlen_gen (f := 76) (fun w => by kernel_rfl) Tryz.func76 (by kernel_rfl) (fun w hh => svlen_spec b m E base total r' w hr' hh) hs).bunp ?_
    rintro u _ ⟨_, rfl, hu, rfl⟩
    exact ⟨[thd t _ b, r'], [], List.Perm.swap .., hu, rfl⟩
  | fr M ded total =>
    obtain ⟨b, r', rfl, hr'⟩ := hr
    refine (tlen_gen (f := 148) (fun w => by kernel_rfl) Tryz.func148 (by kernel_rfl) (fun w hh => frlen_spec b m M ded total r' w hr' hh) hs).bunp ?_
    rintro u _ ⟨_, rfl, hu, rfl⟩
    exact ⟨[thd t _ b, r'], [], List.Perm.swap .., hu, rfl⟩
theorem tentries_spec (hm12 : m ≤ 12) (hr : TbS t m S r) (hs : Holds w r.foot [r] w) :
    Spec Tryz.prog 14 [.pointer (some ⟨t, 0, .none⟩)] w r.foot fun v H => ∃ es : List En, H = [r, row v 46 3 es.length (encs es)] ∧ EntS es S := by
  cases S with
  | sv E l base total =>
    obtain ⟨b, r', rfl, hr'⟩ := hr
    refine (tentries_gen (f := 74) (fun w => by kernel_rfl) Tryz.func74 (by kernel_rfl) (fun w hh => sventries_spec b m E base total r' w hm12 hr' hh) hs).bunp ?_
    rintro u _ ⟨_, rfl, es, rfl, h1, h2⟩
    exact ⟨[thd t _ b, r'], [_], pick_perm [2, 1] _ rfl, es, rfl, h1, h2⟩
  | fr M ded total =>
    obtain ⟨b, r', rfl, hr'⟩ := hr
    refine (tentries_gen (f := 146) (fun w => by kernel_rfl) Tryz.func146 (by kernel_rfl) (fun w hh => frentries_spec b m M ded total r' w hm12 hr' hh) hs).bunp ?_
    rintro u _ ⟨_, rfl, ks, hkp, hks, rfl⟩
    exact ⟨[thd t _ b, r'], [_], pick_perm [2, 1] _ rfl, ks.map (fent M ded), rfl, ks, hkp, hks, rfl⟩
end
end Go.Proofs.YtmagdjlcckgkpaaGreat

/- The reference's tables: where a key is, a list without one, getting, taking out. -/
namespace Go.Proofs.YtmagdjlcckgkpaaGreat
open Go.RowKit

def rts (q mode n : Nat) (l : List En) (v : Value) (base sum : Nat) : List Res :=
  [blk q [.int .i64 (mode : Int), .int .i64 (n : Int), v, .int .u64 (base : Int), .int .u64 (sum : Int)] 65, row v 46 3 l.length (encs l)]
def RtR (q mode n : Nat) (l : List En) (base sum : Nat) (r : Res) : Prop := ∃ v, r = bun (rts q mode n l v base sum)
def eks (l : List En) : List ByteArray := l.map Prod.fst
theorem eks_app (A B : List En) : eks (A ++ B) = eks A ++ eks B := by simp [eks]
def rplE (l : List En) (k : ByteArray) (y : Int) : Prop := (k ∉ eks l ∧ y = -1) ∨ ∃ A o s B, l = A ++ (k, o, s) :: B ∧ k ∉ eks A ∧ y = (A.length : Nat)
theorem rplE_at {l : List En} {k : ByteArray} {y : Int} (h : rplE l k y) (hy : ¬ y < 0) : ∃ A o s B, l = A ++ (k, o, s) :: B ∧ k ∉ eks A ∧ y = (A.length : Nat) := by
  rcases h with ⟨_, rfl⟩ | h
  · omega
  · exact h
theorem rplE_no {l : List En} {k : ByteArray} {y : Int} (h : rplE l k y) (hy : y < 0) : k ∉ eks l := by
  rcases h with ⟨h, _⟩ | ⟨A, o, s, B, _, _, rfl⟩
  · exact h
  · omega
theorem rplE_uniq {A B : List En} {k : ByteArray} {x : Nat × Nat} {y : Int} (hA : k ∉ eks A) (h : rplE (A ++ (k, x) :: B) k y) : y = (A.length : Nat) := by
  rcases h with ⟨h, _⟩ | ⟨A', o, s, B', h, hA', rfl⟩
  · exact absurd (by rw [eks_app]; simp [eks]) h
  · congr 1
    rcases List.append_eq_append_iff.1 h with ⟨C, rfl, h2⟩ | ⟨C, rfl, h2⟩
    · cases C with
      | nil => simp
      | cons c C =>
        rw [List.cons_append, List.cons.injEq] at h2
        exact absurd (by rw [eks_app, ← h2.1]; simp [eks]) hA'
    · cases C with
      | nil => simp
      | cons c C =>
        rw [List.cons_append, List.cons.injEq] at h2
        exact absurd (by rw [eks_app, ← h2.1]; simp [eks]) hA
theorem encs_one (l : List En) : ∀ u ∈ encs l, u.oneCell' = true := by
  intro u hu
  simp only [encs, ecells, List.mem_flatMap, List.mem_map] at hu
  obtain ⟨o, ⟨x, _, rfl⟩, hu⟩ := hu
  simp only [ecell, List.mem_cons, List.not_mem_nil, or_false] at hu
  rcases hu with rfl | rfl | rfl <;> rfl
theorem emid_one {l : List Value} (h : ∀ u ∈ l, u.oneCell' = true) (a b : Nat) : ∀ u ∈ (l.drop a).take b, u.oneCell' = true := fun u hu => h u (List.mem_of_mem_drop (List.mem_of_mem_take hu))
theorem encs_app (A B : List En) : encs (A ++ B) = encs A ++ encs B := by rw [encs, List.map_append, ecells_app]; rfl
theorem encs_take (l : List En) (i : Nat) : (encs l).take (i * 3) = encs (l.take i) := by
  by_cases h : i ≤ l.length
  · conv => lhs; rw [← List.take_append_drop i l, encs_app]
    rw [List.take_append_of_le_length (by rw [encs_len, List.length_take]; omega), List.take_of_length_le (by rw [encs_len, List.length_take]; omega)]
  · rw [List.take_of_length_le (by rw [encs_len]; omega), List.take_of_length_le (by omega)]
theorem encs_drop (l : List En) (i : Nat) : (encs l).drop (i * 3) = encs (l.drop i) := by
  by_cases h : i ≤ l.length
  · conv => lhs; rw [← List.take_append_drop i l, encs_app]
    have e : (encs (l.take i)).length = i * 3 := by rw [encs_len, List.length_take]; omega
    rw [← e, List.drop_left]
  · rw [List.drop_of_length_le (by rw [encs_len]; omega), List.drop_of_length_le (by omega)]; rfl
theorem encs_mid (l : List En) (a b : Nat) : ((encs l).drop (a * 3)).take (b * 3) = encs ((l.drop a).take b) := by rw [encs_drop, encs_take]

set_option maxHeartbeats 1000000 in
theorem rplace_spec (v : Value) (l : List En) (k : ByteArray) (w : World) (h1 : Rd w Nil 3 v l.length (encs l)) (hl : l.length ≤ 8192) :
    Spec Tryz.prog 40 [v, .string k] w Nil fun u H => H = [] ∧ ∃ y, u = .int .i64 y ∧ rplE l k y := by
  obtain ⟨A1, c1, rfl, -, hc1', g1⟩ := h1
  refine enter (n := 20) Tryz.func40 rfl rfl [(0, _), (1, _)] rfl ⟨rfl, rfl, trivial⟩ (Holds.start _ _) ?_
  refine w_seq (w_reg (wl_f (f_assign rfl) (wl_end [(0, _), (1, _)] ⟨rfl, rfl, trivial⟩ ?_)))
  refine w_seq (w_seq (w_reg (wl_f (f_move rfl) (wl_f (f_len rfl Tryz.underlying42) ?_))))
  refine wl_f (f_move rfl) (wl_end [(1, _), (7, _), (8, _), (9, _)] ⟨rfl, rfl, rfl, rfl, trivial⟩ ?_)
  refine w_block ?_
  refine w_loop (fun j m H w => ∃ i : Nat, m = [(1, .string k), (7, .slice A1 l.length c1), (8, .int .i64 l.length), (9, .int .i64 i)] ∧ H = [] ∧ j + i = l.length ∧ k ∉ eks (l.take i)) l.length ⟨0, rfl, rfl, rfl, by simp [eks]⟩ ?_
  rintro j _ _ w' ⟨i, rfl, rfl, hj, hall⟩
  refine w_seq (w_reg (wl_f (f_lss rfl rfl) ?_))
  refine wl_end [(1, _), (7, _), (8, _), (9, _), (10, _)] ⟨rfl, rfl, rfl, rfl, rfl, trivial⟩ ?_
  refine w_seq ?_
  refine w_ifd rfl (fun hc1 => ?_) (fun hc1 => ?_)
  · skip
    have hi : i < l.length := by omega
    obtain ⟨b1, o1, rfl, -, -, d1⟩ := g1.resolve_left (by omega)
    obtain ⟨p, hp⟩ : ∃ p, l[i]? = some p := ⟨_, List.getElem?_eq_getElem hi⟩
    refine w_skip ?_
    refine w_seq (w_block ?_)
    refine w_seq (w_reg (wl_f (f_move rfl) (wl_f (f_indexAddr 3 (i := i) rfl rfl Tryz.underlying42 (by kernel_rfl) rfl hi) ?_)))
    refine wl_f (f_loadso (cs := ecell (some p)) rfl Tryz.underlying46 rfl (by kernel_rfl) (encs_at d1 hp) id) ?_
    refine wl_e (e_allocs [.string ByteArray.empty, .int .u64 0, .int .u64 0] (by kernel_rfl)) ?_
    rintro _ _ w3_3 ⟨b3_3, rfl, rfl⟩
    refine wl_f (f_assign rfl) (wl_e0 (e_store0 (us := [_, _, _]) rfl rfl rfl (by kernel_rfl) (by simp [Value.oneCell']) rfl rfl) ?_)
    rintro _ _ w3_5 rfl
    refine wl_end [(1, _), (5, _), (6, _), (7, _), (8, _), (9, _)] ⟨rfl, rfl, rfl, rfl, rfl, rfl, trivial⟩ ?_
    refine w_seq (w_reg (wl_f (f_fieldAddr 0 rfl Tryz.underlying46 rfl rfl (by kernel_rfl)) ?_))
    refine wl_f (f_loadb 0 rfl Tryz.underlying9 rfl rfl rfl) ?_
    refine wl_f (f_move rfl) (wl_f (f_eqls rfl rfl) ?_)
    refine wl_pick [] rfl ?_
    refine wl_end [(1, _), (5, _), (7, _), (8, _), (9, _), (17, _)] ⟨rfl, rfl, rfl, rfl, rfl, rfl, trivial⟩ ?_
    refine w_ifd rfl (fun hc2 => ?_) (fun hc2 => ?_)
    · skip
      refine w_seq (w_reg (wl_f (f_move rfl) (wl_f (f_assign rfl) (wl_end [(4, _)] ⟨rfl, trivial⟩ ?_))))
      refine w_ret ?_
      refine ⟨_, _, fun a ha hh => results_tmps Tryz.results40 rfl a ha _, List.Sublist.refl _, ?_⟩
      refine ⟨rfl, i, rfl, .inr ⟨l.take i, p.2.1, p.2.2, l.drop (i + 1), ?_, hall, by rw [List.length_take]; omega⟩⟩
      obtain ⟨hlt, e⟩ := List.getElem?_eq_some_iff.1 hp
      have hz : (k, p.2.1, p.2.2) = l[i] := by rw [e, ← (show p.1 = k from hc2)]
      rw [hz, ← List.drop_eq_getElem_cons hlt, List.take_append_drop]
    · skip
      refine w_skip ?_
      refine w_reg (wl_f (f_add rfl rfl (by omega)) ?_)
      refine wl_f (f_move rfl) (wl_end [(1, _), (7, _), (8, _), (9, _)] ⟨rfl, rfl, rfl, rfl, trivial⟩ ?_)
      refine ⟨j - 1, by omega, i + 1, rfl, rfl, by omega, fun h => ?_⟩
      rw [List.take_add_one, hp, eks_app] at h
      rcases List.mem_append.1 h with h | h
      · exact hall h
      · simp [eks] at h; exact hc2 h.symm
  · skip
    refine w_exit0 ?_
    refine w_seq (w_reg (wl_f (f_assign rfl) (wl_end [(4, _)] ⟨rfl, trivial⟩ ?_)))
    refine w_ret ?_
    refine ⟨_, _, fun a ha hh => results_tmps Tryz.results40 rfl a ha _, List.Sublist.refl _, ?_⟩
    refine ⟨rfl, -1, rfl, .inl ⟨?_, rfl⟩⟩
    rw [List.take_of_length_le (by omega)] at hall
    exact hall
theorem rwithout_spec (A1 : Option Addr) (c1 : Nat) (A B : List En) (x : En) (w : World) (h1 : Rd w Nil 3 (.slice A1 (A ++ x :: B).length c1) (A ++ x :: B).length (encs (A ++ x :: B))) (hl : (A ++ x :: B).length ≤ 8192) :
    Spec Tryz.prog 39 [.slice A1 (A ++ x :: B).length c1, .int .i64 (A.length : Nat)] w Nil fun u H => ∃ U c, u = .slice U (A ++ B).length c ∧ H = [row (.slice U (A ++ B).length c) 46 3 (A ++ B).length (encs (A ++ B))] := by
  have hll : (A ++ x :: B).length = A.length + 1 + B.length := by simp; omega
  have hcap : (A ++ x :: B).length ≤ c1 := by
    obtain ⟨_, _, e, _, h, _⟩ := id h1
    injection e with _ _ e
    subst e
    exact h
  refine enter (n := 15) Tryz.func39 rfl rfl [(0, _), (1, _)] rfl ⟨rfl, rfl, trivial⟩ (Holds.start _ _) ?_
  refine w_seq (w_reg (wl_f (f_assign rfl) (wl_end [(0, _), (1, _)] ⟨rfl, rfl, trivial⟩ ?_)))
  refine w_seq ?_
  refine w_draw [(1, true), (2, true), (3, true), (5, true), (6, true), (7, true), (8, true), (0, false), (4, false), (9, false), (10, true)] ([]) ([]) mixed (by kernel_rfl) (by kernel_rfl) rfl (perm_all _) (fun w1_ => ?_)
  refine wd_f rfl (f_move rfl) (wd_f rfl (f_move rfl) (wd_f rfl (f_sliceA 3 (l := 0) (u := A.length) rfl Tryz.underlying42 (by kernel_rfl) rfl ⟨_, rfl⟩ (by omega) (by omega)) ?_))
  refine wd_f rfl (f_move rfl) (wd_f rfl (f_move rfl) (wd_f rfl (f_eqv (v' := .int .i64 ((A.length + 1 : Nat) : Int)) (f_add rfl rfl (by omega)) (by congr 1)) ?_))
  refine wd_f rfl (f_sliceA 3 (l := A.length + 1) (u := (A ++ x :: B).length) rfl Tryz.underlying42 (by kernel_rfl) ⟨_, rfl⟩ rfl (by omega) (by omega)) ?_
  refine wd_e rfl (e_lit0 t42) ?_
  rintro _ _ w1_0 ⟨b1_0, rfl, rfl⟩
  refine ⟨_, List.perm_middle.symm, ?_⟩
  refine wd_e rfl (e_appN 0 t42 rfl rfl rfl (fun w hh => (h1.old0 hh).cut (l := 0) (u := A.length) (by omega) (by omega)) (emid_one (encs_one _) _ _) (by omega) (by omega)) ?_
  rintro _ _ w2 ⟨⟨U1, a1, rfl⟩, rfl⟩
  refine ⟨_, List.Perm.refl _, ?_⟩
  refine wd_e rfl (e_appN 0 t42 rfl rfl rfl (fun w hh => (h1.old0 hh).cut (l := A.length + 1) (u := (A ++ x :: B).length) (by omega) (by omega)) (emid_one (encs_one _) _ _) (by omega) (by omega)) ?_
  rintro _ _ w3 ⟨⟨U2, a2, rfl⟩, rfl⟩
  refine ⟨_, List.Perm.refl _, ?_⟩
  refine wd_f rfl (f_assign rfl) (wd_end [(4, _)] ⟨rfl, trivial⟩ ?_)
  refine w_ret ?_
  refine ⟨_, _, fun a ha hh => results_tmps Tryz.results39 rfl a ha _, List.Sublist.refl _, ?_⟩
  rw [encs_mid, encs_mid, List.drop_zero, Nat.sub_zero, List.take_left, List.take_of_length_le (by rw [List.length_drop]; omega)]
  rw [show (A ++ x :: B).drop (A.length + 1) = B by rw [← List.drop_drop, List.drop_left]; rfl]
  simp only [List.nil_append]
  rw [← encs_app, show 0 + A.length + ((A ++ x :: B).length - (A.length + 1)) = (A ++ B).length by have : (A ++ B).length = A.length + B.length := List.length_append; omega]
  exact ⟨U2, a2, rfl, rfl⟩
/-- What getting finds. -/
def RGet (mode : Nat) (l : List En) (base : Nat) (k k' : ByteArray) (o' s' : Nat) (is : Bool) : Prop :=
  (is = false ∧ k ∉ eks l ∧ k' = ByteArray.empty ∧ o' = 0 ∧ s' = 0) ∨ (is = true ∧ ∃ A s B, l = A ++ (k, o', s) :: B ∧ k ∉ eks A ∧ k' = k ∧ s' = if mode = 2 then base else s)
theorem encs_loc {A B : List En} {x : En} : (A ++ x :: B)[A.length]? = some x := by simp
set_option maxHeartbeats 2000000 in
theorem rget_spec (q mode n : Nat) (l : List En) (base sum : Nat) (r : Res) (k : ByteArray) (w : World) (hl : l.length ≤ 8192) (hr : RtR q mode n l base sum r) (hs : Holds w r.foot [r] w) :
    Spec Tryz.prog 38 [.pointer (some ⟨q, 0, .none⟩), .string k] w r.foot fun v H => H = [r] ∧ ∃ k' o' s' is, v = .tuple [enV k' o' s', .bool is].toArray ∧ RGet mode l base k k' o' s' is := by
  obtain ⟨LV, rfl⟩ := hr
  refine enter (n := 35) Tryz.func38 rfl rfl [(0, _), (1, _)] rfl ⟨rfl, rfl, trivial⟩ hs ?_
  refine w_seq (w_reg (wl_e (e_allocs [.string ByteArray.empty, .int .u64 0, .int .u64 0] (by kernel_rfl)) ?_))
  rintro _ _ w0_0 ⟨b0_0, rfl, rfl⟩
  refine wl_f (f_assign rfl) (wl_end [(0, _), (1, _), (4, _)] ⟨rfl, rfl, rfl, trivial⟩ ?_)
  refine w_seq (w_reg (wl_f (f_move rfl) (wl_f (f_nilCheck rfl) (wl_f (f_fieldAddr 2 rfl Tryz.underlying65 rfl rfl (by kernel_rfl)) ?_))))
  refine wl_f (f_loadB 1 0 rfl rfl rfl Tryz.underlying42 rfl rfl) ?_
  refine wl_f (f_move rfl) (wl_e (e_call0 rfl Tryz.func40 (by kernel_rfl) (fun w hh => rplace_spec LV l k w (Rd.heldB hh (i := 1) (j := 1) rfl rfl) hl)) ?_)
  rintro _ _ w1 ⟨_, rfl, rfl, y, rfl, hy⟩
  refine wl_f (f_assign rfl) (wl_end [(0, _), (4, _), (6, _)] ⟨rfl, rfl, rfl, trivial⟩ ?_)
  refine w_seq (w_seq (w_reg (wl_f (f_move rfl) (wl_f (f_lss rfl rfl) ?_))))
  refine wl_end [(0, _), (4, _), (6, _), (15, _)] ⟨rfl, rfl, rfl, rfl, trivial⟩ ?_
  refine w_ifd rfl (fun hc1 => ?_) (fun hc1 => ?_)
  · skip
    have hno := rplE_no hy hc1
    refine w_seq (w_reg (wl_f (f_build rfl build_entry0) ?_))
    refine wl_e0 (e_store0 (us := [_, _, _]) rfl rfl rfl (by kernel_rfl) (by simp [Value.oneCell']) rfl rfl) ?_
    rintro _ _ w3_1 rfl
    refine wl_f (f_assign rfl) (wl_end [(4, _), (5, _)] ⟨rfl, rfl, trivial⟩ ?_)
    refine w_pick [1, 0] rfl ?_
    refine w_ret ?_
    refine ⟨_, _, fun a ha hh => results_mix Tryz.results38 (rm_cell (cell_agg 1 rfl Tryz.underlying46 rfl (by kernel_rfl) rfl) (rm_tmp rfl rm_nil)) a ha _ hh, (List.nil_sublist _).cons_cons _, ?_⟩
    exact ⟨rfl, ByteArray.empty, 0, 0, false, rfl, .inl ⟨rfl, hno, rfl, rfl, rfl⟩⟩
  · skip
    obtain ⟨A, o, s, B, rfl, hA, rfl⟩ := rplE_at hy hc1
    have hAl : A.length < (A ++ (k, o, s) :: B).length := by simp
    refine w_with fun hh => ?_
    obtain ⟨g, cap, e⟩ := rowB_form hh (i := 1) (j := 1) rfl rfl (by omega)
    subst e
    clear hh
    refine w_skip ?_
    refine w_seq (w_reg (wl_f (f_move rfl) (wl_f (f_nilCheck rfl) (wl_f (f_fieldAddr 2 rfl Tryz.underlying65 rfl rfl (by kernel_rfl)) ?_))))
    refine wl_f (f_loadB 1 0 rfl rfl rfl Tryz.underlying42 rfl rfl) ?_
    refine wl_f (f_move rfl) (wl_f (f_indexAddr 3 (i := A.length) rfl rfl Tryz.underlying42 (by kernel_rfl) rfl hAl) ?_)
    refine wl_f (f_loadsBr (cs := ecell (some (k, o, s))) 1 1 rfl rfl rfl Tryz.underlying46 rfl (by kernel_rfl) (encs_get encs_loc)) ?_
    refine wl_e (e_allocs [.string ByteArray.empty, .int .u64 0, .int .u64 0] (by kernel_rfl)) ?_
    rintro _ _ w4_7 ⟨b4_7, rfl, rfl⟩
    refine wl_e0 (e_store0 (us := [_, _, _]) rfl rfl rfl (by kernel_rfl) (by simp [Value.oneCell']) rfl rfl) ?_
    rintro _ _ w4_8 rfl
    refine wl_end [(0, _), (4, _), (7, _)] ⟨rfl, rfl, rfl, trivial⟩ ?_
    refine w_seq (w_seq (w_reg (wl_f (f_move rfl) (wl_f (f_nilCheck rfl) (wl_f (f_fieldAddr 0 rfl Tryz.underlying65 rfl rfl (by kernel_rfl)) ?_)))))
    refine wl_f (f_loadB 2 0 rfl rfl rfl Tryz.underlying3 rfl rfl) ?_
    refine wl_f (f_eql rfl rfl) ?_
    refine wl_end [(0, _), (4, _), (7, _), (28, _)] ⟨rfl, rfl, rfl, rfl, trivial⟩ ?_
    refine w_post (fun m' H w' => m' = [(4, .pointer (some ⟨b0_0, 0, .none⟩)), (7, .pointer (some ⟨b4_7, 0, .none⟩))] ∧ H = [blk b4_7 [.string k, .int .u64 (o : Int), .int .u64 ((if mode = 2 then base else s : Nat) : Int)] 46, blk b0_0 [.string ByteArray.empty, .int .u64 0, .int .u64 0] 46, bun (rts q mode n (A ++ (k, o, s) :: B) (.slice (some ⟨g, 0, .none⟩) (A ++ (k, o, s) :: B).length cap) base sum)]) ?_ ?_
    · skip
      refine w_ifd rfl (fun hc2 => ?_) (fun hc2 => ?_)
      · skip
        have hm2 : mode = 2 := by have : (mode : Int) = 2 := hc2; omega
        refine w_reg (wl_f (f_move rfl) (wl_f (f_nilCheck rfl) (wl_f (f_fieldAddr 3 rfl Tryz.underlying65 rfl rfl (by kernel_rfl)) ?_)))
        refine wl_f (f_loadB 2 0 rfl rfl rfl Tryz.underlying33 rfl rfl) ?_
        refine wl_f (f_fieldAddr 2 rfl Tryz.underlying46 rfl rfl (by kernel_rfl)) ?_
        refine wl_e0 (e_store0 (us := [_]) rfl rfl rfl (by kernel_rfl) (by simp [Value.oneCell']) rfl rfl) ?_
        rintro _ _ w6_5 rfl
        refine wl_end [(4, _), (7, _)] ⟨rfl, rfl, trivial⟩ ?_
        rw [if_pos hm2]; exact ⟨rfl, rfl⟩
      · skip
        refine w_sub [(4, _), (7, _)] ⟨rfl, rfl, trivial⟩ (w_skip ?_)
        rw [if_neg (fun e => hc2 (by rw [e]; rfl))]; exact ⟨rfl, rfl⟩
    · rintro _ _ w4 ⟨rfl, rfl⟩
      refine w_seq (w_reg (wl_f (f_loadsb (cs := [_, _, _]) 0 rfl Tryz.underlying46 rfl (by kernel_rfl) rfl rfl) ?_))
      refine wl_e0 (e_store1 (us := [_, _, _]) rfl rfl rfl (by kernel_rfl) (by simp [Value.oneCell']) rfl rfl) ?_
      rintro _ _ w7_1 rfl
      refine wl_f (f_assign rfl) (wl_end [(4, _), (5, _)] ⟨rfl, rfl, trivial⟩ ?_)
      refine w_pick [2, 1] rfl ?_
      refine w_ret ?_
      refine ⟨_, _, fun a ha hh => results_mix Tryz.results38 (rm_cell (cell_agg 1 rfl Tryz.underlying46 rfl (by kernel_rfl) rfl) (rm_tmp rfl rm_nil)) a ha _ hh, (List.nil_sublist _).cons_cons _, ?_⟩
      exact ⟨rfl, k, o, _, true, rfl, .inr ⟨rfl, A, s, B, rfl, hA, rfl, rfl⟩⟩
/-- What is left after taking. -/
def RTake (l : List En) (k : ByteArray) (l' : List En) : Prop := (k ∉ eks l ∧ l' = l) ∨ ∃ A x B, l = A ++ x :: B ∧ x.1 = k ∧ k ∉ eks A ∧ l' = A ++ B
set_option maxHeartbeats 2000000 in
theorem rtake_spec (q mode n : Nat) (l : List En) (base sum : Nat) (r : Res) (k : ByteArray) (w : World) (hl : l.length ≤ 8192) (hr : RtR q mode n l base sum r) (hs : Holds w r.foot [r] w) :
    Spec Tryz.prog 26 [.pointer (some ⟨q, 0, .none⟩), .string k] w r.foot fun v H => ∃ k' o' s' is l' r', v = .tuple [enV k' o' s', .bool is].toArray ∧ RGet mode l base k k' o' s' is ∧ H = [r'] ∧ RtR q mode n l' base sum r' ∧ RTake l k l' := by
  obtain ⟨LV, rfl⟩ := id hr
  refine enter (n := 31) Tryz.func26 rfl rfl [(0, _), (1, _)] rfl ⟨rfl, rfl, trivial⟩ hs ?_
  refine w_seq (w_reg (wl_e (e_allocs [.string ByteArray.empty, .int .u64 0, .int .u64 0] (by kernel_rfl)) ?_))
  rintro _ _ w0_0 ⟨b0_0, rfl, rfl⟩
  refine wl_f (f_assign rfl) (wl_end [(0, _), (1, _), (4, _)] ⟨rfl, rfl, rfl, trivial⟩ ?_)
  refine w_seq (w_reg (wl_f (f_move rfl) (wl_f (f_move rfl) (wl_e (e_call1 _ [_] rfl Tryz.func38 (by kernel_rfl) (pk1 1 rfl) (fun w hh hs' => rget_spec q mode n l base sum _ k w hl hr hs')) ?_))))
  rintro _ _ w1 ⟨_, rfl, rfl, k', o', s', is, rfl, hG⟩
  refine wl_f (f_move rfl) (wl_f (f_extract rfl rfl) ?_)
  refine wl_f (f_extract rfl rfl) ?_
  refine wl_e (e_allocs [.string ByteArray.empty, .int .u64 0, .int .u64 0] (by kernel_rfl)) ?_
  rintro _ _ w1_6 ⟨b1_6, rfl, rfl⟩
  refine wl_e0 (e_store0 (us := [_, _, _]) rfl rfl rfl (by kernel_rfl) (by simp [Value.oneCell']) rfl rfl) ?_
  rintro _ _ w1_7 rfl
  refine wl_f (f_assign rfl) (wl_end [(0, _), (1, _), (4, _), (6, _), (7, _)] ⟨rfl, rfl, rfl, rfl, rfl, trivial⟩ ?_)
  refine w_seq (w_seq (w_reg (wl_f (f_move rfl) (wl_end [(0, _), (1, _), (4, _), (6, _), (7, _), (14, _)] ⟨rfl, rfl, rfl, rfl, rfl, rfl, trivial⟩ ?_))))
  refine w_post (fun m' H w' => m' = [(4, .pointer (some ⟨b0_0, 0, .none⟩)), (6, .pointer (some ⟨b1_6, 0, .none⟩)), (7, .bool is)] ∧ ∃ l' v', H = rts q mode n l' v' base sum ++ [blk b1_6 [.string k', .int .u64 (o' : Int), .int .u64 (s' : Int)] 46, blk b0_0 [.string ByteArray.empty, .int .u64 0, .int .u64 0] 46] ∧ RTake l k l') ?_ ?_
  · skip
    refine w_ifb rfl (fun hc1 => ?_) (fun hc1 => ?_)
    · skip
      obtain ⟨A, s, B, rfl, hA, _, _⟩ : ∃ A s B, l = A ++ (k, o', s) :: B ∧ k ∉ eks A ∧ k' = k ∧ s' = if mode = 2 then base else s := by
        rcases hG with ⟨h, _⟩ | ⟨_, h⟩
        · rw [h] at hc1; cases hc1
        · exact h
      have hAl : 0 < (A ++ (k, o', s) :: B).length := by simp; omega
      refine w_pick [1, 0, 0] rfl ?_
      refine w_with fun hh => ?_
      obtain ⟨g, cap, e⟩ := rowB_form hh (i := 0) (j := 1) rfl rfl (by omega)
      subst e
      clear hh
      refine w_unb [_, _] ?_
      refine w_drawk [(0, true), (1, true), (2, true), (3, true), (4, true), (5, true), (6, true), (7, true), (8, true), (9, true), (10, false), (11, false), (12, true), (13, true), (14, false)] ([(_, some 14), (_, none)]) ([_, _]) mixed (by kernel_rfl) (by kernel_rfl) rfl rfl (pick_perm [0, 0] _ rfl) (fun w3_ => ?_)
      refine wk_f rfl (f_move rfl) (wk_f rfl (f_move rfl) (wk_f rfl (f_nilCheck rfl) (wk_f rfl (f_fieldAddr 2 rfl Tryz.underlying65 rfl rfl (by kernel_rfl)) ?_)))
      refine wk_f rfl (f_loadb 0 rfl Tryz.underlying42 rfl rfl rfl) ?_
      refine wk_f rfl (f_move rfl) (wk_f rfl (f_nilCheck rfl) (wk_f rfl (f_fieldAddr 2 rfl Tryz.underlying65 rfl rfl (by kernel_rfl)) ?_))
      refine wk_f rfl (f_loadb 0 rfl Tryz.underlying42 rfl rfl rfl) ?_
      refine wk_f rfl (f_move rfl) (wk_e rfl (e_call0 rfl Tryz.func40 (by kernel_rfl) (fun w hh => rplace_spec _ _ k w (Rd.held0 hh (i := 1) rfl) hl)) ?_)
      rintro _ _ w2 ⟨_, rfl, rfl, y, rfl, hy⟩
      refine ⟨_, List.Perm.refl _, ?_⟩
      obtain rfl : y = (A.length : Nat) := rplE_uniq hA hy
      refine wk_e rfl (e_call0 rfl Tryz.func39 (by kernel_rfl) (fun w hh => rwithout_spec _ _ A B _ w (Rd.held0 hh (i := 1) rfl) hl)) ?_
      rintro _ _ w3 ⟨_, rfl, U2, u2, rfl, rfl⟩
      refine ⟨_, (List.Perm.swap ..).trans ((List.Perm.swap ..).cons _), ?_⟩
      refine wk_f rfl (f_nilCheck rfl) (wk_f rfl (f_fieldAddr 2 rfl Tryz.underlying65 rfl rfl (by kernel_rfl)) ?_)
      refine wk_e0 rfl (e_storeN 0 (us := [_]) rfl rfl rfl rfl (by kernel_rfl) (by simp [Value.oneCell']) rfl rfl) ?_
      rintro _ _ w4 rfl
      refine ⟨_, List.Perm.swap .., ?_⟩
      refine wk_endp [(4, _), (6, _), (7, _)] [1, 1, 1, 1] ⟨rfl, rfl, rfl, trivial⟩ rfl ?_
      exact ⟨rfl, A ++ B, _, rfl, .inr ⟨A, _, B, rfl, rfl, hA, rfl⟩⟩
    · skip
      refine w_pick [1, 0, 0] rfl ?_
      refine w_unb [_, _] ?_
      refine w_sub [(4, _), (6, _), (7, _)] ⟨rfl, rfl, rfl, trivial⟩ (w_skip ?_)
      refine ⟨rfl, l, LV, rfl, .inl ⟨?_, rfl⟩⟩
      rcases hG with ⟨_, h, _⟩ | ⟨h, _⟩
      · exact h
      · exact absurd h hc1
  · rintro _ _ w5 ⟨rfl, l', v', rfl, hT⟩
    refine w_bun (H := [_, _]) [_, _] ?_
    refine w_seq (w_reg (wl_f (f_loadsb (cs := [_, _, _]) 1 rfl Tryz.underlying46 rfl (by kernel_rfl) rfl rfl) ?_))
    refine wl_f (f_move rfl) (wl_e0 (e_store2 (us := [_, _, _]) rfl rfl rfl (by kernel_rfl) (by simp [Value.oneCell']) rfl rfl) ?_)
    rintro _ _ w4_2 rfl
    refine wl_f (f_assign rfl) (wl_end [(4, _), (5, _)] ⟨rfl, rfl, trivial⟩ ?_)
    refine w_pick [2, 0] rfl ?_
    refine w_ret ?_
    refine ⟨_, _, fun a ha hh => results_mix Tryz.results26 (rm_cell (cell_agg 0 rfl Tryz.underlying46 rfl (by kernel_rfl) rfl) (rm_tmp rfl rm_nil)) a ha _ hh, List.sublist_cons_self .., ?_⟩
    exact ⟨k', o', s', is, l', _, rfl, hG, rfl, ⟨v', rfl⟩, hT⟩
end Go.Proofs.YtmagdjlcckgkpaaGreat
