/- Tables by the method of Misra and Gries: deducting. -/
import Derived.Test.YtkoklfagmbaapaaQ1
import Derived.Test.YtkoklfagmbaapaaK16
import Derived.Test.YtkoklfagmbaapaaK9
namespace Go.Proofs.Ytkoklfagmbaapaa
open Go.RowKit

theorem mget_cons_ne {α : Type} {M : List (ByteArray × α)} {k k' : ByteArray} {v : α} (h : k' ≠ k) : mget ((k', v) :: M) k = mget M k := by
  simp [mget, List.find?_cons, h]
theorem mget_mdel_ne {α : Type} {M : List (ByteArray × α)} {k k' : ByteArray} (h : k' ≠ k) : mget (mdel M k') k = mget M k := by
  induction M with
  | nil => rfl
  | cons x M ih =>
    obtain ⟨a, v⟩ := x
    by_cases e : a = k'
    · subst e
      rw [mdel_self, mget_cons_ne h]; exact ih
    · have e1 : mdel ((a, v) :: M) k' = (a, v) :: mdel M k' := by simp [mdel, e]
      rw [e1]
      by_cases e2 : a = k
      · subst e2; simp [mget, List.find?_cons]
      · rw [mget_cons_ne e2, mget_cons_ne e2]; exact ih
def dstep (d : Nat) (M : UM) (k : ByteArray) : UM := if (mget M k).getD 0 = d then mdel M k else (k, (mget M k).getD 0 - d) :: mdel M k
theorem dstep_ne {d : Nat} {M : UM} {k q : ByteArray} (h : k ≠ q) : mget (dstep d M k) q = mget M q := by
  unfold dstep
  split
  · exact mget_mdel_ne h
  · rw [mget_cons_ne h]; exact mget_mdel_ne h
theorem dfold_ne {d : Nat} {q : ByteArray} : ∀ (pre : List ByteArray) (M : UM), q ∉ pre → mget (pre.foldl (dstep d) M) q = mget M q
  | [], _, _ => rfl
  | k :: pre, M, h => by
    rw [List.foldl_cons, dfold_ne pre _ (fun hq => h (List.mem_cons_of_mem _ hq))]
    exact dstep_ne (fun e => h (by rw [e]; exact List.mem_cons_self ..))
theorem mget_key {α : Type} {M : List (ByteArray × α)} {k : ByteArray} {v : α} (h : mget M k = some v) : k ∈ keys M := by
  by_cases hk : k ∈ keys M
  · exact hk
  · rw [mget_none hk] at h; cases h
theorem ISpec.mono {P : Program} {f : FuncId} {args : List Value} {w : World} {F : Nat → Prop} {Φ Ψ : Value → List Res → Prop} (h : ISpec P f args w F Φ) (hi : ∀ v H1, Φ v H1 → Ψ v H1) : ISpec P f args w F Ψ :=
  CallsIn.mono h fun _ _ ⟨v, H1, he, hh, hp⟩ => ⟨v, H1, he, hh, hi v H1 hp⟩
section
variable {P : Program} {n : Nat} {w0 : World} {F0 : Nat → Prop} {r : Option Nat} {N R : CondG} {X : Nat → CondG} {ds : List Deferred} {m : Env} {H : List Res} {w : World}
theorem g_unb {c : Code} (L : List Res) (h : G P n w0 F0 r c N R X ds m (L ++ H) w) : G P n w0 F0 r c N R X ds m (bun L :: H) w := fun a ha hh => h a ha (Holds.bun.2 hh)
theorem g_bun {c : Code} (L : List Res) (h : G P n w0 F0 r c N R X ds m (bun L :: H) w) : G P n w0 F0 r c N R X ds m (L ++ H) w := fun a ha hh => h a ha (Holds.bun.1 hh)
theorem g_fin {c : Code} (M : CondG) (h : G P n w0 F0 r c M R X ds m H w) (hN : ∀ ds m H w, M ds m H w → ∃ H', (Holds w0 F0 H w → Holds w0 F0 H' w) ∧ N ds m H' w) : G P n w0 F0 r c N R X ds m H w :=
  fun a ha hh => wpIn_mono (n := 0) (h a ha hh) fun e a' w' hq => by
    cases e with
    | normal =>
      obtain ⟨ds, a0, m, H, h0, h1, h2, h3⟩ := hq
      obtain ⟨H', hc, hn⟩ := hN _ _ _ _ h3
      exact ⟨ds, a0, m, H', h0, h1, hc h2, hn⟩
    | ret => exact hq
    | exit id => exact hq
    | goto l => exact hq
    | panic c => exact hq
    | outgrown => exact hq
theorem g_body {c : Code} {b1 b2 o x tab r0 : Res} (Ψ : Res → Prop) (hN : ∀ r', Ψ r' → ∀ m w, N [] m [o, x, tab, r', bun [b1, b2]] w)
    (h : G P n w0 F0 r c (fun ds _ H2 _ => ds = [] ∧ ∃ r', H2.Perm ([b1, b2] ++ [o, x, tab, r']) ∧ Ψ r') R X [] m [b1, b2, o, x, tab, r0] w) : G P n w0 F0 r c N R X [] m [b1, b2, o, x, tab, r0] w :=
  g_fin _ h fun _ m H2 w9 ⟨e, r', hp, hΨ⟩ => by
    subst e
    exact ⟨[o, x, tab, r', bun [b1, b2]], fun hh => ((Holds.bun.1 (hh.perm hp)).perm (pick_perm [1, 1, 1, 1, 0] _ rfl)).perm (by simp), hN r' hΨ m w9⟩
end

set_option maxHeartbeats 4000000 in
theorem deduct_spec (t bX m ded total d : Nat) (M0 : UM) (T : List Nat) (r0 : Res) (w : World) (hm : m ≤ 12) (hr0 : TbR xU64 bX m T 0 M0 r0) (hsm : ∀ k ∈ keys M0, small k) (hd : ∀ k o, mget M0 k = some o → d ≤ o) (hdd : ded + d < 18446744073709551616) (hov : ∀ k o, mget M0 k = some o → o < 18446744073709551616)
    (ks : List ByteArray) (hks : ks.Perm (keys M0)) (hss : Srts ks)
    (hs : Holds w (bun [ftab t bX m ded total, r0]).foot [bun [ftab t bX m ded total, r0]] w) :
    ISpec Try.prog 38 [.pointer (some ⟨t, 0, .none⟩), .int .u64 (d : Int)] w (bun [ftab t bX m ded total, r0]).foot fun _ H1 =>
      ∃ r, H1.Perm [ftab t bX m (ded + d) total, r] ∧ TbR xU64 bX m T 0 (ks.foldl (dstep d) M0) r := by
  refine g_enter (n := 36) Try.func38 rfl rfl [(0, _), (1, _)] rfl ⟨rfl, rfl, trivial⟩ hs ?_
  refine g_seq ?_
  refine g_reg (noDefer_of rfl) ?_
  refine wl_e (e_box (cs := [_]) rfl rfl) ?_
  rintro _ _ w1 ⟨bt, rfl, rfl⟩
  refine wl_e (e_box (cs := [_]) rfl rfl) ?_
  rintro _ _ w2 ⟨bd, rfl, rfl⟩
  refine wl_end [(2, _), (3, _)] ⟨rfl, rfl, trivial⟩ ?_
  refine g_pick [2, 0, 0] rfl ?_
  refine g_unb [_, _] ?_
  refine g_seq ?_
  refine g_drawk [(0, true), (1, true), (2, true), (3, true), (4, true), (5, true), (6, true), (7, true), (8, false)] [(_, some 8), (_, none), (_, none), (_, none)] [] mixed (by kernel_rfl) rfl (by kernel_rfl) rfl rfl (perm_all _) (fun w3 => ?_)
  refine wk_f rfl (f_loadb 3 rfl Try.underlying24 rfl rfl rfl) ?_
  refine wk_f rfl (f_nilCheck rfl) ?_
  refine wk_f rfl (f_fieldAddr 2 rfl Try.underlying66 rfl rfl (by kernel_rfl)) ?_
  refine wk_f rfl (f_loadb 0 rfl Try.underlying33 rfl rfl rfl) ?_
  refine wk_f rfl (f_loadb 2 rfl Try.underlying33 rfl rfl rfl) ?_
  refine wk_f rfl (f_eqv (v' := .int .u64 ((ded + d : Nat) : Int)) (f_addu rfl rfl (by omega)) (by rw [Int.natCast_add])) ?_
  refine wk_f rfl (f_nilCheck rfl) ?_
  refine wk_f rfl (f_fieldAddr 2 rfl Try.underlying66 rfl rfl (by kernel_rfl)) ?_
  refine wk_e0 rfl (e_store0 (us := [_]) rfl rfl rfl (by kernel_rfl) (by simp [Value.oneCell']) rfl rfl) ?_
  rintro _ _ w4 rfl
  refine ⟨_, pick_perm [1, 1, 1] _ rfl, ?_⟩
  refine wk_end [(2, _), (3, _)] ⟨rfl, rfl, trivial⟩ ?_
  refine g_seq ?_
  refine g_reg (noDefer_of rfl) ?_
  refine wl_f (f_loadb 2 rfl Try.underlying24 rfl rfl rfl) ?_
  refine wl_e (e_call0 rfl Try.func37 (by kernel_rfl) (fun w hh => tracked_spec _ w)) ?_
  rintro _ _ w5 ⟨_, rfl, bx, rfl, rfl⟩
  refine wl_end [(2, _), (3, _), (15, _)] ⟨rfl, rfl, rfl, trivial⟩ ?_
  refine g_pick [2, 2, 0, 1, 0] rfl ?_
  refine g_bun (H := [_, _, _]) [_, _] ?_
  refine g_block ?_
  refine g_range [_, _, _, _] [] rfl Try.func51 (by kernel_rfl) (pick_perm [1, 1, 1, 0] _ rfl) ?_
  intro fn a l D w6 ha hh hself
  refine ISpec.mono (tracked1_spec l bx t bX m (ded + d) total _ r0 _ M0 ks T w6 (fun pre M r q => TbR xU64 bX m T 0 M r ∧ M = pre.foldl (dstep d) M0 ∧ q = bun [blk bd [.int .u64 (d : Int)] 33, blk bt [.pointer (some ⟨t, 0, .none⟩)] 24]) hm hks hss (fun k hk => hsm k (hks.mem_iff.1 hk)) (fun _ _ _ _ h => h.1) ⟨hr0, rfl, rfl⟩ ?_ hself) ?_
  · rintro pre k rest M r q w7 hke ⟨hX, hM, rfl⟩ hself2
    subst hM
    have hndk : ks.Nodup := hks.nodup_iff.2 hr0.nd
    have hkp : k ∉ pre := fun hk => by
      rw [hke] at hndk
      exact (List.nodup_append.1 hndk).2.2 k hk k (List.mem_cons_self ..) rfl
    have hkM : k ∈ keys M0 := hks.mem_iff.1 (by rw [hke]; simp)
    have hksm := hsm k hkM
    obtain ⟨ov, hov0⟩ := mem_keys.1 hkM
    have hg0 := mget_some hr0.nd hov0
    have hg : mget (pre.foldl (dstep d) M0) k = some ov := (dfold_ne pre M0 hkp).trans hg0
    have hdo := hd k ov hg0
    have hoo := hov k ov hg0
    have hkM2 := mget_key hg
    have hstep : (pre ++ [k]).foldl (dstep d) M0 = if ov = d then mdel (pre.foldl (dstep d) M0) k else (k, ov - d) :: mdel (pre.foldl (dstep d) M0) k := by
      rw [List.foldl_append, List.foldl_cons, List.foldl_nil]
      generalize pre.foldl (dstep d) M0 = M at hg ⊢
      rw [dstep, hg, Option.getD_some]
    rw [hg, Option.getD_some]
    generalize pre.foldl (dstep d) M0 = M at hX hg hkM2 hstep hself2 ⊢
    refine y_round (n := 36) ha rfl rfl hself2 ?_
    refine g_seq ?_
    refine g_reg (noDefer_of rfl) ?_
    refine wl_f (f_assign rfl) ?_
    refine wl_end [(2, _), (3, _), (4, _), (17, _)] ⟨rfl, rfl, rfl, rfl, trivial⟩ ?_
    refine g_reg (noDefer_of rfl) ?_
    refine wl_f (f_assign rfl) ?_
    refine wl_end [(2, _), (3, _), (4, _), (5, _)] ⟨rfl, rfl, rfl, rfl, trivial⟩ ?_
    refine ⟨rfl, _, List.Perm.refl _, fun w8 => ?_⟩
    refine g_pick [4, 0, 0, 0, 0] rfl ?_
    refine g_unb [_, _] ?_
    refine g_body (fun r' => TbR xU64 bX m T 0 ((pre ++ [k]).foldl (dstep d) M0) r') (fun r' hX' m w => ⟨rfl, _, List.Perm.refl _, rfl, _, r', _, List.Perm.refl _, hX', rfl, rfl⟩) ?_
    refine g_block ?_
    refine g_seq ?_
    refine g_reg (noDefer_of rfl) ?_
    refine wl_f (f_move rfl) ?_
    refine wl_f (f_loadb 0 rfl Try.underlying33 rfl rfl rfl) ?_
    refine wl_f (f_eql rfl rfl) ?_
    refine wl_end [(2, _), (3, _), (4, _), (5, _), (20, _)] ⟨rfl, rfl, rfl, rfl, rfl, trivial⟩ ?_
    refine g_ifd rfl (fun hc => ?_) (fun hc => ?_)
    · have hod : ov = d := by have hc : (ov : Int) = (d : Int) := hc; omega
      rw [if_pos hod] at hstep
      refine g_reg (noDefer_of rfl) ?_
      refine wl_f (f_loadb 1 rfl Try.underlying24 rfl rfl rfl) ?_
      refine wl_f (f_nilCheck rfl) ?_
      refine wl_f (f_fieldAddr 1 rfl Try.underlying66 rfl rfl (by kernel_rfl)) ?_
      refine wl_f (f_loadb 4 rfl Try.underlying61 rfl rfl rfl) ?_
      refine wl_f (f_move rfl) ?_
      refine wl_e (e_call1 r [_, _, _, _, _] rfl Try.func39 (by kernel_rfl) (pk1 5 rfl) (fun w hh hs' => uxdelete_spec bX m T 0 M r k w hksm hX hs')) ?_
      rintro _ _ w9 ⟨_, rfl, _, r', rfl, hX'⟩
      refine wl_end [] trivial ?_
      exact ⟨rfl, r', (pick_perm [1, 1, 1, 1, 1, 0] _ rfl).trans (by simp), by rw [hstep]; exact hX'⟩
    · have hod : ov ≠ d := fun e => hc (show (ov : Int) = (d : Int) by omega)
      rw [if_neg hod] at hstep
      refine g_draw [(0, true), (1, true), (2, true), (3, true), (4, true), (5, true), (6, true), (7, true), (8, false)] [_, _, _, _, _] [_] mixed (by kernel_rfl) rfl (by kernel_rfl) rfl (List.Perm.refl _) (fun w9 => ?_)
      refine wd_f rfl (f_loadb 1 rfl Try.underlying24 rfl rfl rfl) ?_
      refine wd_f rfl (f_nilCheck rfl) ?_
      refine wd_f rfl (f_fieldAddr 1 rfl Try.underlying66 rfl rfl (by kernel_rfl)) ?_
      refine wd_f rfl (f_loadb 4 rfl Try.underlying61 rfl rfl rfl) ?_
      refine wd_f rfl (f_move rfl) ?_
      refine wd_f rfl (f_move rfl) ?_
      refine wd_f rfl (f_loadb 0 rfl Try.underlying33 rfl rfl rfl) ?_
      refine wd_f rfl (f_eqv (v' := .int .u64 ((ov - d : Nat) : Int)) (f_subu rfl rfl (by omega)) (by congr 1; omega)) ?_
      refine wd_e rfl (e_call1 r [_, _, _, _, _] rfl Try.func36 (by kernel_rfl) (pk1 5 rfl) (fun w hh hs' => uxput_spec bX m T 0 M r k (ov - d) w hksm hX hs')) ?_
      rw [mput_over hkM2]
      rintro _ _ w10 ⟨_, rfl, _, r', rfl, hX'⟩
      refine ⟨_, List.perm_append_comm, ?_⟩
      refine wd_end [] trivial ?_
      exact ⟨rfl, r', List.Perm.refl _, by rw [hstep]; exact hX'⟩
  · rintro _ H1 ⟨M, r, q, hp, hX, rfl, rfl⟩
    refine ⟨_, hp, fun w' => ?_⟩
    exact ⟨_, [ftab t bX m (ded + d) total, r], _, fun a w2 ha hh => results_tmps Try.results38 rfl a ha _, .cons _ (.cons_cons _ (.cons_cons _ (List.nil_sublist _))), ⟨r, List.Perm.refl _, hX⟩, .inr ⟨D, rfl, by rw [List.append_nil]⟩⟩
end Go.Proofs.Ytkoklfagmbaapaa
