/- Tables by the method of Misra and Gries: what ranges over the tracked keys. -/
import Derived.Test.YtkoklfagmbaapaaI8
import Derived.Test.YtkoklfagmbaapaaK15
namespace Go.Proofs.Ytkoklfagmbaapaa
open Go.RowKit

theorem tracked_spec (p : Option Addr) (w : World) : Spec Try.prog 37 [.pointer p] w Nil fun v H => ∃ b, v = .func (.func 51) #[] #[.pointer (some ⟨b, 0, .none⟩)] ∧ H = [blk b [.pointer p] 24] := by
  refine enter (n := 4) Try.func37 rfl rfl [(0, _)] rfl ⟨rfl, trivial⟩ (Holds.start _ _) ?_
  refine w_seq ?_
  refine w_reg ?_
  refine wl_e (e_box (cs := [_]) rfl rfl) ?_
  rintro _ _ w0_0 ⟨b0_0, rfl, rfl⟩
  refine wl_f (f_assign rfl) ?_
  refine wl_end [(1, _)] ⟨rfl, trivial⟩ ?_
  refine w_seq ?_
  refine w_reg ?_
  refine wl_f (f_makeFunc (fs := []) (cs := [_]) rfl rfl) ?_
  refine wl_f (f_assign rfl) ?_
  refine wl_end [(2, _)] ⟨rfl, trivial⟩ ?_
  refine w_ret ?_
  refine ⟨_, _, fun a ha hh => results_tmps Try.results37 rfl a ha _, List.Sublist.refl _, ?_⟩
  exact ⟨_, rfl, rfl⟩

/-- The cells of a table. -/
def ftab (t bX m ded total : Nat) : Res := blk t [.int .i64 (m : Int), .pointer (some ⟨bX, 0, .none⟩), .int .u64 (ded : Int), .int .u64 (total : Int)] 66
abbrev UM := List (ByteArray × Nat)

set_option maxHeartbeats 4000000 in
/-- The iterator: it hands its caller's body each key, in ascending order, with what the table then has for it. -/
theorem tracked1_spec (l bx t bX m ded total : Nat) (o r0 q0 : Res) (M0 : UM) (ks : List ByteArray) (T : List Nat) (w : World) (S : List ByteArray → UM → Res → Res → Prop) (hm : m ≤ 12)
    (hks : ks.Perm (keys M0)) (hss : Srts ks) (hsm : ∀ k ∈ ks, small k) (hS : ∀ pre M r q, S pre M r q → TbR xU64 bX m T 0 M r) (h0 : S [] M0 r0 q0)
    (hY : ∀ (pre : List ByteArray) (k : ByteArray) (rest : List ByteArray) (M : UM) (r q : Res) (w' : World), ks = pre ++ k :: rest → S pre M r q →
      Holds w' (feet [o, blk bx [.pointer (some ⟨t, 0, .none⟩)] 24, ftab t bX m ded total, r, q]) [o, blk bx [.pointer (some ⟨t, 0, .none⟩)] 24, ftab t bX m ded total, r, q] w' →
      YSpec Try.prog l [.string k, .int .u64 (((mget M k).getD 0 : Nat) : Int)] w' (feet [o, blk bx [.pointer (some ⟨t, 0, .none⟩)] 24, ftab t bX m ded total, r, q]) fun v H1 =>
        v = .bool true ∧ ∃ M' r' q', H1.Perm [o, blk bx [.pointer (some ⟨t, 0, .none⟩)] 24, ftab t bX m ded total, r', q'] ∧ S (pre ++ [k]) M' r' q')
    (hs : Holds w (feet [o, blk bx [.pointer (some ⟨t, 0, .none⟩)] 24, ftab t bX m ded total, r0, q0]) [o, blk bx [.pointer (some ⟨t, 0, .none⟩)] 24, ftab t bX m ded total, r0, q0] w) :
    ISpec Try.prog 51 [.func (.yield l) #[] #[], .pointer (some ⟨bx, 0, .none⟩)] w (feet [o, blk bx [.pointer (some ⟨t, 0, .none⟩)] 24, ftab t bX m ded total, r0, q0]) fun _ H1 =>
      ∃ M r q, H1.Perm [o, blk bx [.pointer (some ⟨t, 0, .none⟩)] 24, ftab t bX m ded total, r, q] ∧ S ks M r q := by
  have hX0 := hS _ _ _ _ h0
  have hM0 := hX0.len
  refine g_enter (n := 32) Try.func51 rfl rfl [(0, _), (1, _)] rfl ⟨rfl, rfl, trivial⟩ hs ?_
  refine g_seq ?_
  refine g_reg (noDefer_of rfl) ?_
  refine wl_f (f_loadb 1 rfl Try.underlying24 rfl rfl rfl) ?_
  refine wl_f (f_nilCheck rfl) ?_
  refine wl_f (f_fieldAddr 1 rfl Try.underlying66 rfl rfl (by kernel_rfl)) ?_
  refine wl_f (f_loadb 2 rfl Try.underlying61 rfl rfl rfl) ?_
  refine wl_e (e_call1 r0 [_, _, _, _] rfl Try.func52 (by kernel_rfl) (pk1 3 rfl) (fun w hh hs' => ukeys_spec bX m T 0 M0 r0 w hm hX0 hs')) ?_
  rintro vk _ w1 ⟨_, rfl, ks', rfl, hkp, hks'⟩
  obtain rfl := srts_unique hks' hss (hkp.trans hks.symm)
  refine wl_with fun hh => ?_
  obtain ⟨Ak, ck, rfl⟩ := row_slice hh (i := 0) rfl
  clear hh
  have hkl : ks'.length = M0.length := by rw [hkp.length_eq, keys, List.length_map]
  refine wl_f (f_len rfl Try.underlying30) ?_
  refine wl_f (f_move rfl) ?_
  refine wl_pick [2, 2, 2, 1, 1, 0] rfl ?_
  refine wl_end [(0, _), (1, _), (11, _), (12, _), (13, _)] ⟨rfl, rfl, rfl, rfl, rfl, trivial⟩ ?_
  refine g_block ?_
  refine g_loop (fun kk ds m' H w' => ds = [] ∧ ∃ (pre rest : List ByteArray) (M : UM) (r q : Res), m' = [(0, .func (.yield l) #[] #[]), (1, .pointer (some ⟨bx, 0, .none⟩)), (11, .slice Ak ks'.length ck), (12, .int .i64 ks'.length), (13, .int .i64 pre.length)] ∧
    H = [o, blk bx [.pointer (some ⟨t, 0, .none⟩)] 24, ftab t bX m ded total, r, q, row (.slice Ak ks'.length ck) 9 1 ks'.length (sv ks')] ∧ ks' = pre ++ rest ∧ kk = rest.length ∧ S pre M r q) ks'.length ⟨rfl, [], ks', M0, r0, q0, rfl, rfl, rfl, rfl, h0⟩ ?_
  rintro kk _ _ _ w2 ⟨rfl, pre, rest, M, r, q, rfl, rfl, hke, rfl, hSp⟩
  have hkel : ks'.length = pre.length + rest.length := by rw [hke]; simp
  have hX := hS _ _ _ _ hSp
  refine g_seq ?_
  refine g_reg (noDefer_of rfl) ?_
  refine wl_f (f_lss rfl rfl) ?_
  refine wl_end [(0, _), (1, _), (11, _), (12, _), (13, _), (14, _)] ⟨rfl, rfl, rfl, rfl, rfl, rfl, trivial⟩ ?_
  refine g_seq ?_
  refine g_ifd rfl (fun hc => ?_) (fun hc => ?_)
  · refine g_skip ?_
    have hc' : (pre.length : Int) < (ks'.length : Int) := hc
    obtain ⟨k, rest2, rfl⟩ : ∃ k rest2, rest = k :: rest2 := by
      cases rest with
      | nil => simp at hkel; omega
      | cons k rest2 => exact ⟨k, rest2, rfl⟩
    rw [List.length_cons] at hkel
    have hkk : ks'[pre.length]? = some k := by rw [hke]; simp
    have hksm := hsm k (List.mem_of_getElem? hkk)
    refine g_seq ?_
    refine g_block ?_
    refine g_seq ?_
    refine g_with fun hh => ?_
    obtain ⟨gk, ck2, e⟩ := row_form hh (i := 5) rfl (by omega)
    cases e
    clear hh
    refine g_reg (noDefer_of rfl) ?_
    refine wl_f (f_indexAddr 1 (i := pre.length) rfl rfl Try.underlying30 (by kernel_rfl) rfl (by omega)) ?_
    refine wl_f (f_loadr (v := .string k) 5 rfl Try.underlying9 rfl rfl (map_get Value.string hkk)) ?_
    refine wl_f (f_assign rfl) ?_
    refine wl_end [(0, _), (1, _), (4, _), (11, _), (12, _), (13, _)] ⟨rfl, rfl, rfl, rfl, rfl, rfl, trivial⟩ ?_
    refine g_seq ?_
    refine g_reg (noDefer_of rfl) ?_
    refine wl_f (f_loadb 1 rfl Try.underlying24 rfl rfl rfl) ?_
    refine wl_f (f_nilCheck rfl) ?_
    refine wl_f (f_fieldAddr 1 rfl Try.underlying66 rfl rfl (by kernel_rfl)) ?_
    refine wl_f (f_loadb 2 rfl Try.underlying61 rfl rfl rfl) ?_
    refine wl_f (f_move rfl) ?_
    refine wl_e (e_call1 r [_, _, _, _, _] rfl Try.func34 (by kernel_rfl) (pk1 3 rfl) (fun w hh hs' => uxget_spec bX m T 0 M r k w hksm hX hs')) ?_
    rintro _ _ w3 ⟨_, rfl, rfl, rfl⟩
    refine wl_f (f_move rfl) ?_
    refine wl_f (f_extract rfl rfl) ?_
    refine wl_f (f_extract rfl rfl) ?_
    refine wl_f (f_assign rfl) ?_
    refine wl_f (f_assign rfl) ?_
    refine wl_pick [1, 1, 1, 0, 0, 0] rfl ?_
    refine wl_end [(0, _), (1, _), (4, _), (5, _), (11, _), (12, _), (13, _)] ⟨rfl, rfl, rfl, rfl, rfl, rfl, rfl, trivial⟩ ?_
    refine g_seq ?_
    refine g_regl ?_
    refine gl_f (by simp) (f_move rfl) ?_
    refine gl_f (by simp) (f_move rfl) ?_
    refine gl_f (by simp) (f_move rfl) ?_
    refine gl_yield [o, blk bx [.pointer (some ⟨t, 0, .none⟩)] 24, ftab t bX m ded total, r, q] [_] rfl rfl (List.Perm.refl _) (fun _ hself => hY pre k rest2 M r q _ hke hSp hself) ?_
    rintro v H1 w4 ⟨rfl, M', r', q', hp, hS'⟩
    refine gl_perm _ (hp.append_right _) ?_
    refine gl_f (by simp) (f_not rfl rfl) ?_
    refine gl_end [(0, _), (1, _), (11, _), (12, _), (13, _), (30, _)] ⟨rfl, rfl, rfl, rfl, rfl, rfl, trivial⟩ ?_
    refine g_if (b := false) rfl (fun h => by cases h) (fun _ => ?_)
    refine g_skip ?_
    refine g_reg (noDefer_of rfl) ?_
    refine wl_f (f_add rfl rfl (by omega)) ?_
    refine wl_f (f_move rfl) ?_
    refine wl_end [(0, _), (1, _), (11, _), (12, _), (13, _)] ⟨rfl, rfl, rfl, rfl, rfl, trivial⟩ ?_
    refine ⟨rest2.length, Nat.lt_succ_self _, rfl, pre ++ [k], rest2, M', r', q', ?_, rfl, by rw [hke]; simp, rfl, hS'⟩
    rw [show ((pre ++ [k]).length : Int) = (pre.length : Int) + 1 by simp]
  · have hc' : ¬ (pre.length : Int) < (ks'.length : Int) := hc
    obtain rfl : rest = [] := by
      cases rest with
      | nil => rfl
      | cons k rest2 => rw [List.length_cons] at hkel; omega
    rw [List.append_nil] at hke
    refine g_exit0 ?_
    refine ⟨_, [o, blk bx [.pointer (some ⟨t, 0, .none⟩)] 24, ftab t bX m ded total, r, q], _, fun a w2 ha hh => results_tmps Try.results51 rfl a ha _, List.sublist_append_left _ [_], ⟨M, r, q, List.Perm.refl _, by rw [hke]; exact hSp⟩, .inl ⟨rfl, rfl⟩⟩
end Go.Proofs.Ytkoklfagmbaapaa
