/- Orders by count: take. -/
import Derived.Test.YtbcfdgnpdaaleaaR5
namespace Go.Proofs.Ytbcfdgnpdaaleaa
open Go.RowKit

theorem build_place0 (w : World) : (Instr.build 102 #[]).run Try.prog w = .ok (.agg [.bool false, .int .i64 0, .int .i64 0].toArray) w := by kernel_rfl
theorem rem_len {l : Ord} {id : Int} (h : id ∈ ids l) : (rem l id).length + 1 = l.length := by
  induction l with
  | nil => simp [ids] at h
  | cons p l ih =>
    rw [rem]
    split
    · simp
    · rename_i hp
      simp only [ids, List.map_cons, List.mem_cons] at h
      have := ih (by rcases h with rfl | h; exact absurd rfl hp; exact h)
      rw [List.length_cons, List.length_cons]; omega

set_option maxHeartbeats 8000000 in
theorem rktake_spec (b n : Nat) (A : List Bk) (s : Bk) (C : List Bk) (I J : List (Nat × Int)) (y x : Nat) (r : Res) (w : World) (hsI : s.2.2.2 = I ++ (y, (x : Int)) :: J) (hr : RkR b n (A ++ s :: C) r) (hs : Holds w r.foot [r] w) :
    Spec Try.prog 41 [.pointer (some ⟨b, 0, .none⟩), .int .i64 (x : Int)] w r.foot fun v H => v = .tuple #[.int .u64 (s.2.1 : Int), .int .i64 (hdE (-1) (nodes (bks A)).reverse)] ∧
      ∃ C' r', H = [r'] ∧ RkR b n (A ++ C') r' ∧ flat (A ++ C') = rem (flat (A ++ s :: C)) (x : Int) := by
  obtain ⟨hn1, hn2, B, pV, pl, rB, rs, rfl, hrB, hrs, hI⟩ := id hr
  have hpl := hI.len
  have hxi : (x : Int) ∈ ids (flat (A ++ s :: C)) := ids_flat.2 ⟨s, by simp, y, by rw [hsI]; simp⟩
  have hx := hI.rng _ hxi
  replace hx : x < n := by omega
  have hat : pl[x]? = some (some (s.1, y)) := by
    have := hI.at_ s (by simp) (y, (x : Int)) (by rw [hsI]; simp)
    simpa using this
  obtain ⟨ra, rb, rfl, hra, hrb⟩ := hrs.split
  obtain ⟨ri, rc, rfl, hri, hrc⟩ := hrb.cons_inv
  have hrl := rem_len hxi
  obtain ⟨hrem, _⟩ := rem_take hI hsI
  have hln : (flat (A ++ s :: C)).length ≤ n := by
    have := range_len hI.nid hI.rng
    simpa [ids] using this
  have hrB2 : ChR kBuc B n (bks A ++ (s.1, s.2.1, some s.2.2.1) :: bks C) rB := by rw [bks_app, bks_cons] at hrB; exact hrB
  refine enter (n := 59) Try.func41 rfl rfl [(0, _), (1, _)] rfl ⟨rfl, rfl, trivial⟩ hs ?_
  refine w_with fun hh => ?_
  obtain ⟨g, cp, rfl⟩ := rowB_form hh (i := 0) (j := 1) rfl rfl (by omega)
  clear hh
  refine w_seq ?_
  refine w_reg ?_
  refine wl_f (f_assign rfl) ?_
  refine wl_f (f_assign rfl) ?_
  refine wl_end [(0, _), (1, _)] ⟨rfl, rfl, trivial⟩ ?_
  refine w_seq ?_
  refine w_reg ?_
  refine wl_f (f_move rfl) ?_
  refine wl_f (f_nilCheck rfl) ?_
  refine wl_f (f_fieldAddr 3 rfl Try.underlying92 rfl rfl (by kernel_rfl)) ?_
  refine wl_f (f_loadB 0 0 rfl rfl rfl Try.underlying90 rfl rfl) ?_
  refine wl_f (f_move rfl) ?_
  refine wl_f (f_indexAddr 3 (i := x) rfl rfl Try.underlying90 (by kernel_rfl) rfl hx) ?_
  refine wl_f (f_loadsBr (cs := pcell (some (s.1, y))) 0 1 rfl rfl rfl Try.underlying102 rfl (by kernel_rfl) (pcells_get hat)) ?_
  refine wl_e (e_allocs [.bool false, .int .i64 0, .int .i64 0] (by kernel_rfl)) ?_
  rintro _ _ w1_7 ⟨b1_7, rfl, rfl⟩
  (first | refine wl_e0 (e_store0 (us := [_, _, _]) rfl rfl rfl (by kernel_rfl) (by simp [Value.oneCell']) rfl rfl) ?_ | refine wl_e0 (e_store1 (us := [_, _, _]) rfl rfl rfl (by kernel_rfl) (by simp [Value.oneCell']) rfl rfl) ?_ | refine wl_e0 (e_store2 (us := [_, _, _]) rfl rfl rfl (by kernel_rfl) (by simp [Value.oneCell']) rfl rfl) ?_ | refine wl_e0 (e_store3 (us := [_, _, _]) rfl rfl rfl (by kernel_rfl) (by simp [Value.oneCell']) rfl rfl) ?_)
  rintro _ _ w1_8 rfl
  refine wl_end [(0, _), (1, _), (6, _)] ⟨rfl, rfl, rfl, trivial⟩ ?_
  refine w_seq ?_
  refine w_reg ?_
  refine wl_f (f_move rfl) ?_
  refine wl_f (f_fieldAddr 1 rfl Try.underlying102 rfl rfl (by kernel_rfl)) ?_
  (first | refine wl_f (f_loadb 0 rfl Try.underlying3 rfl rfl rfl) ?_ | refine wl_f (f_loadb 1 rfl Try.underlying3 rfl rfl rfl) ?_ | refine wl_f (f_loadb 2 rfl Try.underlying3 rfl rfl rfl) ?_ | refine wl_f (f_loadb 3 rfl Try.underlying3 rfl rfl rfl) ?_ | refine wl_f (f_loadb 4 rfl Try.underlying3 rfl rfl rfl) ?_ | refine wl_f (f_loadb 5 rfl Try.underlying3 rfl rfl rfl) ?_ | refine wl_f (f_loadb 6 rfl Try.underlying3 rfl rfl rfl) ?_)
  refine wl_e (e_call1 (bun (rkg b n _ B _ pl rB (ra ++ ri :: rc))) [_] rfl Try.func40 (by kernel_rfl) (pk1 1 rfl) (fun w hh hs' => rkofg_spec b n _ A s C B _ pl rB _ w hrB hs')) ?_
  rintro _ _ w2 ⟨_, rfl, rfl, rfl⟩
  refine wl_e (e_allocs [.int .u64 0, .pointer .none] (by kernel_rfl)) ?_
  rintro _ _ w2_4 ⟨b2_4, rfl, rfl⟩
  (first | refine wl_e0 (e_store0 (us := [_, _]) rfl rfl rfl (by kernel_rfl) (by simp [Value.oneCell']) rfl rfl) ?_ | refine wl_e0 (e_store1 (us := [_, _]) rfl rfl rfl (by kernel_rfl) (by simp [Value.oneCell']) rfl rfl) ?_ | refine wl_e0 (e_store2 (us := [_, _]) rfl rfl rfl (by kernel_rfl) (by simp [Value.oneCell']) rfl rfl) ?_ | refine wl_e0 (e_store3 (us := [_, _]) rfl rfl rfl (by kernel_rfl) (by simp [Value.oneCell']) rfl rfl) ?_)
  rintro _ _ w2_5 rfl
  refine wl_end [(0, _), (1, _), (6, _), (7, _)] ⟨rfl, rfl, rfl, rfl, trivial⟩ ?_
  refine w_seq ?_
  refine w_pick [1, 0, 0] rfl ?_
  refine w_unb (rkg b n _ B _ pl rB (ra ++ ri :: rc)) ?_
  refine w_pick [0, 0, 1, 1, 1, 0] rfl ?_
  refine w_draw [(0, true), (1, true), (2, true), (3, true), (4, true), (5, true), (6, false), (7, true)] ([_, _, _, _, _]) ([_]) mixed (by kernel_rfl) (by kernel_rfl) rfl (List.Perm.refl _) (fun w3_ => ?_)
  refine wd_f rfl (f_move rfl) ?_
  refine wd_f rfl (f_nilCheck rfl) ?_
  refine wd_f rfl (f_fieldAddr 2 rfl Try.underlying92 rfl rfl (by kernel_rfl)) ?_
  (first | refine wd_f rfl (f_loadb 0 rfl Try.underlying84 rfl rfl rfl) ?_ | refine wd_f rfl (f_loadb 1 rfl Try.underlying84 rfl rfl rfl) ?_ | refine wd_f rfl (f_loadb 2 rfl Try.underlying84 rfl rfl rfl) ?_ | refine wd_f rfl (f_loadb 3 rfl Try.underlying84 rfl rfl rfl) ?_ | refine wd_f rfl (f_loadb 4 rfl Try.underlying84 rfl rfl rfl) ?_ | refine wd_f rfl (f_loadb 5 rfl Try.underlying84 rfl rfl rfl) ?_ | refine wd_f rfl (f_loadb 6 rfl Try.underlying84 rfl rfl rfl) ?_)
  refine wd_f rfl (f_fieldAddr 1 rfl Try.underlying102 rfl rfl (by kernel_rfl)) ?_
  (first | refine wd_f rfl (f_loadb 0 rfl Try.underlying3 rfl rfl rfl) ?_ | refine wd_f rfl (f_loadb 1 rfl Try.underlying3 rfl rfl rfl) ?_ | refine wd_f rfl (f_loadb 2 rfl Try.underlying3 rfl rfl rfl) ?_ | refine wd_f rfl (f_loadb 3 rfl Try.underlying3 rfl rfl rfl) ?_ | refine wd_f rfl (f_loadb 4 rfl Try.underlying3 rfl rfl rfl) ?_ | refine wd_f rfl (f_loadb 5 rfl Try.underlying3 rfl rfl rfl) ?_ | refine wd_f rfl (f_loadb 6 rfl Try.underlying3 rfl rfl rfl) ?_)
  refine wd_e rfl (e_call1 rB [_, _, _, _, _] rfl Try.func53 (by kernel_rfl) (pk1 5 rfl) (fun w hh hs' => bprev_spec B n _ rB s.1 w hrB2 hs')) ?_
  rintro _ _ w3 ⟨_, rfl, rfl, z, rfl, _, hz⟩
  obtain rfl := hz (bks A) s.1 _ (bks C) rfl rfl
  refine ⟨_, List.perm_append_comm, ?_⟩
  refine wd_f rfl (f_assign rfl) ?_
  refine wd_end [(0, _), (1, _), (5, _), (6, _), (7, _)] ⟨rfl, rfl, rfl, rfl, rfl, trivial⟩ ?_
  refine w_seq ?_
  refine w_pick [2, 0, 0, 0, 0, 0] rfl ?_
  refine w_mid ?_
  refine w_reg ?_
  refine wl_f (f_fieldAddr 1 rfl Try.underlying89 rfl rfl (by kernel_rfl)) ?_
  (first | refine wl_f (f_loadb 0 rfl Try.underlying87 rfl rfl rfl) ?_ | refine wl_f (f_loadb 1 rfl Try.underlying87 rfl rfl rfl) ?_ | refine wl_f (f_loadb 2 rfl Try.underlying87 rfl rfl rfl) ?_ | refine wl_f (f_loadb 3 rfl Try.underlying87 rfl rfl rfl) ?_ | refine wl_f (f_loadb 4 rfl Try.underlying87 rfl rfl rfl) ?_ | refine wl_f (f_loadb 5 rfl Try.underlying87 rfl rfl rfl) ?_ | refine wl_f (f_loadb 6 rfl Try.underlying87 rfl rfl rfl) ?_)
  refine wl_f (f_fieldAddr 2 rfl Try.underlying102 rfl rfl (by kernel_rfl)) ?_
  (first | refine wl_f (f_loadb 0 rfl Try.underlying3 rfl rfl rfl) ?_ | refine wl_f (f_loadb 1 rfl Try.underlying3 rfl rfl rfl) ?_ | refine wl_f (f_loadb 2 rfl Try.underlying3 rfl rfl rfl) ?_ | refine wl_f (f_loadb 3 rfl Try.underlying3 rfl rfl rfl) ?_ | refine wl_f (f_loadb 4 rfl Try.underlying3 rfl rfl rfl) ?_ | refine wl_f (f_loadb 5 rfl Try.underlying3 rfl rfl rfl) ?_ | refine wl_f (f_loadb 6 rfl Try.underlying3 rfl rfl rfl) ?_)
  refine wl_e (e_call1 ri [_, _, _, _, _, _] rfl Try.func54 (by kernel_rfl) (pk1 0 rfl) (fun w hh hs' => iRemove_spec s.2.2.1 n (I ++ (y, (x : Int)) :: J) y ri w hn2 (hsI ▸ hri) hs')) ?_
  rintro _ _ w4 ⟨_, rfl, hG⟩
  obtain ⟨ri2, rfl, rfl, hri2⟩ := RemG.ok hG (ChR.nd (hsI ▸ hri))
  refine wl_end [(0, _), (1, _), (5, _), (6, _), (7, _)] ⟨rfl, rfl, rfl, rfl, rfl, trivial⟩ ?_
  refine w_seq ?_
  refine w_seq ?_
  refine w_reg ?_
  refine wl_f (f_fieldAddr 1 rfl Try.underlying89 rfl rfl (by kernel_rfl)) ?_
  (first | refine wl_f (f_loadb 0 rfl Try.underlying87 rfl rfl rfl) ?_ | refine wl_f (f_loadb 1 rfl Try.underlying87 rfl rfl rfl) ?_ | refine wl_f (f_loadb 2 rfl Try.underlying87 rfl rfl rfl) ?_ | refine wl_f (f_loadb 3 rfl Try.underlying87 rfl rfl rfl) ?_ | refine wl_f (f_loadb 4 rfl Try.underlying87 rfl rfl rfl) ?_ | refine wl_f (f_loadb 5 rfl Try.underlying87 rfl rfl rfl) ?_ | refine wl_f (f_loadb 6 rfl Try.underlying87 rfl rfl rfl) ?_)
  refine wl_e (e_call1 ri2 [_, _, _, _, _, _] rfl Try.func55 (by kernel_rfl) (pk1 0 rfl) (fun w hh hs' => ilen_spec s.2.2.1 n (I ++ J) ri2 w hri2 hs')) ?_
  rintro _ _ w5 ⟨_, rfl, rfl, rfl⟩
  refine wl_f (f_eql rfl rfl) ?_
  refine wl_end [(0, _), (1, _), (5, _), (6, _), (7, _), (34, _)] ⟨rfl, rfl, rfl, rfl, rfl, rfl, trivial⟩ ?_
  refine w_post (fun m H w' => ∃ (C' : List Bk) (rs2 : List Res) (rB2 : Res), m = [(0, .pointer (some ⟨b, 0, .none⟩)), (1, .int .i64 x), (5, .int .i64 (hdE (-1) (nodes (bks A)).reverse)), (7, .pointer (some ⟨b2_4, 0, .none⟩))] ∧
    H = [blk b [.int .i64 (n : Int), .int .i64 ((flat (A ++ s :: C)).length : Int), .pointer (some ⟨B, 0, .none⟩), .slice (some ⟨g, 0, .none⟩) n cp] 92, row (.slice (some ⟨g, 0, .none⟩) n cp) 102 3 n (pcells pl), bun rs2, rB2,
      blk b2_4 [.int .u64 (s.2.1 : Int), .pointer (some ⟨s.2.2.1, 0, .none⟩)] 89] ∧
    ChR kBuc B n (bks (A ++ C')) rB2 ∧ IdsR n (A ++ C') rs2 ∧ RInv n (A ++ C') (pl.set x none) ∧ flat (A ++ C') = rem (flat (A ++ s :: C)) (x : Int)) ?_ ?_
  · skip
    refine w_ifd rfl (fun hc1 => ?_) (fun hc1 => ?_)
    · skip
      have hIJ : I ++ J = [] := by
        have : ((I ++ J).length : Int) = 0 := hc1
        exact List.length_eq_zero_iff.1 (by omega)
      obtain ⟨rfl, rfl⟩ := List.append_eq_nil_iff.1 hIJ
      refine w_draw [(0, true), (1, true), (2, true), (3, true), (4, true), (5, true), (6, false)] ([_, _, _, _, _, _]) ([_]) mixed (by kernel_rfl) (by kernel_rfl) rfl (List.Perm.refl _) (fun w6_ => ?_)
      refine wd_f rfl (f_move rfl) ?_
      refine wd_f rfl (f_nilCheck rfl) ?_
      refine wd_f rfl (f_fieldAddr 2 rfl Try.underlying92 rfl rfl (by kernel_rfl)) ?_
      (first | refine wd_f rfl (f_loadb 0 rfl Try.underlying84 rfl rfl rfl) ?_ | refine wd_f rfl (f_loadb 1 rfl Try.underlying84 rfl rfl rfl) ?_ | refine wd_f rfl (f_loadb 2 rfl Try.underlying84 rfl rfl rfl) ?_ | refine wd_f rfl (f_loadb 3 rfl Try.underlying84 rfl rfl rfl) ?_ | refine wd_f rfl (f_loadb 4 rfl Try.underlying84 rfl rfl rfl) ?_ | refine wd_f rfl (f_loadb 5 rfl Try.underlying84 rfl rfl rfl) ?_ | refine wd_f rfl (f_loadb 6 rfl Try.underlying84 rfl rfl rfl) ?_)
      refine wd_f rfl (f_fieldAddr 1 rfl Try.underlying102 rfl rfl (by kernel_rfl)) ?_
      (first | refine wd_f rfl (f_loadb 0 rfl Try.underlying3 rfl rfl rfl) ?_ | refine wd_f rfl (f_loadb 1 rfl Try.underlying3 rfl rfl rfl) ?_ | refine wd_f rfl (f_loadb 2 rfl Try.underlying3 rfl rfl rfl) ?_ | refine wd_f rfl (f_loadb 3 rfl Try.underlying3 rfl rfl rfl) ?_ | refine wd_f rfl (f_loadb 4 rfl Try.underlying3 rfl rfl rfl) ?_ | refine wd_f rfl (f_loadb 5 rfl Try.underlying3 rfl rfl rfl) ?_ | refine wd_f rfl (f_loadb 6 rfl Try.underlying3 rfl rfl rfl) ?_)
      refine wd_e rfl (e_call1 rB [_, _, _, _, _, _] rfl Try.func56 (by kernel_rfl) (pk1 6 rfl) (fun w hh hs' => bRemove_spec B n _ s.1 rB w hn2 hrB2 hs')) ?_
      rintro _ _ w6 ⟨_, rfl, hG2⟩
      obtain ⟨rB3, rfl, rfl, hrB3⟩ := RemG.ok hG2 hrB2.nd
      refine ⟨_, List.perm_append_comm, ?_⟩
      refine wd_endp [(0, _), (1, _), (5, _), (7, _)] [2, 2, 1, 3, 1] ⟨rfl, rfl, rfl, rfl, trivial⟩ rfl ?_
      exact ⟨C, ra ++ rc, rB3, rfl, rfl, by rw [bks_app]; exact hrB3, hra.join hrc, hI.gone hsI, by rw [hrem, flat_gone]⟩
    · skip
      have hIJ : I ++ J ≠ [] := fun h => hc1 (by rw [h]; rfl)
      refine w_amid ?_
      refine w_pick [1, 1, 0, 2, 0] rfl ?_
      refine w_sub [(0, _), (1, _), (5, _), (7, _)] ⟨rfl, rfl, rfl, rfl, trivial⟩ (w_skip ?_)
      exact ⟨btake s I J :: C, ra ++ ri2 :: rc, rB, rfl, rfl, by rw [bks_app, bks_cons]; exact hrB2, hra.join ⟨hri2, hrc⟩, hI.take hsI hIJ, hrem.symm⟩
  · rintro _ _ w7 ⟨C', rs2, rB3, rfl, rfl, hrB3, hrs2, hI3, hfl3⟩
    refine w_seq ?_
    refine w_reg ?_
    refine wl_f (f_move rfl) ?_
    refine wl_f (f_nilCheck rfl) ?_
    refine wl_f (f_fieldAddr 3 rfl Try.underlying92 rfl rfl (by kernel_rfl)) ?_
    (first | refine wl_f (f_loadb 0 rfl Try.underlying90 rfl rfl rfl) ?_ | refine wl_f (f_loadb 1 rfl Try.underlying90 rfl rfl rfl) ?_ | refine wl_f (f_loadb 2 rfl Try.underlying90 rfl rfl rfl) ?_ | refine wl_f (f_loadb 3 rfl Try.underlying90 rfl rfl rfl) ?_ | refine wl_f (f_loadb 4 rfl Try.underlying90 rfl rfl rfl) ?_ | refine wl_f (f_loadb 5 rfl Try.underlying90 rfl rfl rfl) ?_ | refine wl_f (f_loadb 6 rfl Try.underlying90 rfl rfl rfl) ?_)
    refine wl_f (f_move rfl) ?_
    refine wl_f (f_build rfl build_place0) ?_
    refine wl_f (f_indexAddr 3 (i := x) rfl rfl Try.underlying90 (by kernel_rfl) rfl hx) ?_
    refine wl_e0 (e_storerN 1 (us := pcell none) (xs' := pcells (pl.set x none)) rfl rfl rfl rfl (by kernel_rfl) (by simp [pcell, Value.oneCell']) (by rw [pcells_len]; show 0 + x * 3 + 3 ≤ _; omega) (pcells_set _ (by omega))) ?_
    rintro _ _ w7_7 rfl
    refine wl_end [(0, _), (5, _), (7, _)] ⟨rfl, rfl, rfl, trivial⟩ ?_
    refine w_seq ?_
    refine w_reg ?_
    refine wl_f (f_move rfl) ?_
    refine wl_f (f_nilCheck rfl) ?_
    refine wl_f (f_fieldAddr 1 rfl Try.underlying92 rfl rfl (by kernel_rfl)) ?_
    (first | refine wl_f (f_loadb 0 rfl Try.underlying3 rfl rfl rfl) ?_ | refine wl_f (f_loadb 1 rfl Try.underlying3 rfl rfl rfl) ?_ | refine wl_f (f_loadb 2 rfl Try.underlying3 rfl rfl rfl) ?_ | refine wl_f (f_loadb 3 rfl Try.underlying3 rfl rfl rfl) ?_ | refine wl_f (f_loadb 4 rfl Try.underlying3 rfl rfl rfl) ?_ | refine wl_f (f_loadb 5 rfl Try.underlying3 rfl rfl rfl) ?_ | refine wl_f (f_loadb 6 rfl Try.underlying3 rfl rfl rfl) ?_)
    refine wl_f (f_sub rfl rfl (by omega)) ?_
    refine wl_f (f_nilCheck rfl) ?_
    refine wl_f (f_fieldAddr 1 rfl Try.underlying92 rfl rfl (by kernel_rfl)) ?_
    (first | refine wl_e0 (e_store0 (us := [_]) rfl rfl rfl (by kernel_rfl) (by simp [Value.oneCell']) rfl rfl) ?_ | refine wl_e0 (e_store1 (us := [_]) rfl rfl rfl (by kernel_rfl) (by simp [Value.oneCell']) rfl rfl) ?_ | refine wl_e0 (e_store2 (us := [_]) rfl rfl rfl (by kernel_rfl) (by simp [Value.oneCell']) rfl rfl) ?_ | refine wl_e0 (e_store3 (us := [_]) rfl rfl rfl (by kernel_rfl) (by simp [Value.oneCell']) rfl rfl) ?_)
    rintro _ _ w8_7 rfl
    refine wl_end [(5, _), (7, _)] ⟨rfl, rfl, trivial⟩ ?_
    refine w_seq ?_
    refine w_reg ?_
    refine wl_f (f_fieldAddr 0 rfl Try.underlying89 rfl rfl (by kernel_rfl)) ?_
    (first | refine wl_f (f_loadb 0 rfl Try.underlying30 rfl rfl rfl) ?_ | refine wl_f (f_loadb 1 rfl Try.underlying30 rfl rfl rfl) ?_ | refine wl_f (f_loadb 2 rfl Try.underlying30 rfl rfl rfl) ?_ | refine wl_f (f_loadb 3 rfl Try.underlying30 rfl rfl rfl) ?_ | refine wl_f (f_loadb 4 rfl Try.underlying30 rfl rfl rfl) ?_ | refine wl_f (f_loadb 5 rfl Try.underlying30 rfl rfl rfl) ?_ | refine wl_f (f_loadb 6 rfl Try.underlying30 rfl rfl rfl) ?_)
    refine wl_f (f_move rfl) ?_
    refine wl_f (f_assign rfl) ?_
    refine wl_f (f_assign rfl) ?_
    refine wl_end [(4, _), (5, _)] ⟨rfl, rfl, trivial⟩ ?_
    refine w_pick [0, 0, 1, 0] rfl ?_
    refine w_bun (H := []) [_, _, _, _] ?_
    refine w_ret ?_
    refine ⟨_, _, fun a ha hh => results_tmps Try.results41 rfl a ha _, List.Sublist.refl _, ?_⟩
    refine ⟨rfl, C', _, rfl, ⟨hn1, hn2, B, .slice (some ⟨g, 0, .none⟩) n cp, _, rB3, rs2, ?_, hrB3, hrs2, hI3⟩, hfl3⟩
    rw [rks, hfl3, rkg, show (((rem (flat (A ++ s :: C)) (x : Int)).length : Nat) : Int) = ((flat (A ++ s :: C)).length : Int) - 1 by omega]
    rfl
end Go.Proofs.Ytbcfdgnpdaaleaa
