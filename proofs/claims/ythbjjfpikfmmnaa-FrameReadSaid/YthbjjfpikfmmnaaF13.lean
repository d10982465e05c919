/- The law FrameRead: the call returns true. -/
import Derived.Test.YthbjjfpikfmmnaaF8
namespace Go.Proofs.Ythbjjfpikfmmnaa
open Go.RowKit

theorem lit_fl5 (A1 A2 A3 A4 A5 : Option Addr) (l1 l2 l3 l4 l5 c1 c2 c3 c4 c5 : Nat) (w : World) :
    (Instr.buildSlice 32 5 [(0, .slice A1 l1 c1), (1, .slice A2 l2 c2), (2, .slice A3 l3 c3), (3, .slice A4 l4 c4), (4, .slice A5 l5 c5)].toArray).run Try.prog w =
      .ok (.slice (some ⟨w.heap.size, 0, .none⟩) 5 5) (w.alloc (.cells [.slice A1 l1 c1, .slice A2 l2 c2, .slice A3 l3 c3, .slice A4 l4 c4, .slice A5 l5 c5].toArray 22)) := by kernel_rfl
theorem lit_i3 (a b c : Int) (w : World) : (Instr.buildSlice 23 3 [(0, .int .i64 a), (1, .int .i64 b), (2, .int .i64 c)].toArray).run Try.prog w =
      .ok (.slice (some ⟨w.heap.size, 0, .none⟩) 3 3) (w.alloc (.cells [.int .i64 a, .int .i64 b, .int .i64 c].toArray 3)) := by kernel_rfl
theorem inpsF_len (most : Int) : ∀ (n : Nat) (rest : List Nat), (inpsF most n rest).1.length ≤ n
  | 0, rest => by simp [inpsF]
  | n + 1, rest => by
    rw [inpsF]
    split
    · simp
    · have := inpsF_len most n (rest.drop (decF rest).1.2.2.2)
      simp only [List.length_cons]
      omega
theorem readF_len (body : List Nat) (most : Int) : (readF body most).length ≤ 140737488355328 := by
  have h := inpsF_len most (readL body).1 (body.drop (readL body).2.1)
  unfold readF
  dsimp only
  split
  · simp
  split
  · split
    · omega
    · rw [List.length_append]; simp; omega
  · rw [List.length_append, List.length_replicate]; omega

set_option maxHeartbeats 4000000 in
theorem frameRead_spec (A : Option Addr) (c : Nat) (raw : List Nat) (D : Option Addr) (dc : Nat) (L : List Int) (at_ : Int) (k : Nat) (most : Int) (w : World) (hraw : Rd w Nil 1 (.slice A raw.length c) raw.length (bv raw)) (hrn : raw.length ≤ 140737488355328) (hrb : ∀ b ∈ raw, b < 256)
    (hd : Rd w Nil 1 (.slice D L.length dc) L.length (iv L)) (hL : L.length ≤ 140737488355328) (hk : k < 256) :
    Spec Try.prog 3 [.slice A raw.length c, .slice D L.length dc, .int .i64 at_, .int .u8 k, .int .i64 most] w Nil fun r _ => r = .bool true := by
  refine enter (n := 89) Try.func3 rfl rfl [(0, _), (1, _), (2, _), (3, _), (4, _)] rfl ⟨rfl, rfl, rfl, rfl, rfl, trivial⟩ (Holds.start _ _) ?_
  refine w_seq ?_
  refine w_reg ?_
  refine wl_f (f_assign rfl) ?_
  refine wl_end [(0, _), (1, _), (2, _), (3, _), (4, _)] ⟨rfl, rfl, rfl, rfl, rfl, trivial⟩ ?_
  refine w_seq ?_
  refine w_seq ?_
  refine w_reg ?_
  refine wl_f (f_move rfl) ?_
  refine wl_f (f_len rfl Try.underlying22) ?_
  refine wl_f (f_gtr rfl rfl) ?_
  refine wl_end [(0, _), (1, _), (2, _), (3, _), (4, _), (20, _)] ⟨rfl, rfl, rfl, rfl, rfl, rfl, trivial⟩ ?_
  refine w_ifd rfl (fun hc1 => ?_) (fun hc1 => ?_)
  · skip
    refine w_seq ?_
    refine w_reg ?_
    refine wl_e (e_call0 rfl Try.func8 (by kernel_rfl) (fun w hh => fawake_spec w)) ?_
    rintro _ _ w1 ⟨_, rfl, rfl, rfl⟩
    refine wl_f (f_assign rfl) ?_
    refine wl_end [(10, _)] ⟨rfl, trivial⟩ ?_
    refine w_ret ?_
    refine ⟨_, _, fun a ha hh => results_tmps Try.results3 rfl a ha _, List.Sublist.refl _, ?_⟩
    rfl
  · skip
    refine w_skip ?_
    refine w_seq ?_
    refine w_reg ?_
    refine wl_f (f_move rfl) ?_
    refine wl_e (e_call0 rfl Try.func10 (by kernel_rfl) (fun w hh => new_spec D _ dc w)) ?_
    rintro _ _ w3 ⟨_, rfl, b3, rfl, rfl⟩
    refine wl_e (e_call1 (deck b3 (.slice D L.length dc) 0) [] rfl Try.func11 (by kernel_rfl) (List.Perm.refl _) (fun w hh hs' => events_spec b3 _ L 0 50 6 w (by omega) (by omega) ⟨hd.old1 hh (Hr := []) (List.Perm.refl _), hL, Nat.zero_le _⟩ hs')) ?_
    rintro V _ w4 ⟨_, rfl, E, p1, hE1, hE2, hE, rfl, hp1⟩
    refine wl_e (e_call0 rfl Try.func9 (by kernel_rfl) (fun w hh => rbody_spec _ E w (held_rdE hh (i := 0) (j := 1) rfl rfl hE) (by omega))) ?_
    rintro _ _ w5 ⟨_, rfl, vb, rfl, rfl⟩
    have hbo := bodyOut_deck hE1 (by omega) hE
    have hle := bodyOut_le E
    have hevb := bodyOut_lt E (by omega) fun x hx => (hE x hx).2.2.2.2
    have hE3 : 1 ≤ (bodyOut E).1.length := by
      rw [hbo]
      have := venc_len E.length
      simp only [List.length_append]
      omega
    have hb0 : (bodyOut E).2 = 0 := by rw [hbo]
    generalize bodyOut E = B at hle hE3 hb0 hevb ⊢
    obtain ⟨bl, e⟩ := B
    dsimp only at hle hE3 hb0 hevb ⊢
    subst hb0
    refine wl_with fun hh => ?_
    obtain ⟨g, cb, rfl⟩ := row_form hh (i := 0) rfl (by show 0 < bl.length; omega)
    have hcb : bl.length ≤ cb := by
      obtain ⟨_, _, e, _, h, _⟩ := Rd.held0 hh (i := 0) rfl
      injection e with _ _ e
      subst e
      exact h
    clear hh
    refine wl_f (f_move rfl) ?_
    refine wl_f (f_extract rfl rfl) ?_
    refine wl_f (f_extract rfl rfl) ?_
    refine wl_f (f_assign rfl) ?_
    refine wl_f (f_assign rfl) ?_
    refine wl_pick [0] rfl ?_
    refine wl_end [(0, _), (2, _), (3, _), (4, _), (11, _), (12, _)] ⟨rfl, rfl, rfl, rfl, rfl, rfl, trivial⟩ ?_
    refine w_seq ?_
    refine w_seq ?_
    refine w_reg ?_
    refine wl_f (f_move rfl) ?_
    refine wl_f (f_neq rfl rfl) ?_
    refine wl_f (f_move rfl) ?_
    refine wl_or (j := 2) (c := decide ((bl.length : Int) = 0)) 3 [(0, _), (2, _), (3, _), (4, _), (11, _)] ⟨rfl, rfl, rfl, rfl, rfl, trivial⟩ rfl rfl rfl rfl rfl (fun hg4_6 => ?_) (fun w4_6 => ?_)
    · skip
      refine wl_gf rfl rfl (f_move rfl) ?_
      refine wl_gf rfl rfl (f_len rfl Try.underlying22) ?_
      refine wl_gf rfl rfl (f_eql rfl rfl) ?_
      exact wl_pend rfl rfl ⟨rfl, rfl, rfl, rfl, rfl, trivial⟩ (List.Sublist.refl _)
    refine wl_end [(0, _), (2, _), (3, _), (4, _), (11, _), (35, _)] ⟨rfl, rfl, rfl, rfl, rfl, rfl, trivial⟩ ?_
    refine w_ifb rfl (fun h => absurd h (by simp only [Bool.or_eq_true, decide_eq_true_eq]; omega)) (fun _ => ?_)
    refine w_skip ?_
    refine w_seq ?_
    refine w_reg ?_
    refine wl_e (e_lit0 t22) ?_
    rintro _ _ w6_0 ⟨b6_0, rfl, rfl⟩
    refine wl_f (f_move rfl) ?_
    refine wl_e (e_appS0 t22 rfl rfl (fun w hh => Rd.held0 hh (i := 1) rfl) (bv_one bl) (by show (0 + bl.length) * 1 ≤ _; omega) (by show 0 + bl.length ≤ _; omega)) ?_
    rintro _ _ w7 ⟨⟨U, cu, rfl⟩, rfl⟩
    rw [Nat.zero_add, List.nil_append]
    refine wl_with fun hh => ?_
    obtain ⟨g2, c2, e⟩ := row_form hh (i := 0) rfl (by show 0 < bl.length; omega)
    injection e with e1 _ e3
    subst e1; subst e3
    clear hh
    refine wl_f (f_assign rfl) ?_
    refine wl_end [(0, _), (2, _), (3, _), (4, _), (11, _), (13, _)] ⟨rfl, rfl, rfl, rfl, rfl, rfl, trivial⟩ ?_
    refine w_seq ?_
    refine w_reg ?_
    refine wl_f (f_move rfl) ?_
    refine wl_f (f_move rfl) ?_
    refine wl_f (f_and rfl rfl rfl) ?_
    generalize hq0 : bits .and .i64 _ 1023 = q0
    have hq1 := and_bound at_ 1023 (by omega)
    have hq2 : 0 ≤ q0 ∧ q0 ≤ 1023 := hq0 ▸ hq1
    obtain ⟨q, rfl⟩ : ∃ q : Nat, q0 = q := ⟨q0.toNat, by omega⟩
    refine wl_f (f_move rfl) ?_
    refine wl_f (f_len (len := bl.length) rfl Try.underlying22) ?_
    refine wl_f (f_rem rfl rfl (by omega)) ?_
    have hj : q % bl.length < bl.length := Nat.mod_lt _ (by omega)
    refine wl_f (f_move rfl) ?_
    refine wl_f (f_indexAddr 1 (i := q % bl.length) rfl rfl Try.underlying22 (by kernel_rfl) rfl hj) ?_
    refine wl_e0 (e_storer0 (us := [.int .u8 k]) (xs' := bv (bl.set (q % bl.length) k)) rfl rfl rfl (by kernel_rfl) (by simp [Value.oneCell']) (by rw [bv_len]; show 0 + (q % bl.length) * 1 + 1 ≤ _; omega) (bvs_set bl _ k hj)) ?_
    rintro _ _ w7_8 rfl
    refine wl_end [(0, _), (2, _), (3, _), (4, _), (11, _), (13, _)] ⟨rfl, rfl, rfl, rfl, rfl, rfl, trivial⟩ ?_
    refine w_seq ?_
    refine w_seq ?_
    have hsl : (bl.set (q % bl.length) k).length = bl.length := List.length_set
    refine w_post (fun m H w' => ∃ (b5 : Nat) (U4 : Option Addr) (c4 : Nat), m = [(4, .int .i64 most), (63, .slice (some ⟨b5, 0, .none⟩) 5 5), (64, .int .i64 5), (65, .int .i64 0)] ∧
    H = [row (.slice (some ⟨b5, 0, .none⟩) 5 5) 22 1 5 [.slice A raw.length c, .slice (some ⟨g, 0, .none⟩) bl.length cb, .slice (some ⟨g2, 0, .none⟩) bl.length cu, .slice (some ⟨g, 0, .none⟩) (q % bl.length) cb, .slice U4 (bl.length + 1) c4],
      row (.slice U4 (bl.length + 1) c4) 5 1 (bl.length + 1) (bv (bl ++ [k])), row (.slice (some ⟨g2, 0, .none⟩) bl.length cu) 5 1 bl.length (bv (bl.set (q % bl.length) k)), row (.slice (some ⟨g, 0, .none⟩) bl.length cb) 5 1 bl.length (bv bl)]) ?_ ?_
    · skip
      refine w_drawt (.fl 0 (.fl 1 (.fl 2 (.fl 3 (.fl 4 (.fl 5 (.fl 6 (.fl 7 (.fl 8 (.fl 9 (.fl 11 (.fl 13 (.fl 18 (.two 10 (.two 12 (.ef 14 (.ef 15 (.ef 16 (.fl 17 .done)))) 14 (.ef 12 (.ef 15 (.ef 16 (.fl 17 .done))))) 14 (.ef 10 (.ef 12 (.ef 15 (.ef 16 (.fl 17 .done))))))))))))))))))) ([_, _]) ([]) mixed (by kernel_rfl) (by kernel_rfl) rfl (perm_all _) (fun w8_ => ?_)
      refine wt_f rfl (f_move rfl) ?_
      refine wt_f rfl (f_move rfl) ?_
      refine wt_f rfl (f_move rfl) ?_
      refine wt_f rfl (f_move rfl) ?_
      refine wt_f rfl (f_move rfl) ?_
      refine wt_f rfl (f_and rfl rfl hq0) ?_
      refine wt_f rfl (f_move rfl) ?_
      refine wt_f rfl (f_len (len := bl.length) rfl Try.underlying22) ?_
      refine wt_f rfl (f_rem rfl rfl (by omega)) ?_
      refine wt_f rfl (f_eqv (v' := .slice (some ⟨g, 0, .none⟩) (q % bl.length) cb) (f_slice 1 (l := 0) (u := q % bl.length) rfl Try.underlying22 (by kernel_rfl) rfl ⟨_, rfl⟩ (by omega) (by omega)) (by simp)) ?_
      refine wt_f rfl (f_move rfl) ?_
      refine wt_f rfl (f_move rfl) ?_
      refine wt_f rfl (f_move rfl) ?_
      refine wt_two ?_ ?_
      · skip
        refine es_e rfl (e_lit0 t22) ?_
        rintro _ _ w8_10 ⟨b8_10, rfl, rfl⟩
        refine ⟨_, List.perm_middle.symm, ?_⟩
        refine wt_two ?_ ?_
        · skip
          (first | refine es_e rfl (e_appS0 t22 rfl rfl (fun w hh => Rd.held0 hh (i := 1) rfl) (bv_one bl) (by show (0 + bl.length) * 1 ≤ _; omega) (by show 0 + bl.length ≤ _; omega)) ?_ | refine es_e rfl (e_appS1 t22 rfl rfl (fun w hh => Rd.held0 hh (i := 1) rfl) (bv_one bl) (by show (0 + bl.length) * 1 ≤ _; omega) (by show 0 + bl.length ≤ _; omega)) ?_ | refine es_e rfl (e_appS2 t22 rfl rfl (fun w hh => Rd.held0 hh (i := 1) rfl) (bv_one bl) (by show (0 + bl.length) * 1 ≤ _; omega) (by show 0 + bl.length ≤ _; omega)) ?_ | refine es_e rfl (e_appS3 t22 rfl rfl (fun w hh => Rd.held0 hh (i := 1) rfl) (bv_one bl) (by show (0 + bl.length) * 1 ≤ _; omega) (by show 0 + bl.length ≤ _; omega)) ?_)
          rintro _ _ w8_13 ⟨⟨U3, c3, rfl⟩, rfl⟩
          refine ⟨_, List.Perm.refl _, ?_⟩
          refine wt_ef (es_e rfl (e_lit1 (cs := [_]) t22 rfl rfl rfl (by omega)) ?_)
          rintro _ _ w8_14 ⟨b8_14, rfl, rfl⟩
          refine ⟨_, List.perm_middle.symm, ?_⟩
          (first | refine wt_ef (es_e rfl (e_appS0 t22 rfl rfl (fun w hh => (by first | exact Rd.held0 hh (i := 2) rfl | exact Rd.held0 hh (i := 3) rfl)) (by simp [Value.oneCell']) (by show (0 + bl.length + 1) * 1 ≤ _; omega) (by show 0 + bl.length + 1 ≤ _; omega)) ?_) | refine wt_ef (es_e rfl (e_appS1 t22 rfl rfl (fun w hh => (by first | exact Rd.held0 hh (i := 2) rfl | exact Rd.held0 hh (i := 3) rfl)) (by simp [Value.oneCell']) (by show (0 + bl.length + 1) * 1 ≤ _; omega) (by show 0 + bl.length + 1 ≤ _; omega)) ?_) | refine wt_ef (es_e rfl (e_appS2 t22 rfl rfl (fun w hh => (by first | exact Rd.held0 hh (i := 2) rfl | exact Rd.held0 hh (i := 3) rfl)) (by simp [Value.oneCell']) (by show (0 + bl.length + 1) * 1 ≤ _; omega) (by show 0 + bl.length + 1 ≤ _; omega)) ?_) | refine wt_ef (es_e rfl (e_appS3 t22 rfl rfl (fun w hh => (by first | exact Rd.held0 hh (i := 2) rfl | exact Rd.held0 hh (i := 3) rfl)) (by simp [Value.oneCell']) (by show (0 + bl.length + 1) * 1 ≤ _; omega) (by show 0 + bl.length + 1 ≤ _; omega)) ?_))
          rintro _ _ w8_16 ⟨⟨U4, c4, rfl⟩, rfl⟩
          refine ⟨_, List.Perm.refl _, ?_⟩
          refine wt_ef (es_e rfl (e_litrow (e := 22) (sz := 1) rfl (fun w => lit_fl5 _ _ _ _ _ _ _ _ _ _ _ _ _ _ _ w) rfl (by decide)) ?_)
          rintro _ _ w8_16 ⟨b8_16, rfl, rfl⟩
          refine ⟨_, List.perm_middle.symm, ?_⟩
          refine wt_f rfl (f_len rfl Try.underlying32) ?_
          refine wt_endp [(4, _), (63, _), (64, _), (65, _)] [2, 3, 0, 0] ⟨rfl, rfl, rfl, rfl, trivial⟩ rfl ?_
          exact ⟨_, U4, c4, rfl, by rw [Nat.zero_add, bv_app]; rfl⟩
        · skip
          refine es_e rfl (e_lit1 (cs := [_]) t22 rfl rfl rfl (by omega)) ?_
          rintro _ _ w8_14 ⟨b8_14, rfl, rfl⟩
          refine ⟨_, List.perm_middle.symm, ?_⟩
          (first | refine wt_ef (es_e rfl (e_appS0 t22 rfl rfl (fun w hh => Rd.held0 hh (i := 1) rfl) (bv_one bl) (by show (0 + bl.length) * 1 ≤ _; omega) (by show 0 + bl.length ≤ _; omega)) ?_) | refine wt_ef (es_e rfl (e_appS1 t22 rfl rfl (fun w hh => Rd.held0 hh (i := 1) rfl) (bv_one bl) (by show (0 + bl.length) * 1 ≤ _; omega) (by show 0 + bl.length ≤ _; omega)) ?_) | refine wt_ef (es_e rfl (e_appS2 t22 rfl rfl (fun w hh => Rd.held0 hh (i := 1) rfl) (bv_one bl) (by show (0 + bl.length) * 1 ≤ _; omega) (by show 0 + bl.length ≤ _; omega)) ?_) | refine wt_ef (es_e rfl (e_appS3 t22 rfl rfl (fun w hh => Rd.held0 hh (i := 1) rfl) (bv_one bl) (by show (0 + bl.length) * 1 ≤ _; omega) (by show 0 + bl.length ≤ _; omega)) ?_))
          rintro _ _ w8_13 ⟨⟨U3, c3, rfl⟩, rfl⟩
          refine ⟨_, List.Perm.refl _, ?_⟩
          (first | refine wt_ef (es_e rfl (e_appS0 t22 rfl rfl (fun w hh => (by first | exact Rd.held0 hh (i := 2) rfl | exact Rd.held0 hh (i := 3) rfl)) (by simp [Value.oneCell']) (by show (0 + bl.length + 1) * 1 ≤ _; omega) (by show 0 + bl.length + 1 ≤ _; omega)) ?_) | refine wt_ef (es_e rfl (e_appS1 t22 rfl rfl (fun w hh => (by first | exact Rd.held0 hh (i := 2) rfl | exact Rd.held0 hh (i := 3) rfl)) (by simp [Value.oneCell']) (by show (0 + bl.length + 1) * 1 ≤ _; omega) (by show 0 + bl.length + 1 ≤ _; omega)) ?_) | refine wt_ef (es_e rfl (e_appS2 t22 rfl rfl (fun w hh => (by first | exact Rd.held0 hh (i := 2) rfl | exact Rd.held0 hh (i := 3) rfl)) (by simp [Value.oneCell']) (by show (0 + bl.length + 1) * 1 ≤ _; omega) (by show 0 + bl.length + 1 ≤ _; omega)) ?_) | refine wt_ef (es_e rfl (e_appS3 t22 rfl rfl (fun w hh => (by first | exact Rd.held0 hh (i := 2) rfl | exact Rd.held0 hh (i := 3) rfl)) (by simp [Value.oneCell']) (by show (0 + bl.length + 1) * 1 ≤ _; omega) (by show 0 + bl.length + 1 ≤ _; omega)) ?_))
          rintro _ _ w8_16 ⟨⟨U4, c4, rfl⟩, rfl⟩
          refine ⟨_, List.Perm.refl _, ?_⟩
          refine wt_ef (es_e rfl (e_litrow (e := 22) (sz := 1) rfl (fun w => lit_fl5 _ _ _ _ _ _ _ _ _ _ _ _ _ _ _ w) rfl (by decide)) ?_)
          rintro _ _ w8_16 ⟨b8_16, rfl, rfl⟩
          refine ⟨_, List.perm_middle.symm, ?_⟩
          refine wt_f rfl (f_len rfl Try.underlying32) ?_
          refine wt_endp [(4, _), (63, _), (64, _), (65, _)] [2, 3, 0, 0] ⟨rfl, rfl, rfl, rfl, trivial⟩ rfl ?_
          exact ⟨_, U4, c4, rfl, by rw [Nat.zero_add, bv_app]; rfl⟩
      · skip
        refine es_e rfl (e_lit1 (cs := [_]) t22 rfl rfl rfl (by omega)) ?_
        rintro _ _ w8_14 ⟨b8_14, rfl, rfl⟩
        refine ⟨_, List.perm_middle.symm, ?_⟩
        refine wt_ef (es_e rfl (e_lit0 t22) ?_)
        rintro _ _ w8_10 ⟨b8_10, rfl, rfl⟩
        refine ⟨_, List.perm_middle.symm, ?_⟩
        (first | refine wt_ef (es_e rfl (e_appS0 t22 rfl rfl (fun w hh => Rd.held0 hh (i := 1) rfl) (bv_one bl) (by show (0 + bl.length) * 1 ≤ _; omega) (by show 0 + bl.length ≤ _; omega)) ?_) | refine wt_ef (es_e rfl (e_appS1 t22 rfl rfl (fun w hh => Rd.held0 hh (i := 1) rfl) (bv_one bl) (by show (0 + bl.length) * 1 ≤ _; omega) (by show 0 + bl.length ≤ _; omega)) ?_) | refine wt_ef (es_e rfl (e_appS2 t22 rfl rfl (fun w hh => Rd.held0 hh (i := 1) rfl) (bv_one bl) (by show (0 + bl.length) * 1 ≤ _; omega) (by show 0 + bl.length ≤ _; omega)) ?_) | refine wt_ef (es_e rfl (e_appS3 t22 rfl rfl (fun w hh => Rd.held0 hh (i := 1) rfl) (bv_one bl) (by show (0 + bl.length) * 1 ≤ _; omega) (by show 0 + bl.length ≤ _; omega)) ?_))
        rintro _ _ w8_13 ⟨⟨U3, c3, rfl⟩, rfl⟩
        refine ⟨_, List.Perm.refl _, ?_⟩
        (first | refine wt_ef (es_e rfl (e_appS0 t22 rfl rfl (fun w hh => (by first | exact Rd.held0 hh (i := 2) rfl | exact Rd.held0 hh (i := 3) rfl)) (by simp [Value.oneCell']) (by show (0 + bl.length + 1) * 1 ≤ _; omega) (by show 0 + bl.length + 1 ≤ _; omega)) ?_) | refine wt_ef (es_e rfl (e_appS1 t22 rfl rfl (fun w hh => (by first | exact Rd.held0 hh (i := 2) rfl | exact Rd.held0 hh (i := 3) rfl)) (by simp [Value.oneCell']) (by show (0 + bl.length + 1) * 1 ≤ _; omega) (by show 0 + bl.length + 1 ≤ _; omega)) ?_) | refine wt_ef (es_e rfl (e_appS2 t22 rfl rfl (fun w hh => (by first | exact Rd.held0 hh (i := 2) rfl | exact Rd.held0 hh (i := 3) rfl)) (by simp [Value.oneCell']) (by show (0 + bl.length + 1) * 1 ≤ _; omega) (by show 0 + bl.length + 1 ≤ _; omega)) ?_) | refine wt_ef (es_e rfl (e_appS3 t22 rfl rfl (fun w hh => (by first | exact Rd.held0 hh (i := 2) rfl | exact Rd.held0 hh (i := 3) rfl)) (by simp [Value.oneCell']) (by show (0 + bl.length + 1) * 1 ≤ _; omega) (by show 0 + bl.length + 1 ≤ _; omega)) ?_))
        rintro _ _ w8_16 ⟨⟨U4, c4, rfl⟩, rfl⟩
        refine ⟨_, List.Perm.refl _, ?_⟩
        refine wt_ef (es_e rfl (e_litrow (e := 22) (sz := 1) rfl (fun w => lit_fl5 _ _ _ _ _ _ _ _ _ _ _ _ _ _ _ w) rfl (by decide)) ?_)
        rintro _ _ w8_16 ⟨b8_16, rfl, rfl⟩
        refine ⟨_, List.perm_middle.symm, ?_⟩
        refine wt_f rfl (f_len rfl Try.underlying32) ?_
        refine wt_endp [(4, _), (63, _), (64, _), (65, _)] [2, 2, 0, 0] ⟨rfl, rfl, rfl, rfl, trivial⟩ rfl ?_
        exact ⟨_, U4, c4, rfl, by rw [Nat.zero_add, bv_app]; rfl⟩
    rintro _ _ w8 ⟨b5, U4, c4, rfl, rfl⟩
    refine w_block ?_
    have key : ∀ i : Nat, i < 5 → ∃ (A' : Option Addr) (c' : Nat) (xs : List Nat), ([.slice A raw.length c, .slice (some ⟨g, 0, .none⟩) bl.length cb, .slice (some ⟨g2, 0, .none⟩) bl.length cu, .slice (some ⟨g, 0, .none⟩) (q % bl.length) cb, .slice U4 (bl.length + 1) c4] : List Value)[i]? = some (.slice A' xs.length c') ∧
        (∀ H0 w', Holds w Nil (H0 ++ [row (.slice (some ⟨b5, 0, .none⟩) 5 5) 22 1 5 [.slice A raw.length c, .slice (some ⟨g, 0, .none⟩) bl.length cb, .slice (some ⟨g2, 0, .none⟩) bl.length cu, .slice (some ⟨g, 0, .none⟩) (q % bl.length) cb, .slice U4 (bl.length + 1) c4],
          row (.slice U4 (bl.length + 1) c4) 5 1 (bl.length + 1) (bv (bl ++ [k])), row (.slice (some ⟨g2, 0, .none⟩) bl.length cu) 5 1 bl.length (bv (bl.set (q % bl.length) k)), row (.slice (some ⟨g, 0, .none⟩) bl.length cb) 5 1 bl.length (bv bl)]) w' →
          Rd w' Nil 1 (.slice A' xs.length c') xs.length (bv xs)) ∧ xs.length ≤ 140737488355328 ∧ ∀ b ∈ xs, b < 256 := by
      intro i hi
      match i, hi with
      | 0, _ => exact ⟨A, c, raw, rfl, fun H0 w' hh => hraw.old0 hh, hrn, hrb⟩
      | 1, _ => exact ⟨_, cb, bl, rfl, fun H0 w' hh => Rd.held0 (e := 5) hh (i := H0.length + 3) (by simp), by omega, hevb⟩
      | 2, _ => exact ⟨some ⟨g2, 0, .none⟩, cu, bl.set (q % bl.length) k, by rw [hsl]; rfl, fun H0 w' hh => by rw [hsl]; exact Rd.held0 (e := 5) hh (i := H0.length + 2) (by simp), by rw [hsl]; omega, fun b hb => (List.mem_or_eq_of_mem_set hb).elim (hevb b) (fun e => e ▸ hk)⟩
      | 3, _ =>
        refine ⟨some ⟨g, 0, .none⟩, cb, bl.take (q % bl.length), by rw [List.length_take, Nat.min_eq_left (by omega)]; rfl, fun H0 w' hh => ?_, by rw [List.length_take]; omega, fun b hb => hevb b (List.mem_of_mem_take hb)⟩
        have h0 : Rd w' Nil 1 (.slice (some ⟨g, 0, .none⟩) bl.length cb) bl.length (bv bl) := Rd.held0 (e := 5) hh (i := H0.length + 3) (by simp)
        have h := rd_prefix h0 rfl (show q % bl.length ≤ bl.length by omega)
        have e : (if cb = 0 then some (⟨g, 0, .none⟩ : Addr) else (some ⟨g, 0, .none⟩ : Option Addr).map (·.add (0 * 1))) = some ⟨g, 0, .none⟩ := by split <;> simp [Addr.add]
        rw [e] at h
        rw [Nat.sub_zero, Nat.sub_zero] at h
        have e2 : (bl.take (q % bl.length)).length = q % bl.length := by rw [List.length_take]; omega
        rw [e2] at h ⊢
        exact h
      | 4, _ => exact ⟨U4, c4, bl ++ [k], by rw [List.length_append]; rfl, fun H0 w' hh => by rw [List.length_append]; exact Rd.held0 (e := 5) hh (i := H0.length + 1) (by simp), by rw [List.length_append]; simp; omega, fun b hb => (List.mem_append.1 hb).elim (hevb b) (fun h => by simp at h; omega)⟩
      | i + 5, h => omega
    generalize hVs : ([.slice A raw.length c, .slice (some ⟨g, 0, .none⟩) bl.length cb, .slice (some ⟨g2, 0, .none⟩) bl.length cu, .slice (some ⟨g, 0, .none⟩) (q % bl.length) cb, .slice U4 (bl.length + 1) c4] : List Value) = Vs at key ⊢
    refine w_loop (fun z m H w' => ∃ i : Nat, m = [(4, .int .i64 most), (63, .slice (some ⟨b5, 0, .none⟩) 5 5), (64, .int .i64 5), (65, .int .i64 i)] ∧
      H = [row (.slice (some ⟨b5, 0, .none⟩) 5 5) 22 1 5 Vs, row (.slice U4 (bl.length + 1) c4) 5 1 (bl.length + 1) (bv (bl ++ [k])), row (.slice (some ⟨g2, 0, .none⟩) bl.length cu) 5 1 bl.length (bv (bl.set (q % bl.length) k)), row (.slice (some ⟨g, 0, .none⟩) bl.length cb) 5 1 bl.length (bv bl)] ∧ z + i = 5) 5
      ⟨0, rfl, rfl, rfl⟩ ?_
    rintro z _ _ w9 ⟨i, rfl, rfl, hz⟩
    refine w_seq ?_
    refine w_reg ?_
    refine wl_f (f_lss rfl rfl) ?_
    refine wl_end [(4, _), (63, _), (64, _), (65, _), (66, _)] ⟨rfl, rfl, rfl, rfl, rfl, trivial⟩ ?_
    refine w_seq ?_
    refine w_ifd rfl (fun hc3 => ?_) (fun hc3 => ?_)
    · skip
      obtain ⟨A', c', xs, hxv, hxr, hxn, hxb⟩ := key i (by omega)
      refine w_skip ?_
      refine w_seq ?_
      refine w_block ?_
      refine w_seq ?_
      refine w_reg ?_
      refine wl_f (f_indexAddr 1 rfl rfl Try.underlying32 (by kernel_rfl) rfl (by omega)) ?_
      refine wl_f (f_loadr (v := .slice A' xs.length c') 0 rfl Try.underlying22 rfl rfl (by simpa using hxv)) ?_
      refine wl_f (f_assign rfl) ?_
      refine wl_end [(4, _), (15, _), (63, _), (64, _), (65, _)] ⟨rfl, rfl, rfl, rfl, rfl, trivial⟩ ?_
      refine w_seq ?_
      refine w_reg ?_
      refine wl_f (f_move rfl) ?_
      refine wl_f (f_move rfl) ?_
      refine wl_f (f_and rfl rfl rfl) ?_
      generalize bits .and .i64 most 15 = mo
      refine wl_e (e_litrow (e := 3) (sz := 1) rfl (fun w => lit_i3 _ _ _ w) rfl (by decide)) ?_
      rintro _ _ w11_3 ⟨b11_3, rfl, rfl⟩
      refine wl_f (f_len rfl Try.underlying23) ?_
      refine wl_f (f_move rfl) ?_
      refine wl_end [(4, _), (15, _), (63, _), (64, _), (65, _), (72, _), (73, _), (74, _)] ⟨rfl, rfl, rfl, rfl, rfl, rfl, rfl, rfl, trivial⟩ ?_
      refine w_block ?_
      refine w_loop (fun y m H w' => ∃ j : Nat, m = [(4, .int .i64 most), (15, .slice A' xs.length c'), (63, .slice (some ⟨b5, 0, .none⟩) 5 5), (64, .int .i64 5), (65, .int .i64 i), (72, .slice (some ⟨b11_3, 0, .none⟩) 3 3), (73, .int .i64 3), (74, .int .i64 j)] ∧
        H = [row (.slice (some ⟨b11_3, 0, .none⟩) 3 3) 3 1 3 [.int .i64 most, .int .i64 mo, .int .i64 255], row (.slice (some ⟨b5, 0, .none⟩) 5 5) 22 1 5 Vs, row (.slice U4 (bl.length + 1) c4) 5 1 (bl.length + 1) (bv (bl ++ [k])), row (.slice (some ⟨g2, 0, .none⟩) bl.length cu) 5 1 bl.length (bv (bl.set (q % bl.length) k)), row (.slice (some ⟨g, 0, .none⟩) bl.length cb) 5 1 bl.length (bv bl)] ∧ y + j = 3) 3
        ⟨0, rfl, rfl, rfl⟩ ?_
      rintro y _ _ w10 ⟨j, rfl, rfl, hy⟩
      refine w_seq ?_
      refine w_reg ?_
      refine wl_f (f_lss rfl rfl) ?_
      refine wl_end [(4, _), (15, _), (63, _), (64, _), (65, _), (72, _), (73, _), (74, _), (75, _)] ⟨rfl, rfl, rfl, rfl, rfl, rfl, rfl, rfl, rfl, trivial⟩ ?_
      refine w_seq ?_
      refine w_ifd rfl (fun hc4 => ?_) (fun hc4 => ?_)
      · skip
        obtain ⟨mv, hmv⟩ : ∃ mv, ([.int .i64 most, .int .i64 mo, .int .i64 255] : List Value)[0 + j * 1]? = some (.int .i64 mv) := by
          match j, hc4 with
          | 0, _ => exact ⟨most, rfl⟩
          | 1, _ => exact ⟨mo, rfl⟩
          | 2, _ => exact ⟨255, rfl⟩
          | j + 3, h => omega
        refine w_skip ?_
        refine w_seq ?_
        refine w_block ?_
        refine w_seq ?_
        refine w_reg ?_
        refine wl_f (f_indexAddr 1 rfl rfl Try.underlying23 (by kernel_rfl) rfl (by omega)) ?_
        refine wl_f (f_loadr (v := .int .i64 mv) 0 rfl Try.underlying3 rfl rfl hmv) ?_
        refine wl_f (f_assign rfl) ?_
        refine wl_end [(4, _), (15, _), (17, _), (63, _), (64, _), (65, _), (72, _), (73, _), (74, _)] ⟨rfl, rfl, rfl, rfl, rfl, rfl, rfl, rfl, rfl, trivial⟩ ?_
        refine w_seq ?_
        refine w_reg ?_
        refine wl_f (f_move rfl) ?_
        refine wl_f (f_move rfl) ?_
        refine wl_e (e_call0 rfl Try.func13 (by kernel_rfl) (fun w hh => readIn_spec A' c' xs mv w (hxr [_] w hh) hxn hxb)) ?_
        rintro V1 _ w11 ⟨_, rfl, rfl⟩
        refine wl_f (f_move rfl) ?_
        refine wl_f (f_move rfl) ?_
        refine wl_e (e_call0 rfl Try.func14 (by kernel_rfl) (fun w hh => rreadIn_spec A' c' xs mv w (hxr [_, _] w hh) hxn hxb)) ?_
        rintro V2 _ w12 ⟨_, rfl, rfl⟩
        refine wl_e (e_call0 rfl Try.func12 (by kernel_rfl) (fun w hh => sameInputs_spec _ _ (readF xs mv) w (Rd.held0 hh (i := 1) rfl) (Rd.held0 hh (i := 0) rfl) (readF_len xs mv))) ?_
        rintro _ _ w13 ⟨_, rfl, rfl, rfl⟩
        refine wl_f (f_not rfl rfl) ?_
        refine wl_end [(4, _), (15, _), (63, _), (64, _), (65, _), (72, _), (73, _), (74, _), (85, _)] ⟨rfl, rfl, rfl, rfl, rfl, rfl, rfl, rfl, rfl, trivial⟩ ?_
        refine w_ifb rfl (fun h => absurd h (by simp)) (fun _ => w_pick [2, 2, 2, 2, 2] rfl ?_)
        refine w_skip ?_
        refine w_reg ?_
        refine wl_f (f_add rfl rfl (by omega)) ?_
        refine wl_f (f_move rfl) ?_
        refine wl_end [(4, _), (15, _), (63, _), (64, _), (65, _), (72, _), (73, _), (74, _)] ⟨rfl, rfl, rfl, rfl, rfl, rfl, rfl, rfl, trivial⟩ ?_
        exact ⟨y - 1, by omega, j + 1, rfl, rfl, by omega⟩
      · skip
        refine w_pick [1, 1, 1, 1] rfl ?_
        refine w_exit0 ?_
        refine w_reg ?_
        refine wl_f (f_add rfl rfl (by omega)) ?_
        refine wl_f (f_move rfl) ?_
        refine wl_end [(4, _), (63, _), (64, _), (65, _)] ⟨rfl, rfl, rfl, rfl, trivial⟩ ?_
        exact ⟨z - 1, by omega, i + 1, rfl, rfl, by omega⟩
    · skip
      refine w_exit0 ?_
      refine w_seq ?_
      refine w_reg ?_
      refine wl_e (e_call0 rfl Try.func8 (by kernel_rfl) (fun w hh => fawake_spec w)) ?_
      rintro _ _ w2 ⟨_, rfl, rfl, rfl⟩
      refine wl_f (f_assign rfl) ?_
      refine wl_end [(10, _)] ⟨rfl, trivial⟩ ?_
      refine w_ret ?_
      refine ⟨_, _, fun a ha hh => results_tmps Try.results3 rfl a ha _, List.Sublist.refl _, ?_⟩
      rfl
end Go.Proofs.Ythbjjfpikfmmnaa
