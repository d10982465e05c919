/- The law FrameBody: the call returns true. -/
import Derived.Test.YthbjjfpikfmmnaaF8
namespace Go.Proofs.Ythbjjfpikfmmnaa
open Go.RowKit

theorem t53 : SlT Try.prog 53 28 1 24 (.slice .none 0 0) := .mk' Try.underlying53 (by kernel_rfl) rfl (by decide)
theorem lit_ll2 (A1 A2 : Option Addr) (l1 l2 c1 c2 : Nat) (w : World) : (Instr.buildSlice 53 2 [(0, .slice A1 l1 c1), (1, .slice A2 l2 c2)].toArray).run Try.prog w =
    .ok (.slice (some ⟨w.heap.size, 0, .none⟩) 2 2) (w.alloc (.cells [.slice A1 l1 c1, .slice A2 l2 c2].toArray 28)) := by kernel_rfl
def evOk (x : Ev) : Prop := x.2.1.length ≤ 1000000 ∧ (-9223372036854775808 ≤ x.2.2.1 ∧ x.2.2.1 ≤ 9223372036854775807) ∧ x.2.2.2 < 18446744073709551616
theorem deck_evOk {x : Ev} (h : deckEv 50 x) : evOk x := ⟨by have := h.1.1; omega, by have := h.2.2; omega, h.2.2.2.2⟩
theorem rdE_of {w0 w : World} {F0 : Nat → Prop} {H : List Res} {r : Value} {X R : List Ev} {i j : Nat} (hh : Holds w0 F0 H w) (hi : H[i]? = some (row r 40 3 X.length (ecells X))) (hj : H[j]? = some (bun (R.map trow)))
    (hR : ∀ x ∈ R, evOk x) (hX : ∀ x ∈ X, x ∈ R) : RdE w r X :=
  ⟨Rd.held0 hh hi, fun x hx => by
    obtain ⟨k, hk⟩ := List.getElem?_of_mem (hX x hx)
    exact ⟨Rd.heldB hh hj (j := k) (by rw [List.getElem?_map, hk]; rfl), hR x (hX x hx)⟩⟩
theorem frameOut_le (E : List Ev) : (frameOut E).1.length ≤ 5000 := by
  have h1 := bodyOut_le E
  have h2 := venc_len (bodyOut E).1.length
  unfold frameOut
  split
  · simp
  · rw [List.length_append]; omega

set_option maxHeartbeats 4000000 in
theorem frameBody_spec (D : Option Addr) (dc : Nat) (L : List Int) (k : Nat) (lg : Bool) (w : World) (hd : Rd w Nil 1 (.slice D L.length dc) L.length (iv L)) (hL : L.length ≤ 140737488355328) (hk : k < 256) :
    Spec Try.prog 6 [.slice D L.length dc, .int .u8 k, .bool lg] w Nil fun r _ => r = .bool true := by
  refine enter (n := 99) Try.func6 rfl rfl [(0, _), (1, _), (2, _)] rfl ⟨rfl, rfl, rfl, trivial⟩ (Holds.start _ _) ?_
  refine w_seq ?_
  refine w_reg ?_
  refine wl_f (f_assign rfl) ?_
  refine wl_end [(0, _), (1, _), (2, _)] ⟨rfl, rfl, rfl, trivial⟩ ?_
  refine w_seq ?_
  refine w_reg ?_
  refine wl_f (f_move rfl) ?_
  refine wl_e (e_call0 rfl Try.func10 (by kernel_rfl) (fun w hh => new_spec D _ dc w)) ?_
  rintro _ _ w1 ⟨_, rfl, b1, rfl, rfl⟩
  refine wl_e (e_call1 (deck b1 (.slice D L.length dc) 0) [] rfl Try.func11 (by kernel_rfl) (List.Perm.refl _) (fun w hh hs' => events_spec b1 _ L 0 50 10 w (by omega) (by omega) ⟨hd.old1 hh (Hr := []) (List.Perm.refl _), hL, Nat.zero_le _⟩ hs')) ?_
  rintro V _ w2 ⟨_, rfl, E, p1, hE1, hE2, hE, rfl, hp1⟩
  refine wl_with fun hh => ?_
  obtain ⟨g1, k1, rfl⟩ := row_form hh (i := 0) rfl (by omega)
  clear hh
  refine wl_f (f_assign rfl) ?_
  refine wl_pick [0, 0] rfl ?_
  refine wl_end [(1, _), (2, _), (7, _)] ⟨rfl, rfl, rfl, trivial⟩ ?_
  refine w_seq ?_
  refine w_reg ?_
  refine wl_f (f_assign rfl) ?_
  refine wl_end [(1, _), (2, _), (7, _), (8, _)] ⟨rfl, rfl, rfl, rfl, trivial⟩ ?_
  refine w_seq ?_
  refine w_seq ?_
  refine w_reg ?_
  refine wl_f (f_assign rfl) ?_
  refine wl_end [(1, _), (2, _), (7, _), (8, _), (9, _)] ⟨rfl, rfl, rfl, rfl, rfl, trivial⟩ ?_
  refine w_block ?_
  refine w_nilrow 40 3 ?_
  refine w_loop (fun q m H w' => ∃ (V : Value) (M : List Ev), m = [(1, .int .u8 k), (2, .bool lg), (7, .slice (some ⟨g1, 0, .none⟩) E.length k1), (8, V), (9, .int .i64 M.length)] ∧
    H = [row V 40 3 M.length (ecells M), row (.slice (some ⟨g1, 0, .none⟩) E.length k1) 40 3 E.length (ecells E), bun (E.map trow)] ∧ q + M.length = k % 70 ∧ ∀ x ∈ M, x ∈ E) (k % 70) ⟨_, [], rfl, rfl, rfl, by simp⟩ ?_
  rintro q _ _ w5 ⟨V, M, rfl, rfl, hq, hM⟩
  refine w_with fun hh => ?_
  obtain ⟨U, cu, rfl⟩ := row_slice hh (i := 0) rfl
  clear hh
  refine w_seq ?_
  refine w_seq ?_
  refine w_reg ?_
  refine wl_f (f_move rfl) ?_
  refine wl_f (f_move rfl) ?_
  refine wl_f (f_convi rfl Try.underlying5 Try.underlying3 (by omega)) ?_
  refine wl_f (f_remw (r := ((k % 70 : Nat) : Int)) rfl rfl (by omega) (by rw [Int.tmod_eq_emod_of_nonneg (by omega)]; omega)) ?_
  refine wl_f (f_lss rfl rfl) ?_
  refine wl_end [(1, _), (2, _), (7, _), (8, _), (9, _), (27, _)] ⟨rfl, rfl, rfl, rfl, rfl, rfl, trivial⟩ ?_
  refine w_ifd rfl (fun hc1 => ?_) (fun hc1 => ?_)
  · skip
    have hi : M.length % E.length < E.length := Nat.mod_lt _ (by omega)
    obtain ⟨⟨x1, tg, t, wt⟩, hxi⟩ : ∃ x, E[M.length % E.length]? = some x := ⟨_, List.getElem?_eq_getElem hi⟩
    have hbi : (E.map trow)[M.length % E.length]? = some (row x1 52 2 tg.length (tcells tg)) := by rw [List.getElem?_map, hxi]; rfl
    refine w_with fun hh => ?_
    obtain ⟨S, cs, rfl, _⟩ := Rd.heldB hh (i := 2) (j := M.length % E.length) rfl hbi
    clear hh
    refine w_skip ?_
    refine w_seq ?_
    refine w_block ?_
    refine w_reg ?_
    refine wl_f (f_move rfl) ?_
    refine wl_f (f_move rfl) ?_
    refine wl_f (f_move rfl) ?_
    refine wl_f (f_move rfl) ?_
    refine wl_f (f_len rfl Try.underlying28) ?_
    refine wl_f (f_rem rfl rfl (by omega)) ?_
    refine wl_f (f_indexAddr 3 (i := M.length % E.length) rfl rfl Try.underlying28 (by kernel_rfl) rfl hi) ?_
    refine wl_f (f_loadsr (cs := [.slice S tg.length cs, .int .i64 t, .int .u64 (wt : Int)]) 1 rfl Try.underlying40 rfl (by kernel_rfl) rfl (ecells_get hxi)) ?_
    refine wl_e (e_lit1 (cs := [_, _, _]) t28 rfl rfl rfl (by omega)) ?_
    rintro _ _ w6_8 ⟨b6_8, rfl, rfl⟩
    refine wl_e (e_appN 1 t28 rfl rfl rfl (fun w hh => Rd.held0 hh (i := 0) rfl) (by simp [Value.oneCell']) (by omega) (by omega)) ?_
    rintro _ _ w6 ⟨⟨U3, c3, rfl⟩, rfl⟩
    refine wl_f (f_assign rfl) ?_
    refine wl_pick [1, 1, 1] rfl ?_
    refine wl_end [(1, _), (2, _), (7, _), (8, _), (9, _)] ⟨rfl, rfl, rfl, rfl, rfl, trivial⟩ ?_
    refine w_reg ?_
    refine wl_f (f_move rfl) ?_
    refine wl_f (f_add rfl rfl (by omega)) ?_
    refine wl_f (f_assign rfl) ?_
    refine wl_end [(1, _), (2, _), (7, _), (8, _), (9, _)] ⟨rfl, rfl, rfl, rfl, rfl, trivial⟩ ?_
    refine ⟨q - 1, by omega, .slice U3 (M.length + 1) c3, M ++ [(.slice S tg.length cs, tg, t, wt)], by rw [List.length_append]; rfl, by rw [List.length_append, ecells_app]; rfl, by rw [List.length_append]; simp; omega, ?_⟩
    intro y hy
    rcases List.mem_append.1 hy with hy | hy
    · exact hM y hy
    · simp at hy; subst hy; exact List.mem_of_getElem? hxi
  · skip
    refine w_exit0 ?_
    refine w_seq ?_
    refine w_seq ?_
    refine w_reg ?_
    refine wl_f (f_move rfl) ?_
    refine wl_end [(7, _), (8, _), (40, _)] ⟨rfl, rfl, rfl, trivial⟩ ?_
    refine w_post (fun m H w' => ∃ (R M : List Ev) (V' : Value), m = [(7, .slice (some ⟨g1, 0, .none⟩) E.length k1), (8, V')] ∧ H = [row V' 40 3 M.length (ecells M), row (.slice (some ⟨g1, 0, .none⟩) E.length k1) 40 3 E.length (ecells E), bun (R.map trow)] ∧
    M.length ≤ 71 ∧ (∀ x ∈ R, evOk x) ∧ (∀ x ∈ E, x ∈ R) ∧ ∀ x ∈ M, x ∈ R) ?_ ?_
    · skip
      refine w_ifb rfl (fun hc2 => ?_) (fun hc2 => ?_)
      · skip
        refine w_reg ?_
        refine wl_f (f_move rfl) ?_
        refine wl_e (e_make (l := 4080) (cs := List.replicate 4080 (.int .u8 0)) rfl rfl t22 (by omega) (by omega) (by rw [Nat.mul_one]; exact (toList_madeCells_one _ _).symm)) ?_
        rintro _ _ w8_1 ⟨b8_1, rfl, rfl⟩
        refine wl_f (f_b2s (xs := List.replicate 4080 0) rfl Try.underlying22 Try.underlying5 Try.underlying9 (fun w hh => by have h := Rd.held0 hh (i := 0) rfl; rw [List.map_replicate, List.length_replicate]; exact h)) ?_
        refine wl_f (f_build rfl (fun w => build_tag0 _ w)) ?_
        refine wl_e (e_lit1 (cs := [_, _]) t37 rfl rfl rfl (by omega)) ?_
        rintro _ _ w8_4 ⟨b8_4, rfl, rfl⟩
        refine wl_f (f_build (us := [(0, .slice (some ⟨b8_4, 0, .none⟩) 1 1)]) (v := .agg [.slice (some ⟨b8_4, 0, .none⟩) 1 1, .int .i64 0, .int .u64 0].toArray) rfl (fun w => by kernel_rfl)) ?_
        refine wl_e (e_lit1 (cs := [_, _, _]) t28 rfl rfl rfl (by omega)) ?_
        rintro _ _ w8_6 ⟨b8_6, rfl, rfl⟩
        refine wl_e (e_appN 3 t28 rfl rfl rfl (fun w hh => Rd.held0 hh (i := 0) rfl) (by simp [Value.oneCell']) (by omega) (by omega)) ?_
        rintro _ _ w6 ⟨⟨U3, c3, rfl⟩, rfl⟩
        refine wl_pick [5, 1, 2, 2] rfl ?_
        refine wl_snoc ?_
        refine wl_pick [1, 1, 0] rfl ?_
        refine wl_f (f_assign rfl) ?_
        refine wl_end [(7, _), (8, _)] ⟨rfl, rfl, trivial⟩ ?_
        refine ⟨E ++ [(.slice (some ⟨b8_4, 0, .none⟩) 1 1, [(str (List.replicate 4080 0), ByteArray.empty)], 0, 0)], M ++ [(.slice (some ⟨b8_4, 0, .none⟩) 1 1, [(str (List.replicate 4080 0), ByteArray.empty)], 0, 0)], .slice U3 (M.length + 1) c3, rfl,
          by rw [List.map_append, List.length_append, ecells_app]; rfl, by rw [List.length_append]; show M.length + 1 ≤ 71; omega, ?_, fun x hx => List.mem_append_left _ hx, ?_⟩
        · intro x hx
          rcases List.mem_append.1 hx with hx | hx
          · exact deck_evOk (hE x hx)
          · rw [List.mem_singleton] at hx; subst hx; exact ⟨by show 1 ≤ 1000000; omega, by show (-9223372036854775808 : Int) ≤ 0 ∧ (0 : Int) ≤ 9223372036854775807; omega, by show 0 < 18446744073709551616; omega⟩
        · intro x hx
          rcases List.mem_append.1 hx with hx | hx
          · exact List.mem_append_left _ (hM x hx)
          · exact List.mem_append_right _ hx
      · skip
        refine w_sub [(7, _), (8, _)] ⟨rfl, rfl, trivial⟩ (w_skip ?_)
        exact ⟨E, M, _, rfl, rfl, by omega, fun x hx => deck_evOk (hE x hx), fun x hx => hx, hM⟩
    · clear hM hq
      rintro _ _ w8 ⟨R, M, V', rfl, rfl, hM71, hR, hER, hMR⟩
      refine w_with fun hh => ?_
      obtain ⟨U4, c4, rfl⟩ := row_slice hh (i := 0) rfl
      clear hh
      refine w_seq ?_
      refine w_seq ?_
      refine w_reg ?_
      refine wl_f (f_move rfl) ?_
      refine wl_f (f_move rfl) ?_
      refine wl_e (e_litrow (e := 28) (sz := 1) rfl (fun w => lit_ll2 _ _ _ _ _ _ w) rfl (by decide)) ?_
      rintro _ _ w9_2 ⟨b9_2, rfl, rfl⟩
      refine wl_f (f_len rfl Try.underlying53) ?_
      refine wl_f (f_move rfl) ?_
      refine wl_end [(51, _), (52, _), (53, _)] ⟨rfl, rfl, rfl, trivial⟩ ?_
      refine w_block ?_
      refine w_loop (fun q m H w' => ∃ i : Nat, m = [(51, .slice (some ⟨b9_2, 0, .none⟩) 2 2), (52, .int .i64 2), (53, .int .i64 i)] ∧
        H = [row (.slice (some ⟨b9_2, 0, .none⟩) 2 2) 28 1 2 [.slice (some ⟨g1, 0, .none⟩) E.length k1, .slice U4 M.length c4], row (.slice U4 M.length c4) 40 3 M.length (ecells M), row (.slice (some ⟨g1, 0, .none⟩) E.length k1) 40 3 E.length (ecells E), bun (R.map trow)] ∧ q + i = 2) 2 ⟨0, rfl, rfl, rfl⟩ ?_
      rintro q _ _ w9 ⟨i, rfl, rfl, hq⟩
      refine w_seq ?_
      refine w_reg ?_
      refine wl_f (f_lss rfl rfl) ?_
      refine wl_end [(51, _), (52, _), (53, _), (54, _)] ⟨rfl, rfl, rfl, rfl, trivial⟩ ?_
      refine w_seq ?_
      refine w_ifd rfl (fun hc3 => ?_) (fun hc3 => ?_)
      · skip
        obtain ⟨Vx, X, hxv, hxl, hxr⟩ : ∃ (Vx : Value) (X : List Ev), ([.slice (some ⟨g1, 0, .none⟩) E.length k1, .slice U4 M.length c4] : List Value)[0 + i * 1]? = some Vx ∧ X.length ≤ 1000000 ∧
            ∀ H0 w', Holds w Nil (H0 ++ [row (.slice (some ⟨b9_2, 0, .none⟩) 2 2) 28 1 2 [.slice (some ⟨g1, 0, .none⟩) E.length k1, .slice U4 M.length c4], row (.slice U4 M.length c4) 40 3 M.length (ecells M), row (.slice (some ⟨g1, 0, .none⟩) E.length k1) 40 3 E.length (ecells E), bun (R.map trow)]) w' → RdE w' Vx X := by
          match i, hc3 with
          | 0, _ => exact ⟨_, E, rfl, by omega, fun H0 w' hh => rdE_of hh (i := H0.length + 2) (j := H0.length + 3) (by simp) (by simp) hR hER⟩
          | 1, _ => exact ⟨_, M, rfl, by omega, fun H0 w' hh => rdE_of hh (i := H0.length + 1) (j := H0.length + 3) (by simp) (by simp) hR hMR⟩
          | i + 2, h => omega
        have hXb := bodyOut_le X
        have hXf := frameOut_le X
        refine w_skip ?_
        refine w_seq ?_
        refine w_block ?_
        refine w_seq ?_
        refine w_reg ?_
        refine wl_f (f_indexAddr 1 rfl rfl Try.underlying53 (by kernel_rfl) rfl (by omega)) ?_
        refine wl_f (f_loadr (v := Vx) 0 rfl Try.underlying28 rfl rfl hxv) ?_
        refine wl_f (f_assign rfl) ?_
        refine wl_end [(11, _), (51, _), (52, _), (53, _)] ⟨rfl, rfl, rfl, rfl, trivial⟩ ?_
        refine w_seq ?_
        refine w_reg ?_
        refine wl_f (f_move rfl) ?_
        refine wl_e (e_call0 rfl Try.func15 (by kernel_rfl) (fun w hh => body_spec Vx X w (hxr [] w hh) hxl)) ?_
        rintro _ _ w10 ⟨_, rfl, Y1, rfl, rfl⟩
        refine wl_f (f_move rfl) ?_
        refine wl_f (f_extract rfl rfl) ?_
        refine wl_f (f_extract rfl rfl) ?_
        refine wl_f (f_assign rfl) ?_
        refine wl_f (f_assign rfl) ?_
        refine wl_end [(11, _), (12, _), (13, _), (51, _), (52, _), (53, _)] ⟨rfl, rfl, rfl, rfl, rfl, rfl, trivial⟩ ?_
        refine w_seq ?_
        refine w_reg ?_
        refine wl_f (f_move rfl) ?_
        refine wl_e (e_call0 rfl Try.func9 (by kernel_rfl) (fun w hh => rbody_spec Vx X w (hxr [_] w hh) hxl)) ?_
        rintro _ _ w11 ⟨_, rfl, Y2, rfl, rfl⟩
        refine wl_f (f_move rfl) ?_
        refine wl_f (f_extract rfl rfl) ?_
        refine wl_f (f_extract rfl rfl) ?_
        refine wl_f (f_assign rfl) ?_
        refine wl_f (f_assign rfl) ?_
        refine wl_end [(11, _), (12, _), (13, _), (14, _), (15, _), (51, _), (52, _), (53, _)] ⟨rfl, rfl, rfl, rfl, rfl, rfl, rfl, rfl, trivial⟩ ?_
        refine w_seq ?_
        refine w_reg ?_
        refine wl_f (f_move rfl) ?_
        refine wl_e (e_call0 rfl Try.func18 (by kernel_rfl) (fun w hh => frame_spec Vx X w (hxr [_, _] w hh) hxl)) ?_
        rintro _ _ w12 ⟨_, rfl, Y3, rfl, rfl⟩
        refine wl_f (f_move rfl) ?_
        refine wl_f (f_extract rfl rfl) ?_
        refine wl_f (f_extract rfl rfl) ?_
        refine wl_f (f_assign rfl) ?_
        refine wl_f (f_assign rfl) ?_
        refine wl_end [(11, _), (12, _), (13, _), (14, _), (15, _), (16, _), (17, _), (51, _), (52, _), (53, _)] ⟨rfl, rfl, rfl, rfl, rfl, rfl, rfl, rfl, rfl, rfl, trivial⟩ ?_
        refine w_seq ?_
        refine w_reg ?_
        refine wl_f (f_move rfl) ?_
        refine wl_e (e_call0 rfl Try.func19 (by kernel_rfl) (fun w hh => rframe_spec Vx X w (hxr [_, _, _] w hh) hxl)) ?_
        rintro _ _ w13 ⟨_, rfl, Y4, rfl, rfl⟩
        refine wl_f (f_move rfl) ?_
        refine wl_f (f_extract rfl rfl) ?_
        refine wl_f (f_extract rfl rfl) ?_
        refine wl_f (f_assign rfl) ?_
        refine wl_f (f_assign rfl) ?_
        refine wl_end [(12, _), (13, _), (14, _), (15, _), (16, _), (17, _), (18, _), (19, _), (51, _), (52, _), (53, _)] ⟨rfl, rfl, rfl, rfl, rfl, rfl, rfl, rfl, rfl, rfl, rfl, trivial⟩ ?_
        refine w_seq ?_
        refine w_reg ?_
        refine wl_f (f_move rfl) ?_
        refine wl_f (f_move rfl) ?_
        refine wl_e (e_call0 rfl Try.func20 (by kernel_rfl) (fun w hh => same_spec _ _ (bodyOut X).1 (bodyOut X).1 w (Rd.held0 hh (i := 3) rfl) (Rd.held0 hh (i := 2) rfl) (by omega) (by omega))) ?_
        rintro _ _ w14 ⟨_, rfl, rfl, rfl⟩
        refine wl_f (f_not rfl rfl) ?_
        refine wl_f (f_move rfl) ?_
        refine wl_or (j := 4) (c := decide ((bodyOut X).2 ≠ (bodyOut X).2)) 3 [(16, _), (17, _), (18, _), (19, _), (51, _), (52, _), (53, _)] ⟨rfl, rfl, rfl, rfl, rfl, rfl, rfl, trivial⟩ rfl rfl rfl rfl rfl (fun hg16_8 => ?_) (fun w16_8 => ?_)
        · skip
          refine wl_gf rfl rfl (f_move rfl) ?_
          refine wl_gf rfl rfl (f_move rfl) ?_
          refine wl_gf rfl rfl (f_neq rfl rfl) ?_
          exact wl_pend rfl rfl ⟨rfl, rfl, rfl, rfl, rfl, rfl, rfl, trivial⟩ (List.Sublist.refl _)
        refine wl_f (f_move rfl) ?_
        refine wl_or (j := 9) (c := !(decide ((frameOut X).1 = (frameOut X).1))) 4 [(17, _), (19, _), (51, _), (52, _), (53, _)] ⟨rfl, rfl, rfl, rfl, rfl, trivial⟩ rfl rfl rfl rfl rfl (fun hg16_14 => ?_) (fun w16_14 => ?_)
        · skip
          refine wl_gf rfl rfl (f_move rfl) ?_
          refine wl_gf rfl rfl (f_move rfl) ?_
          refine wl_ge rfl rfl (e_call0 rfl Try.func20 (by kernel_rfl) (fun w hh => same_spec _ _ (frameOut X).1 (frameOut X).1 w (Rd.held0 hh (i := 1) rfl) (Rd.held0 hh (i := 0) rfl) (by omega) (by omega))) ?_
          rintro _ _ w15 ⟨_, rfl, rfl, rfl⟩
          refine wl_gf rfl rfl (f_not rfl rfl) ?_
          exact wl_pend rfl rfl ⟨rfl, rfl, rfl, rfl, rfl, trivial⟩ (List.Sublist.refl _)
        refine wl_f (f_move rfl) ?_
        refine wl_or (j := 15) (c := decide ((frameOut X).2 ≠ (frameOut X).2)) 3 [(51, _), (52, _), (53, _)] ⟨rfl, rfl, rfl, trivial⟩ rfl rfl rfl rfl rfl (fun hg16_19 => ?_) (fun w16_19 => ?_)
        · skip
          refine wl_gf rfl rfl (f_move rfl) ?_
          refine wl_gf rfl rfl (f_move rfl) ?_
          refine wl_gf rfl rfl (f_neq rfl rfl) ?_
          exact wl_pend rfl rfl ⟨rfl, rfl, rfl, trivial⟩ (List.Sublist.refl _)
        refine wl_end [(51, _), (52, _), (53, _), (96, _)] ⟨rfl, rfl, rfl, rfl, trivial⟩ ?_
        refine w_ifb rfl (fun h => absurd h (by simp)) (fun _ => w_pick [4, 4, 4, 4] rfl ?_)
        refine w_skip ?_
        refine w_reg ?_
        refine wl_f (f_add rfl rfl (by omega)) ?_
        refine wl_f (f_move rfl) ?_
        refine wl_end [(51, _), (52, _), (53, _)] ⟨rfl, rfl, rfl, trivial⟩ ?_
        exact ⟨q - 1, by omega, i + 1, rfl, rfl, by omega⟩
      · skip
        refine w_exit0 ?_
        refine w_seq ?_
        refine w_reg ?_
        refine wl_e (e_call0 rfl Try.func8 (by kernel_rfl) (fun w hh => fawake_spec w)) ?_
        rintro _ _ w7 ⟨_, rfl, rfl, rfl⟩
        refine wl_f (f_assign rfl) ?_
        refine wl_end [(6, _)] ⟨rfl, trivial⟩ ?_
        refine w_ret ?_
        refine ⟨_, _, fun a ha hh => results_tmps Try.results6 rfl a ha _, List.Sublist.refl _, ?_⟩
        rfl
end Go.Proofs.Ythbjjfpikfmmnaa
