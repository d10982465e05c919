/- The law TagsSplit: the call returns true. -/
import Derived.Test.YthomfpfjcniknaaD15
import Derived.Test.YthomfpfjcniknaaE6
import Derived.Test.YthomfpfjcniknaaK8
namespace Go.Proofs.Ythomfpfjcniknaa
open Go.RowKit

theorem lit_str4 (a b c d : ByteArray) (w : World) : (Instr.buildSlice 64 4 [(0, .string a), (1, .string b), (2, .string c), (3, .string d)].toArray).run Try.prog w =
    .ok (.slice (some ⟨w.heap.size, 0, .none⟩) 4 4) (w.alloc (.cells [.string a, .string b, .string c, .string d].toArray 9)) := by kernel_rfl
theorem keyOut_le (l : List Tg) : (keyOut l).1.length ≤ 255 := by
  unfold keyOut
  split
  · simp
  · split
    · simp
    · rename_i h; show (keyB (isort l)).length ≤ 255; omega
theorem parse_len : ∀ (f : Nat) (s : ByteArray) (out : List Tg), parse f s = some out → out.length ≤ f
  | 0, s, out, h => by
    unfold parse at h
    split at h
    · injection h with h; subst h; simp
    · cases h
  | f + 1, s, out, h => by
    unfold parse at h
    split at h
    · injection h with h; subst h; simp
    · split at h
      · cases h
      · split at h
        · cases h
        · obtain ⟨o, ho, rfl⟩ := Option.map_eq_some_iff.1 h
          have := parse_len f _ o ho
          simp; omega
theorem splitOut_le (s : ByteArray) : (splitOut s).1.length ≤ 255 := by
  unfold splitOut
  split
  · simp
  · split
    · simp
    · rename_i out h
      split
      · simp
      · exact parse_len _ _ _ h
theorem bv_set (bl : List Nat) (j k : Nat) (hj : j < bl.length) : (bv bl).take (0 + j * 1) ++ [.int .u8 (k : Int)] ++ (bv bl).drop (0 + j * 1 + 1) = bv (bl.set j k) := by
  rw [show 0 + j * 1 = j by omega, List.set_eq_take_append_cons_drop, if_pos hj]
  simp [bv, List.map_take, List.map_drop]
theorem cut_bytes {w : World} {A : Option Addr} {c q : Nat} {bl : List Nat} (h : Rd w Nil 1 (.slice A bl.length c) bl.length (bv bl)) (hq : q ≤ bl.length) :
    Rd w Nil 1 (.slice (if c = 0 then A else A.map (·.add (0 * 1))) (q - 0) (c - 0)) (bl.take q).length (bv (bl.take q)) := by
  have := h.cut (l := 0) (u := q) (by omega) hq
  have e1 : ((bv bl).drop (0 * 1)).take ((q - 0) * 1) = bv (bl.take q) := by simp [bv, List.map_take]
  have e2 : q - 0 = (bl.take q).length := by rw [List.length_take]; omega
  rw [e1] at this
  rwa [e2] at this ⊢

set_option maxHeartbeats 4000000 in
theorem tagsSplit_spec (raw : ByteArray) (D : Option Addr) (dc : Nat) (L : List Int) (at_ : Int) (k : Nat) (w : World) (hraw : raw.size ≤ 140737488355328)
    (hd : Rd w Nil 1 (.slice D L.length dc) L.length (iv L)) (hL : L.length ≤ 140737488355328) (hk : k < 256) :
    Spec Try.prog 11 [.string raw, .slice D L.length dc, .int .i64 at_, .int .u8 k] w Nil fun r _ => r = .bool true := by
  refine enter (n := 90) Try.func11 rfl rfl [(0, _), (1, _), (2, _), (3, _)] rfl ⟨rfl, rfl, rfl, rfl, trivial⟩ (Holds.start _ _) ?_
  refine w_seq ?_
  refine w_reg ?_
  refine wl_f (f_assign rfl) ?_
  refine wl_end [(0, _), (1, _), (2, _), (3, _)] ⟨rfl, rfl, rfl, rfl, trivial⟩ ?_
  refine w_seq ?_
  refine w_seq ?_
  refine w_reg ?_
  refine wl_f (f_move rfl) ?_
  refine wl_f (f_lens rfl Try.underlying9) ?_
  refine wl_f (f_gtr rfl rfl) ?_
  refine wl_end [(0, _), (1, _), (2, _), (3, _), (21, _)] ⟨rfl, rfl, rfl, rfl, rfl, trivial⟩ ?_
  refine w_ifd rfl (fun hc1 => ?_) (fun hc1 => ?_)
  · skip
    refine w_seq ?_
    refine w_reg ?_
    refine wl_e (e_call0 rfl Try.func30 (by kernel_rfl) (fun w hh => awake3_spec w)) ?_
    rintro _ _ w1 ⟨_, rfl, rfl, rfl⟩
    refine wl_f (f_assign rfl) ?_
    refine wl_end [(8, _)] ⟨rfl, trivial⟩ ?_
    refine w_ret ?_
    refine ⟨_, _, fun a ha hh => results_tmps Try.results11 rfl a ha _, List.Sublist.refl _, ?_⟩
    rfl
  · skip
    refine w_skip ?_
    refine w_seq ?_
    refine w_reg ?_
    refine wl_f (f_move rfl) ?_
    refine wl_e (e_call0 rfl Try.func31 (by kernel_rfl) (fun w hh => list_spec D _ dc L 0 ⟨#[]⟩ ⟨#[]⟩ w (hd.old0 hh) hL)) ?_
    rintro v1 _ w1 ⟨_, rfl, T, rfl, hT, hg, _⟩
    have hg := hg rfl
    refine wl_e (e_call0 rfl Try.func35 (by kernel_rfl) (fun w hh => rkey_spec v1 T w (Rd.held0 hh (i := 0) rfl) (by omega) (fun t ht => by have := (hg t ht).2.2.1; omega))) ?_
    rintro _ _ w2 ⟨_, rfl, rfl, rfl⟩
    refine wl_f (f_move rfl) ?_
    refine wl_f (f_extract rfl rfl) ?_
    refine wl_f (f_extract rfl rfl) ?_
    refine wl_f (f_assign rfl) ?_
    refine wl_f (f_assign rfl) ?_
    refine wl_rm0 ?_
    refine wl_end [(0, _), (2, _), (3, _), (9, _), (10, _)] ⟨rfl, rfl, rfl, rfl, rfl, trivial⟩ ?_
    refine w_seq ?_
    refine w_reg ?_
    refine wl_f (f_move rfl) ?_
    refine wl_e (e_s2b rfl Try.underlying9 Try.underlying33 Try.underlying5) ?_
    rintro _ _ w3 ⟨⟨g, c, rfl⟩, rfl⟩
    have hkl := keyOut_le T
    have hks := str_size (keyOut T).1
    refine wl_f (f_assign rfl) ?_
    refine wl_end [(0, _), (2, _), (3, _), (10, _), (11, _)] ⟨rfl, rfl, rfl, rfl, rfl, trivial⟩ ?_
    refine w_seq ?_
    refine w_seq ?_
    refine w_reg ?_
    refine wl_f (f_move rfl) ?_
    refine wl_f (f_neq rfl rfl) ?_
    refine wl_f (f_move rfl) ?_
    refine wl_or (j := 2) (c := decide (((str (keyOut T).1).size : Int) = 0)) 3 [(0, _), (2, _), (3, _), (11, _)] ⟨rfl, rfl, rfl, rfl, trivial⟩ rfl rfl rfl rfl rfl (fun hg5_6 => ?_) (fun w5_6 => ?_)
    · skip
      refine wl_gf rfl rfl (f_move rfl) ?_
      refine wl_gf rfl rfl (f_len rfl Try.underlying33) ?_
      refine wl_gf rfl rfl (f_eql rfl rfl) ?_
      exact wl_pend rfl rfl ⟨rfl, rfl, rfl, rfl, trivial⟩ (List.Sublist.refl _)
    refine wl_end [(0, _), (2, _), (3, _), (11, _), (37, _)] ⟨rfl, rfl, rfl, rfl, rfl, trivial⟩ ?_
    refine w_post (fun m H w => ∃ (g c : Nat) (bl : List Nat), m = [(0, .string raw), (2, .int .i64 at_), (3, .int .u8 k), (11, .slice (some ⟨g, 0, .none⟩) bl.length c)] ∧ H = [ror (.slice (some ⟨g, 0, .none⟩) bl.length c) 1 bl.length (bv bl)] ∧
    1 ≤ bl.length ∧ bl.length ≤ 300) ?_ ?_
    · skip
      refine w_ifb rfl (fun hc2 => ?_) (fun hc2 => ?_)
      · skip
        refine w_reg ?_
        refine wl_e (e_litrow (e := 5) (sz := 1) (us := [(0, .int .u8 1), (1, .int .u8 97), (2, .int .u8 0)]) (cs := bv [1, 97, 0]) rfl (fun w => by kernel_rfl) rfl (by decide)) ?_
        rintro _ _ w4 ⟨b6, rfl, rfl⟩
        refine wl_e (e_constb rfl Try.underlying33 Try.underlying5) ?_
        rintro _ _ w5 ⟨rfl, rfl⟩
        refine wl_f (f_assign rfl) ?_
        refine wl_rm1 ?_
        refine wl_end [(0, _), (2, _), (3, _), (11, _)] ⟨rfl, rfl, rfl, rfl, trivial⟩ ?_
        exact ⟨_, _, [1, 97, 0], rfl, rfl, by decide, by decide⟩
      · skip
        simp only [Bool.or_eq_true, decide_eq_true_eq, not_or] at hc2
        refine w_sub [(0, _), (2, _), (3, _), (11, _)] ⟨rfl, rfl, rfl, rfl, trivial⟩ (w_skip ?_)
        refine ⟨g, c, sb (str (keyOut T).1), by rw [sb_len], by rw [sb_len]; rfl, by rw [sb_len]; omega, by rw [sb_len]; omega⟩
    · rintro _ _ w6 ⟨g, c, bl, rfl, rfl, hb1, hb2⟩
      refine w_with fun hh => ?_
      have hcb : bl.length ≤ c := by
        obtain ⟨_, _, e, _, h, _⟩ := Rd.ror hh (i := 0) rfl
        injection e with _ _ e
        subst e
        exact h
      clear hh
      refine w_seq ?_
      refine w_reg ?_
      refine wl_e (e_lit0 t33) ?_
      rintro _ _ w7_0 ⟨b7_0, rfl, rfl⟩
      refine wl_f (f_move rfl) ?_
      refine wl_e (e_appS0 t33 rfl rfl (fun w hh => Rd.ror hh (i := 1) rfl) (bv_one bl) (by omega) (by omega)) ?_
      rintro _ _ w7 ⟨⟨U, cu, rfl⟩, rfl⟩
      rw [Nat.zero_add, List.nil_append]
      refine wl_with fun hh => ?_
      obtain ⟨g2, c2, e⟩ := row_form hh (i := 0) rfl (by omega)
      injection e with e1 _ e3
      subst e1; subst e3
      clear hh
      refine wl_f (f_assign rfl) ?_
      refine wl_end [(0, _), (2, _), (3, _), (11, _), (12, _)] ⟨rfl, rfl, rfl, rfl, rfl, trivial⟩ ?_
      refine w_seq ?_
      refine w_reg ?_
      refine wl_f (f_move rfl) ?_
      refine wl_f (f_move rfl) ?_
      refine wl_f (f_shr rfl rfl (by omega) rfl) ?_
      refine wl_f (f_and rfl rfl rfl) ?_
      generalize hq0 : bits .and .i64 _ 255 = q0
      have hq1 := and_bound (at_.fdiv (2 ^ min (Int.toNat 1) IntKind.i64.bits)) 255 (by omega)
      have hq2 : 0 ≤ q0 ∧ q0 ≤ 255 := hq0 ▸ hq1
      obtain ⟨q, rfl⟩ : ∃ q : Nat, q0 = q := ⟨q0.toNat, by omega⟩
      refine wl_f (f_move rfl) ?_
      refine wl_f (f_len rfl Try.underlying33) ?_
      refine wl_f (f_rem rfl rfl (by omega)) ?_
      have hj : q % bl.length < bl.length := Nat.mod_lt _ (by omega)
      refine wl_f (f_move rfl) ?_
      refine wl_f (f_indexAddr 1 (i := q % bl.length) rfl rfl Try.underlying33 (by kernel_rfl) rfl hj) ?_
      refine wl_e0 (e_storer0 (us := [.int .u8 k]) (xs' := bv (bl.set (q % bl.length) k)) rfl rfl rfl (by kernel_rfl) (by simp [Value.oneCell']) (by rw [bv_len]; show 0 + (q % bl.length) * 1 + 1 ≤ _; omega) (bv_set bl _ k hj)) ?_
      rintro _ _ w8_9 rfl
      refine wl_end [(0, _), (11, _), (12, _)] ⟨rfl, rfl, rfl, trivial⟩ ?_
      refine w_seq ?_
      refine w_seq ?_
      have hsl : (bl.set (q % bl.length) k).length = bl.length := List.length_set
      refine w_draw [(0, true), (1, true), (2, true), (3, true), (4, true), (5, true), (6, true), (7, true), (8, true), (9, true), (10, true), (13, true), (11, false), (12, true)] (_) ([]) mixed (by kernel_rfl) (by kernel_rfl) rfl (perm_all _) (fun w9_ => ?_)
      refine wd_f rfl (f_move rfl) ?_
      refine wd_f rfl (f_move rfl) ?_
      refine wd_f rfl (f_b2s (xs := bl) rfl Try.underlying33 Try.underlying5 Try.underlying9 (fun w hh => Rd.ror hh (i := 1) rfl)) ?_
      refine wd_f rfl (f_move rfl) ?_
      refine wd_f rfl (f_b2s (xs := bl.set (q % bl.length) k) rfl Try.underlying33 Try.underlying5 Try.underlying9 (fun w hh => by rw [hsl]; exact Rd.held0 hh (i := 0) rfl)) ?_
      refine wd_f rfl (f_move rfl) ?_
      refine wd_f rfl (f_move rfl) ?_
      refine wd_f rfl (f_len rfl Try.underlying33) ?_
      refine wd_f rfl (f_eqv (v' := .int .i64 ((bl.length - 1 : Nat) : Int)) (f_sub rfl rfl (by omega)) (by congr 1; omega)) ?_
      refine wd_f rfl (f_sliceA 1 (l := 0) (u := bl.length - 1) rfl Try.underlying33 (by kernel_rfl) rfl ⟨_, rfl⟩ (by omega) (by omega)) ?_
      refine wd_f rfl (f_b2s (xs := bl.take (bl.length - 1)) rfl Try.underlying33 Try.underlying5 Try.underlying9 (fun w hh => cut_bytes (Rd.ror hh (i := 1) rfl) (by omega))) ?_
      refine wd_f rfl (f_move rfl) ?_
      refine wd_e rfl (e_litrow (e := 9) (sz := 1) rfl (fun w => lit_str4 _ _ _ _ w) rfl (by decide)) ?_
      rintro _ _ w9_11 ⟨b9_11, rfl, rfl⟩
      refine ⟨_, List.perm_middle.symm, ?_⟩
      refine wd_f rfl (f_len rfl Try.underlying64) ?_
      refine wd_endp [(63, _), (64, _), (65, _)] [2] ⟨rfl, rfl, rfl, trivial⟩ rfl ?_
      refine w_block ?_
      obtain ⟨X, hX⟩ : ∃ X : List ByteArray, X = [raw, str bl, str (bl.set (q % bl.length) k), str (bl.take (bl.length - 1))] := ⟨_, rfl⟩
      have hXs : ∀ s ∈ X, s.size ≤ 300 := by
        rw [hX]
        simp only [List.mem_cons, List.not_mem_nil, or_false, forall_eq_or_imp, forall_eq, str_size, List.length_set, List.length_take]
        omega
      have hX4 : X.length = 4 := by rw [hX]; rfl
      refine w_loop (fun z m H w => ∃ i : Nat, m = [(63, .slice (some ⟨b9_11, 0, .none⟩) 4 4), (64, .int .i64 4), (65, .int .i64 i)] ∧ H = [row (.slice (some ⟨b9_11, 0, .none⟩) 4 4) 9 1 4 (X.map Value.string)] ∧ z + i = 4) 4
        ⟨0, rfl, by rw [hX]; rfl, rfl⟩ ?_
      rintro z _ _ w8 ⟨i, rfl, rfl, hz⟩
      refine w_seq ?_
      refine w_reg ?_
      refine wl_f (f_lss rfl rfl) ?_
      refine wl_end [(63, _), (64, _), (65, _), (66, _)] ⟨rfl, rfl, rfl, rfl, trivial⟩ ?_
      refine w_seq ?_
      refine w_ifd rfl (fun hc3 => ?_) (fun hc3 => ?_)
      · skip
        obtain ⟨s, hs⟩ : ∃ s, X[i]? = some s := ⟨X[i]'(by omega), List.getElem?_eq_getElem (by omega)⟩
        have hss := hXs s (List.mem_of_getElem? hs)
        refine w_skip ?_
        refine w_seq ?_
        refine w_block ?_
        refine w_seq ?_
        refine w_reg ?_
        refine wl_f (f_indexAddr 1 rfl rfl Try.underlying64 (by kernel_rfl) rfl (by omega)) ?_
        refine wl_f (f_loadr (v := .string s) 0 rfl Try.underlying9 rfl rfl (by simp [hs])) ?_
        refine wl_f (f_assign rfl) ?_
        refine wl_end [(14, _), (63, _), (64, _), (65, _)] ⟨rfl, rfl, rfl, rfl, trivial⟩ ?_
        refine w_seq ?_
        refine w_reg ?_
        refine wl_f (f_move rfl) ?_
        refine wl_e (e_call0 rfl Try.func38 (by kernel_rfl) (fun w hh => split_spec s w (by omega))) ?_
        rintro _ _ w9 ⟨_, rfl, u1, rfl, rfl⟩
        refine wl_f (f_move rfl) ?_
        refine wl_f (f_extract rfl rfl) ?_
        refine wl_f (f_extract rfl rfl) ?_
        refine wl_f (f_assign rfl) ?_
        refine wl_f (f_assign rfl) ?_
        refine wl_end [(14, _), (15, _), (16, _), (63, _), (64, _), (65, _)] ⟨rfl, rfl, rfl, rfl, rfl, rfl, trivial⟩ ?_
        refine w_seq ?_
        refine w_reg ?_
        refine wl_f (f_move rfl) ?_
        refine wl_e (e_call0 rfl Try.func39 (by kernel_rfl) (fun w hh => rsplit_spec s w (by omega))) ?_
        rintro _ _ w10 ⟨_, rfl, u2, rfl, rfl⟩
        have hspl := splitOut_le s
        refine wl_f (f_move rfl) ?_
        refine wl_f (f_extract rfl rfl) ?_
        refine wl_f (f_extract rfl rfl) ?_
        refine wl_f (f_assign rfl) ?_
        refine wl_f (f_assign rfl) ?_
        refine wl_end [(15, _), (16, _), (17, _), (18, _), (63, _), (64, _), (65, _)] ⟨rfl, rfl, rfl, rfl, rfl, rfl, rfl, trivial⟩ ?_
        refine w_seq ?_
        refine w_reg ?_
        refine wl_f (f_move rfl) ?_
        refine wl_f (f_move rfl) ?_
        refine wl_e (e_call0 rfl Try.func36 (by kernel_rfl) (fun w hh => sameTags_spec _ _ _ _ w (Rd.held0 hh (i := 1) rfl) (Rd.held0 hh (i := 0) rfl) (by omega) (by omega))) ?_
        rintro _ _ w11 ⟨_, rfl, rfl, rfl⟩
        refine wl_f (f_not rfl rfl) ?_
        refine wl_f (f_move rfl) ?_
        refine wl_or (j := 4) (c := decide ((splitOut s).2 ≠ (splitOut s).2)) 3 [(63, _), (64, _), (65, _)] ⟨rfl, rfl, rfl, trivial⟩ rfl rfl rfl rfl rfl (fun hg14_8 => ?_) (fun w14_8 => ?_)
        · skip
          refine wl_gf rfl rfl (f_move rfl) ?_
          refine wl_gf rfl rfl (f_move rfl) ?_
          refine wl_gf rfl rfl (f_neq rfl rfl) ?_
          exact wl_pend rfl rfl ⟨rfl, rfl, rfl, trivial⟩ (List.Sublist.refl _)
        refine wl_end [(63, _), (64, _), (65, _), (87, _)] ⟨rfl, rfl, rfl, rfl, trivial⟩ ?_
        refine w_ifb rfl (fun h => absurd h (by simp)) (fun _ => w_rm0 (w_rm0 ?_))
        refine w_skip ?_
        refine w_reg ?_
        refine wl_f (f_add rfl rfl (by omega)) ?_
        refine wl_f (f_move rfl) ?_
        refine wl_end [(63, _), (64, _), (65, _)] ⟨rfl, rfl, rfl, trivial⟩ ?_
        exact ⟨z - 1, by omega, i + 1, rfl, rfl, by omega⟩
      · skip
        refine w_exit0 ?_
        refine w_seq ?_
        refine w_reg ?_
        refine wl_e (e_call0 rfl Try.func30 (by kernel_rfl) (fun w hh => awake3_spec w)) ?_
        rintro _ _ w12 ⟨_, rfl, rfl, rfl⟩
        refine wl_f (f_assign rfl) ?_
        refine wl_end [(8, _)] ⟨rfl, trivial⟩ ?_
        refine w_ret ?_
        refine ⟨_, _, fun a ha hh => results_tmps Try.results11 rfl a ha _, List.Sublist.refl _, ?_⟩
        rfl
end Go.Proofs.Ythomfpfjcniknaa
