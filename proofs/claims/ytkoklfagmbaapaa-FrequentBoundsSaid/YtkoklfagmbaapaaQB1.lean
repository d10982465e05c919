/- The law FrequentBounds: the call returns true. -/
import Derived.Test.YtkoklfagmbaapaaQ12
namespace Go.Proofs.Ytkoklfagmbaapaa
open Go.RowKit


set_option maxHeartbeats 8000000 in
theorem frequentBounds_spec (z : Nat) (A1 : Option Addr) (c1 : Nat) (L1 : List Int) (A2 : Option Addr) (c2 : Nat) (L2 : List Int) (w : World) (hz : z < 256)
    (h1 : Rd w Nil 1 (.slice A1 L1.length c1) L1.length (iv L1)) (hL1 : L1.length ≤ 140737488355328) (h2 : Rd w Nil 1 (.slice A2 L2.length c2) L2.length (L2.map (Value.int .u16))) (hL2 : L2.length ≤ 140737488355328) (hb2 : ∀ x ∈ L2, 0 ≤ x ∧ x ≤ 65535) :
    Spec Try.prog 3 [.int .u8 z, .slice A1 L1.length c1, .slice A2 L2.length c2] w Nil fun r _ => r = .bool true := by
  obtain ⟨A', c', e, hxl, hxc, hxA⟩ := id h2
  injection e with e1 _ e3
  subst e1; subst e3
  refine enter (n := 151) Try.func3 rfl rfl [(0, _), (1, _), (2, _)] rfl ⟨rfl, rfl, rfl, trivial⟩ (Holds.start _ _) ?_
  refine w_seq ?_
  refine w_reg ?_
  refine wl_f (f_assign rfl) ?_
  refine wl_end [(0, _), (1, _), (2, _)] ⟨rfl, rfl, rfl, trivial⟩ ?_
  refine w_seq ?_
  refine w_reg ?_
  refine wl_f (f_move rfl) ?_
  refine wl_f (f_convi rfl Try.underlying5 Try.underlying3 (by omega)) ?_
  refine wl_f (f_rem rfl rfl (by omega)) ?_
  refine wl_f (f_eqv (v' := .int .i64 ((1 + z % 8 : Nat) : Int)) (f_add rfl rfl (by omega)) (by congr 1)) ?_
  obtain ⟨m, hm, hm1, hm8⟩ : ∃ m, 1 + z % 8 = m ∧ 1 ≤ m ∧ m ≤ 8 := ⟨_, rfl, by omega, by omega⟩
  rw [hm]
  refine wl_f (f_assign rfl) ?_
  refine wl_end [(1, _), (2, _), (7, _)] ⟨rfl, rfl, rfl, trivial⟩ ?_
  refine w_seq ?_
  refine w_reg ?_
  refine wl_f (f_move rfl) ?_
  refine wl_e (e_call0 rfl Try.func8 (by kernel_rfl) (fun w hh => frnew_ok m w hm1 (by omega))) ?_
  rintro _ _ w1 ⟨_, rfl, t, r0, rfl, rfl, hr0⟩
  refine wl_f (f_move rfl) ?_
  refine wl_f (f_extract rfl rfl) ?_
  refine wl_f (f_extract rfl rfl) ?_
  refine wl_f (f_assign rfl) ?_
  refine wl_f (f_assign rfl) ?_
  refine wl_end [(1, _), (2, _), (7, _), (8, _), (9, _)] ⟨rfl, rfl, rfl, rfl, rfl, trivial⟩ ?_
  refine w_seq ?_
  refine w_seq ?_
  refine w_reg ?_
  refine wl_f (f_move rfl) ?_
  refine wl_f (f_neq rfl rfl) ?_
  refine wl_f (f_move rfl) ?_
  refine wl_or (j := 2) (c := false) 2 [(1, _), (2, _), (7, _), (8, _)] ⟨rfl, rfl, rfl, rfl, trivial⟩ rfl rfl rfl rfl rfl (fun hg3_5 => ?_) (fun w3_5 => ?_)
  · skip
    refine wl_gf rfl rfl (f_move rfl) ?_
    refine wl_gf rfl rfl (f_eqlnil rfl rfl Try.underlying24) ?_
    exact wl_pend rfl rfl ⟨rfl, rfl, rfl, rfl, trivial⟩ (List.Sublist.refl _)
  refine wl_end [(1, _), (2, _), (7, _), (8, _), (37, _)] ⟨rfl, rfl, rfl, rfl, rfl, trivial⟩ ?_
  refine w_iff rfl ?_
  refine w_skip ?_
  refine w_seq ?_
  refine w_reg ?_
  refine wl_f (f_move rfl) ?_
  refine wl_e (e_call0 rfl Try.func9 (by kernel_rfl) (fun w hh => new_spec A1 L1.length c1 w)) ?_
  rintro _ _ w2 ⟨_, rfl, bd, rfl, rfl⟩
  refine wl_f (f_assign rfl) ?_
  refine wl_pick [1, 0] rfl ?_
  refine wl_end [(2, _), (7, _), (8, _), (10, _)] ⟨rfl, rfl, rfl, rfl, trivial⟩ ?_
  refine w_seq ?_
  refine w_reg ?_
  refine wl_f (f_assign rfl) ?_
  refine wl_end [(2, _), (7, _), (8, _), (10, _), (11, _)] ⟨rfl, rfl, rfl, rfl, rfl, trivial⟩ ?_
  refine w_seq ?_
  refine w_seq ?_
  refine w_reg ?_
  refine wl_f (f_assign rfl) ?_
  refine wl_end [(2, _), (7, _), (8, _), (10, _), (11, _), (12, _)] ⟨rfl, rfl, rfl, rfl, rfl, rfl, trivial⟩ ?_
  refine w_block ?_
  refine w_nilrow 9 1 ?_
  refine w_loop (fun kk m' H w' => ∃ (i : Nat) (M : UM) (base total : Nat) (r : Res) (p : Nat) (P : KW) (v : Value), m' = [(2, .slice A2 L2.length c2), (7, .int .i64 m), (8, .pointer (some ⟨t, 0, .none⟩)), (10, .pointer (some ⟨bd, 0, .none⟩)), (11, v), (12, .int .i64 i)] ∧
    H = [row v 9 1 P.length (sv (kfst P)), r, deck bd (.slice A1 L1.length c1) p] ∧ FrR t m M base total r ∧ FH m M base total (wsum P) ∧ total ≤ i * 65536 ∧ P.length = i ∧ (∀ j, j < i → ∃ (k : ByteArray) (s : Nat), P[j]? = some (k, 1 + s) ∧ L2[j]? = some (s : Int) ∧ small k ∧ s ≤ 65535) ∧ kk + i = 80 ∧ i ≤ L2.length ∧ p ≤ L1.length) 80
    ⟨0, _, 0, 0, r0, 0, [], _, rfl, rfl, hr0, FH.new m, Nat.zero_le _, rfl, fun j hj => absurd hj (Nat.not_lt_zero _), rfl, Nat.zero_le _, Nat.zero_le _⟩ ?_
  rintro kk _ _ w3 ⟨i, M, base, total, r, p, P, v, rfl, rfl, hr, hI, htot, hPl, hP, hkk, hiL, hp⟩
  have ht := hI.inv.ok
  refine w_seq ?_
  refine w_seq ?_
  refine w_reg ?_
  refine wl_f (f_move rfl) ?_
  refine wl_f (f_move rfl) ?_
  refine wl_f (f_len rfl Try.underlying23) ?_
  refine wl_f (f_lss rfl rfl) ?_
  refine wl_f (f_move rfl) ?_
  refine wl_and (j := 4) (c := decide ((i : Int) < 80)) 2 [(2, _), (7, _), (8, _), (10, _), (11, _), (12, _)] ⟨rfl, rfl, rfl, rfl, rfl, rfl, trivial⟩ rfl rfl rfl rfl rfl (fun hg8_7 => ?_) (fun w8_7 => ?_)
  · skip
    refine wl_gf rfl rfl (f_move rfl) ?_
    refine wl_gf rfl rfl (f_lss rfl rfl) ?_
    exact wl_pend rfl rfl ⟨rfl, rfl, rfl, rfl, rfl, rfl, trivial⟩ (List.Sublist.refl _)
  refine wl_end [(2, _), (7, _), (8, _), (10, _), (11, _), (12, _), (47, _)] ⟨rfl, rfl, rfl, rfl, rfl, rfl, rfl, trivial⟩ ?_
  refine w_ifb rfl (fun hc2 => ?_) (fun hc2 => ?_)
  · skip
    simp only [Bool.and_eq_true, decide_eq_true_eq] at hc2
    have hi : i < L2.length := by omega
    have hi80 : i < 80 := by omega
    obtain ⟨s0, hsi⟩ : ∃ s, L2[i]? = some s := ⟨_, List.getElem?_eq_getElem hi⟩
    have hs0 := hb2 s0 (List.mem_of_getElem? hsi)
    obtain ⟨sn, rfl⟩ : ∃ sn : Nat, s0 = sn := ⟨s0.toNat, by omega⟩
    have hsn : sn ≤ 65535 := by omega
    have hsn1 : 1 + sn ≤ 65536 := by omega
    have htot2 : total + (1 + sn) ≤ 9223372036854775808 := by omega
    obtain ⟨b2, off, rfl, _, _, hcell⟩ := hxA.resolve_left (by omega)
    refine w_skip ?_
    refine w_seq ?_
    refine w_block ?_
    refine w_seq ?_
    refine w_reg ?_
    refine wl_f (f_move rfl) ?_
    refine wl_f (f_move rfl) ?_
    refine wl_e (e_call1 (deck bd (.slice A1 L1.length c1) p) [_, _] rfl Try.func10 (by kernel_rfl) (pk1 2 rfl) (fun w hh hs' => short3_spec bd _ L1 p w ⟨h1.old1 hh (pk1 2 rfl), hL1, hp⟩ hs')) ?_
    rintro _ _ w4 ⟨_, rfl, k, p2, rfl, hk3, rfl, hp2⟩
    have hks : small k := small_of (by omega)
    have hk0 : k ≠ ByteArray.empty := ne_of_size (fun e => absurd hk3.1 (by rw [e]; decide))
    refine wl_e (e_lit1 (cs := [_]) t30 rfl rfl rfl (by omega)) ?_
    rintro _ _ w10_3 ⟨b10_3, rfl, rfl⟩
    refine wl_e (e_appN 2 t30 rfl rfl rfl (fun w hh => Rd.held0 hh (i := 0) rfl) (by simp [Value.oneCell']) (by omega) (by omega)) ?_
    rintro v2 _ w5 ⟨_, rfl⟩
    refine wl_f (f_assign rfl) ?_
    refine wl_pick [2, 2, 1] rfl ?_
    refine wl_end [(2, _), (7, _), (8, _), (10, _), (11, _), (12, _)] ⟨rfl, rfl, rfl, rfl, rfl, rfl, trivial⟩ ?_
    refine w_seq ?_
    have hrow : row v2 9 1 (P.length + 1) (sv (kfst P) ++ [.string k]) = row v2 9 1 (P ++ [(k, 1 + sn)]).length (sv (kfst (P ++ [(k, 1 + sn)]))) := by
      rw [List.length_append, kfst, kfst, List.map_append, sv_app]; rfl
    rw [hrow]
    have hP2l : (P ++ [(k, 1 + sn)]).length = i + 1 := by rw [List.length_append, hPl]; rfl
    have hkget : (kfst (P ++ [(k, 1 + sn)]))[i]? = some k := by rw [kfst, List.map_append, List.getElem?_append_right (by rw [List.length_map]; omega)]; simp [hPl]
    refine w_with fun hh => ?_
    obtain ⟨gv, cv, e⟩ := row_form hh (i := 0) rfl (by omega)
    subst e
    clear hh
    refine w_draw [(0, true), (1, true), (2, true), (3, true), (4, true), (5, true), (6, true), (7, true), (8, true), (9, true), (10, true), (11, false), (12, true)] ([_]) ([_, _]) mixed (by kernel_rfl) (by kernel_rfl) rfl (List.Perm.refl _) (fun w11_ => ?_)
    refine wd_f rfl (f_move rfl) ?_
    refine wd_f rfl (f_move rfl) ?_
    refine wd_f rfl (f_move rfl) ?_
    refine wd_f rfl (f_indexAddr 1 (i := i) rfl rfl Try.underlying30 (by kernel_rfl) rfl (by omega)) ?_
    refine wd_f rfl (f_loadr (v := .string k) 0 rfl Try.underlying9 rfl rfl (map_get Value.string hkget)) ?_
    refine wd_f rfl (f_move rfl) ?_
    refine wd_f rfl (f_move rfl) ?_
    refine wd_f rfl (f_indexAddr 1 (i := i) rfl rfl Try.underlying23 (by kernel_rfl) rfl hi) ?_
    refine wd_f rfl (f_loado (v := .int .u16 sn) rfl Try.underlying34 rfl (hcell _ _ (by simp [hsi])) id) ?_
    refine wd_f rfl (f_convu rfl Try.underlying34 Try.underlying33 (by omega)) ?_
    refine wd_f rfl (f_eqv (v' := .int .u64 ((1 + sn : Nat) : Int)) (f_addu rfl rfl (by omega)) (by congr 1)) ?_
    refine wd_e rfl (e_call1 r [_, _] rfl Try.func11 (by kernel_rfl) (pk1 1 rfl) (fun w hh hs => fradd_spec t m M base total k (1 + sn) r w (by omega) hks (by omega) ht hr hs)) ?_
    rintro _ _ w6 ⟨_, rfl, e1, M1, base1, total1, r1, rfl, rfl, hr1, hA⟩
    have he := hA.ok hk0 (Nat.ne_of_gt (Nat.lt_of_lt_of_le Nat.zero_lt_one (Nat.le_add_right 1 sn))) htot2
    refine ⟨_, List.Perm.swap .., ?_⟩
    refine wd_f rfl (f_neq rfl rfl) ?_
    refine wd_end [(2, _), (7, _), (8, _), (10, _), (11, _), (12, _), (67, _)] ⟨rfl, rfl, rfl, rfl, rfl, rfl, rfl, trivial⟩ ?_
    refine w_ifd rfl (fun h => absurd he h) (fun _ => ?_)
    obtain ⟨htt, hI1⟩ : total1 = total + (1 + sn) ∧ FH m M1 base1 total1 (wsum (P ++ [(k, 1 + sn)])) := by
      rcases hI.add hA with ⟨h, _⟩ | ⟨_, h2, h3⟩
      · exact absurd he h
      · exact ⟨h2, by rw [wsum_fun]; exact h3⟩
    refine w_skip ?_
    refine w_reg ?_
    refine wl_f (f_move rfl) ?_
    refine wl_f (f_add rfl rfl (by omega)) ?_
    refine wl_f (f_assign rfl) ?_
    refine wl_end [(2, _), (7, _), (8, _), (10, _), (11, _), (12, _)] ⟨rfl, rfl, rfl, rfl, rfl, rfl, trivial⟩ ?_
    refine ⟨kk - 1, by omega, i + 1, M1, base1, total1, r1, p2, P ++ [(k, 1 + sn)], _, rfl, rfl, hr1, hI1, bnd_step htt htot hsn1, hP2l, fun j hj => ?_, by omega, by omega, hp2⟩
    rcases Nat.lt_or_eq_of_le (Nat.le_of_lt_succ hj) with h | rfl
    · obtain ⟨k', s', h5, h6⟩ := hP j h
      exact ⟨k', s', by rw [List.getElem?_append_left (by omega)]; exact h5, h6⟩
    · exact ⟨k, sn, by rw [List.getElem?_append_right (by omega), hPl]; simp, hsi, hks, hsn⟩
  · skip
    refine w_pick [0, 0] rfl ?_
    have ht := hI.inv.ok
    obtain ⟨ht1, ht2, ht3⟩ := id ht
    have hi80 : i ≤ 80 := by omega
    have hwb : ∀ q j, wsum (P.take j) q ≤ 5242880 := fun q j => by
      have h5 := wsum_le (P := P.take j) (b := 65536) (fun x hx => by
        obtain ⟨a, ha⟩ := List.mem_iff_getElem?.1 (List.mem_of_mem_take hx)
        have hal : a < P.length := (List.getElem?_eq_some_iff.1 ha).1
        obtain ⟨k', s', h5, _, _, h6⟩ := hP a (by omega)
        rw [ha] at h5
        injection h5 with h5
        rw [h5]
        show 1 + s' ≤ 65536
        omega) q
      have h6 : (P.take j).length ≤ 80 := by rw [List.length_take]; omega
      omega
    refine w_with fun hh => ?_
    obtain ⟨Av, cv, rfl⟩ := row_slice hh (i := 0) rfl
    clear hh
    refine w_exit0 ?_
    refine w_seq ?_
    refine w_seq ?_
    refine w_reg ?_
    refine wl_f (f_move rfl) ?_
    refine wl_f (f_len rfl Try.underlying30) ?_
    refine wl_f (f_move rfl) ?_
    refine wl_end [(2, _), (7, _), (8, _), (11, _), (68, _), (69, _), (70, _)] ⟨rfl, rfl, rfl, rfl, rfl, rfl, rfl, trivial⟩ ?_
    refine w_block ?_
    refine w_loop (fun kk m' H w' => ∃ j : Nat, m' = [(2, .slice A2 L2.length c2), (7, .int .i64 m), (8, .pointer (some ⟨t, 0, .none⟩)), (11, .slice Av P.length cv), (68, .slice Av P.length cv), (69, .int .i64 P.length), (70, .int .i64 j)] ∧
      H = [row (.slice Av P.length cv) 9 1 P.length (sv (kfst P)), r] ∧ kk + j = P.length) P.length ⟨0, rfl, rfl, rfl⟩ ?_
    rintro kk2 _ _ w7 ⟨j, rfl, rfl, hkk2⟩
    refine w_seq ?_
    refine w_reg ?_
    refine wl_f (f_lss rfl rfl) ?_
    refine wl_end [(2, _), (7, _), (8, _), (11, _), (68, _), (69, _), (70, _), (71, _)] ⟨rfl, rfl, rfl, rfl, rfl, rfl, rfl, rfl, trivial⟩ ?_
    refine w_seq ?_
    refine w_ifd rfl (fun hc4 => ?_) (fun hc4 => ?_)
    · skip
      have hj : j < P.length := by
        have : (j : Int) < (P.length : Int) := hc4
        omega
      obtain ⟨q, sq, hPj, _, hqs, _⟩ := hP j (by omega)
      have hkj : (kfst P)[j]? = some q := by rw [kfst, List.getElem?_map, hPj]; rfl
      refine w_with fun hh => ?_
      obtain ⟨gv, cv2, e⟩ := row_form hh (i := 0) rfl (by omega)
      cases e
      clear hh
      refine w_skip ?_
      refine w_seq ?_
      refine w_block ?_
      refine w_seq ?_
      refine w_reg ?_
      refine wl_f (f_indexAddr 1 (i := j) rfl rfl Try.underlying30 (by kernel_rfl) rfl hj) ?_
      refine wl_f (f_loadr (v := .string q) 0 rfl Try.underlying9 rfl rfl (map_get Value.string hkj)) ?_
      refine wl_f (f_assign rfl) ?_
      refine wl_end [(2, _), (7, _), (8, _), (11, _), (14, _), (68, _), (69, _), (70, _)] ⟨rfl, rfl, rfl, rfl, rfl, rfl, rfl, rfl, trivial⟩ ?_
      refine w_seq ?_
      refine w_reg ?_
      refine wl_f (f_assign rfl) ?_
      refine wl_end [(2, _), (7, _), (8, _), (11, _), (14, _), (15, _), (68, _), (69, _), (70, _)] ⟨rfl, rfl, rfl, rfl, rfl, rfl, rfl, rfl, rfl, trivial⟩ ?_
      refine w_seq ?_
      refine w_seq ?_
      refine w_reg ?_
      refine wl_f (f_move rfl) ?_
      refine wl_f (f_len rfl Try.underlying30) ?_
      refine wl_f (f_move rfl) ?_
      refine wl_end [(2, _), (7, _), (8, _), (11, _), (14, _), (15, _), (68, _), (69, _), (70, _), (74, _), (75, _), (76, _)] ⟨rfl, rfl, rfl, rfl, rfl, rfl, rfl, rfl, rfl, rfl, rfl, rfl, trivial⟩ ?_
      refine w_block ?_
      refine w_loop (fun kk m' H w' => ∃ a : Nat, m' = [(2, .slice A2 L2.length c2), (7, .int .i64 m), (8, .pointer (some ⟨t, 0, .none⟩)), (11, .slice (some ⟨gv, 0, .none⟩) P.length cv), (14, .string q), (15, .int .u64 (wsum (P.take a) q : Nat)), (68, .slice (some ⟨gv, 0, .none⟩) P.length cv), (69, .int .i64 P.length), (70, .int .i64 j),
          (74, .slice (some ⟨gv, 0, .none⟩) P.length cv), (75, .int .i64 P.length), (76, .int .i64 a)] ∧ H = [row (.slice (some ⟨gv, 0, .none⟩) P.length cv) 9 1 P.length (sv (kfst P)), r] ∧ kk + a = P.length) P.length ⟨0, rfl, rfl, rfl⟩ ?_
      rintro kk3 _ _ w8 ⟨a, rfl, rfl, hkk3⟩
      refine w_seq ?_
      refine w_reg ?_
      refine wl_f (f_lss rfl rfl) ?_
      refine wl_end [(2, _), (7, _), (8, _), (11, _), (14, _), (15, _), (68, _), (69, _), (70, _), (74, _), (75, _), (76, _), (77, _)] ⟨rfl, rfl, rfl, rfl, rfl, rfl, rfl, rfl, rfl, rfl, rfl, rfl, rfl, trivial⟩ ?_
      refine w_seq ?_
      refine w_ifd rfl (fun hc5 => ?_) (fun hc5 => ?_)
      · skip
        have ha : a < P.length := by
          have : (a : Int) < (P.length : Int) := hc5
          omega
        obtain ⟨k, sn, hPa, hLa, _, hsn⟩ := hP a (by omega)
        have hka : (kfst P)[a]? = some k := by rw [kfst, List.getElem?_map, hPa]; rfl
        have haL : a < L2.length := by omega
        have hw1 := hwb q a
        have hstep : wsum (P.take (a + 1)) q = fadd (wsum (P.take a)) k (1 + sn) q := by rw [take_snoc' hPa, wsum_snoc]
        obtain ⟨b2, off, rfl, _, _, hcell⟩ := hxA.resolve_left (by omega)
        refine w_skip ?_
        refine w_seq ?_
        refine w_post (fun m' H w' => m' = [(2, .slice (some ⟨b2, off, .none⟩) L2.length c2), (7, .int .i64 m), (8, .pointer (some ⟨t, 0, .none⟩)), (11, .slice (some ⟨gv, 0, .none⟩) P.length cv), (14, .string q), (15, .int .u64 (wsum (P.take (a + 1)) q : Nat)), (68, .slice (some ⟨gv, 0, .none⟩) P.length cv), (69, .int .i64 P.length), (70, .int .i64 j),
            (74, .slice (some ⟨gv, 0, .none⟩) P.length cv), (75, .int .i64 P.length), (76, .int .i64 a)] ∧ H = [row (.slice (some ⟨gv, 0, .none⟩) P.length cv) 9 1 P.length (sv (kfst P)), r]) ?_ ?_
        · skip
          refine w_block ?_
          refine w_seq ?_
          refine w_reg ?_
          refine wl_f (f_move rfl) ?_
          refine wl_f (f_indexAddr 1 (i := a) rfl rfl Try.underlying30 (by kernel_rfl) rfl ha) ?_
          refine wl_f (f_loadr (v := .string k) 0 rfl Try.underlying9 rfl rfl (map_get Value.string hka)) ?_
          refine wl_f (f_assign rfl) ?_
          refine wl_f (f_assign rfl) ?_
          refine wl_end [(2, _), (7, _), (8, _), (11, _), (14, _), (15, _), (16, _), (17, _), (68, _), (69, _), (70, _), (74, _), (75, _), (76, _)] ⟨rfl, rfl, rfl, rfl, rfl, rfl, rfl, rfl, rfl, rfl, rfl, rfl, rfl, rfl, trivial⟩ ?_
          refine w_seq ?_
          refine w_reg ?_
          refine wl_f (f_move rfl) ?_
          refine wl_f (f_move rfl) ?_
          refine wl_f (f_eqls rfl rfl) ?_
          refine wl_end [(2, _), (7, _), (8, _), (11, _), (14, _), (15, _), (16, _), (68, _), (69, _), (70, _), (74, _), (75, _), (76, _), (83, _)] ⟨rfl, rfl, rfl, rfl, rfl, rfl, rfl, rfl, rfl, rfl, rfl, rfl, rfl, rfl, trivial⟩ ?_
          refine w_ifd rfl (fun hc6 => ?_) (fun hc6 => ?_)
          · skip
            have hkq : q = k := (show k = q from hc6).symm
            rw [hkq] at hstep
            rw [hkq] at hw1
            refine w_reg ?_
            refine wl_f (f_move rfl) ?_
            refine wl_f (f_move rfl) ?_
            refine wl_f (f_move rfl) ?_
            refine wl_f (f_indexAddr 1 (i := a) rfl rfl Try.underlying23 (by kernel_rfl) rfl haL) ?_
            refine wl_f (f_loado (v := .int .u16 sn) rfl Try.underlying34 rfl (hcell _ _ (by simp [hLa])) id) ?_
            refine wl_f (f_convu rfl Try.underlying34 Try.underlying33 (by omega)) ?_
            refine wl_f (f_eqv (v' := .int .u64 ((1 + sn : Nat) : Int)) (f_addu rfl rfl (by omega)) (by congr 1)) ?_
            refine wl_f (f_eqv (v' := .int .u64 (wsum (P.take (a + 1)) q : Nat)) (f_addu rfl rfl (by rw [hkq]; omega)) (by rw [hkq, hstep, fadd_self]; exact congrArg (Value.int .u64) (Int.natCast_add _ _).symm)) ?_
            refine wl_f (f_assign rfl) ?_
            refine wl_end [(2, _), (7, _), (8, _), (11, _), (14, _), (15, _), (68, _), (69, _), (70, _), (74, _), (75, _), (76, _)] ⟨rfl, rfl, rfl, rfl, rfl, rfl, rfl, rfl, rfl, rfl, rfl, rfl, trivial⟩ ?_
            exact ⟨rfl, rfl⟩
          · skip
            have hkq : q ≠ k := fun e => hc6 (show k = q from e.symm)
            rw [fadd_ne hkq] at hstep
            refine w_sub [(2, _), (7, _), (8, _), (11, _), (14, _), (15, _), (68, _), (69, _), (70, _), (74, _), (75, _), (76, _)] ⟨rfl, rfl, rfl, rfl, rfl, rfl, rfl, rfl, rfl, rfl, rfl, rfl, trivial⟩ (w_skip ?_)
            exact ⟨by rw [hstep], rfl⟩
        · rintro _ _ w9 ⟨rfl, rfl⟩
          refine w_reg ?_
          refine wl_f (f_add rfl rfl (by omega)) ?_
          refine wl_f (f_move rfl) ?_
          refine wl_end [(2, _), (7, _), (8, _), (11, _), (14, _), (15, _), (68, _), (69, _), (70, _), (74, _), (75, _), (76, _)] ⟨rfl, rfl, rfl, rfl, rfl, rfl, rfl, rfl, rfl, rfl, rfl, rfl, trivial⟩ ?_
          exact ⟨kk3 - 1, by omega, a + 1, rfl, rfl, by omega⟩
      · skip
        have ha : a = P.length := by
          have : ¬ (a : Int) < (P.length : Int) := hc5
          omega
        subst ha
        rw [List.take_length]
        have hw2 := hwb q P.length
        rw [List.take_length] at hw2
        refine w_exit0 ?_
        refine w_seq ?_
        refine w_reg ?_
        refine wl_f (f_move rfl) ?_
        refine wl_f (f_move rfl) ?_
        refine wl_e (e_call1 r [_] rfl Try.func12 (by kernel_rfl) (List.Perm.swap ..) (fun w hh hs => frget_spec t m M base total q r w hqs hr hs)) ?_
        rintro _ _ w10 ⟨_, rfl, rfl, rfl⟩
        refine wl_pick [1, 0] rfl ?_
        obtain ⟨k', o, s, is, hfg, hy, hn⟩ := fget_form2 M base q
        rw [hfg]
        have hos : o + s < 18446744073709551616 := by
          cases is with
          | true => obtain ⟨hx, rfl, _⟩ := hy rfl; have := ht3 _ _ hx; omega
          | false => obtain ⟨_, rfl, rfl, _⟩ := hn rfl; omega
        refine wl_f (f_move rfl) ?_
        refine wl_f (f_extract rfl rfl) ?_
        refine wl_f (f_extract rfl rfl) ?_
        refine wl_e (e_allocs [.string ByteArray.empty, .int .u64 0, .int .u64 0] (by kernel_rfl)) ?_
        rintro _ _ w23_6 ⟨b23_6, rfl, rfl⟩
        refine wl_e0 (e_store0 (us := [_, _, _]) rfl rfl rfl (by kernel_rfl) (by simp [Value.oneCell']) rfl rfl) ?_
        rintro _ _ w23_7 rfl
        refine wl_f (f_assign rfl) ?_
        refine wl_end [(2, _), (7, _), (8, _), (11, _), (15, _), (18, _), (19, _), (68, _), (69, _), (70, _)] ⟨rfl, rfl, rfl, rfl, rfl, rfl, rfl, rfl, rfl, rfl, trivial⟩ ?_
        refine w_seq ?_
        refine w_reg ?_
        refine wl_f (f_move rfl) ?_
        refine wl_f (f_move rfl) ?_
        refine wl_and (j := 1) (c := (decide ((wsum P q : Int) < (o : Int)) || decide (((o + s : Nat) : Int) < (wsum P q : Int)))) 13 [(2, _), (7, _), (8, _), (11, _), (15, _), (19, _), (68, _), (69, _), (70, _)] ⟨rfl, rfl, rfl, rfl, rfl, rfl, rfl, rfl, rfl, trivial⟩ rfl rfl rfl rfl rfl (fun hg24_15 => ?_) (fun w24_15 => ?_)
        · skip
          refine wl_gf rfl rfl (f_fieldAddr 1 rfl Try.underlying36 rfl rfl (by kernel_rfl)) ?_
          (first | refine wl_gf rfl rfl (f_loadb 0 rfl Try.underlying33 rfl rfl rfl) ?_ | refine wl_gf rfl rfl (f_loadb 1 rfl Try.underlying33 rfl rfl rfl) ?_ | refine wl_gf rfl rfl (f_loadb 2 rfl Try.underlying33 rfl rfl rfl) ?_ | refine wl_gf rfl rfl (f_loadb 3 rfl Try.underlying33 rfl rfl rfl) ?_ | refine wl_gf rfl rfl (f_loadb 4 rfl Try.underlying33 rfl rfl rfl) ?_ | refine wl_gf rfl rfl (f_loadb 5 rfl Try.underlying33 rfl rfl rfl) ?_ | refine wl_gf rfl rfl (f_loadb 6 rfl Try.underlying33 rfl rfl rfl) ?_)
          refine wl_gf rfl rfl (f_move rfl) ?_
          refine wl_gf rfl rfl (f_gtr rfl rfl) ?_
          refine wl_gf rfl rfl (f_move rfl) ?_
          refine wl_org (j := 6) (c := decide (((o + s : Nat) : Int) < (wsum P q : Int))) 7 [(2, _), (7, _), (8, _), (11, _), (15, _), (19, _), (68, _), (69, _), (70, _), (100, _)] ⟨rfl, rfl, rfl, rfl, rfl, rfl, rfl, rfl, rfl, rfl, trivial⟩ rfl rfl rfl rfl rfl rfl rfl (fun hg24_14 => ?_) (fun w24_14 => ?_)
          · skip
            refine wl_gf rfl rfl (f_move rfl) ?_
            refine wl_gf rfl rfl (f_fieldAddr 1 rfl Try.underlying36 rfl rfl (by kernel_rfl)) ?_
            (first | refine wl_gf rfl rfl (f_loadb 0 rfl Try.underlying33 rfl rfl rfl) ?_ | refine wl_gf rfl rfl (f_loadb 1 rfl Try.underlying33 rfl rfl rfl) ?_ | refine wl_gf rfl rfl (f_loadb 2 rfl Try.underlying33 rfl rfl rfl) ?_ | refine wl_gf rfl rfl (f_loadb 3 rfl Try.underlying33 rfl rfl rfl) ?_ | refine wl_gf rfl rfl (f_loadb 4 rfl Try.underlying33 rfl rfl rfl) ?_ | refine wl_gf rfl rfl (f_loadb 5 rfl Try.underlying33 rfl rfl rfl) ?_ | refine wl_gf rfl rfl (f_loadb 6 rfl Try.underlying33 rfl rfl rfl) ?_)
            refine wl_gf rfl rfl (f_fieldAddr 2 rfl Try.underlying36 rfl rfl (by kernel_rfl)) ?_
            (first | refine wl_gf rfl rfl (f_loadb 0 rfl Try.underlying33 rfl rfl rfl) ?_ | refine wl_gf rfl rfl (f_loadb 1 rfl Try.underlying33 rfl rfl rfl) ?_ | refine wl_gf rfl rfl (f_loadb 2 rfl Try.underlying33 rfl rfl rfl) ?_ | refine wl_gf rfl rfl (f_loadb 3 rfl Try.underlying33 rfl rfl rfl) ?_ | refine wl_gf rfl rfl (f_loadb 4 rfl Try.underlying33 rfl rfl rfl) ?_ | refine wl_gf rfl rfl (f_loadb 5 rfl Try.underlying33 rfl rfl rfl) ?_ | refine wl_gf rfl rfl (f_loadb 6 rfl Try.underlying33 rfl rfl rfl) ?_)
            refine wl_gf rfl rfl (f_eqv (v' := .int .u64 ((o + s : Nat) : Int)) (f_addu rfl rfl (by omega)) (by rw [Int.natCast_add])) ?_
            refine wl_gf rfl rfl (f_gtr rfl rfl) ?_
            exact wl_pend rfl rfl ⟨rfl, rfl, rfl, rfl, rfl, rfl, rfl, rfl, rfl, rfl, trivial⟩ (List.Sublist.refl _)
          exact wl_pend rfl rfl ⟨rfl, rfl, rfl, rfl, rfl, rfl, rfl, rfl, rfl, trivial⟩ (List.Sublist.refl _)
        refine wl_f (f_move rfl) ?_
        refine wl_or (j := 16) (c := (!is && decide ((base : Int) < (wsum P q : Int)))) 8 [(2, _), (7, _), (8, _), (11, _), (68, _), (69, _), (70, _)] ⟨rfl, rfl, rfl, rfl, rfl, rfl, rfl, trivial⟩ rfl rfl rfl rfl rfl (fun hg24_25 => ?_) (fun w24_25 => ?_)
        · skip
          refine wl_gf rfl rfl (f_move rfl) ?_
          refine wl_gf rfl rfl (f_not rfl rfl) ?_
          refine wl_gf rfl rfl (f_move rfl) ?_
          refine wl_andg (j := 19) (c := decide ((base : Int) < (wsum P q : Int))) 4 [(2, _), (7, _), (8, _), (11, _), (68, _), (69, _), (70, _), (115, _)] ⟨rfl, rfl, rfl, rfl, rfl, rfl, rfl, rfl, trivial⟩ rfl rfl rfl rfl rfl rfl rfl (fun hg24_24 => ?_) (fun w24_24 => ?_)
          · skip
            refine wl_gf rfl rfl (f_move rfl) ?_
            refine wl_gf rfl rfl (f_move rfl) ?_
            refine wl_ge rfl rfl (e_call1 r [_, _] rfl Try.func13 (by kernel_rfl) (pk1 2 rfl) (fun w hh hs => fruntracked_spec t m M base total r w hr hs)) ?_
            rintro _ _ w11 ⟨_, rfl, rfl, rfl⟩
            refine wl_pick [1, 1, 0] rfl ?_
            refine wl_gf rfl rfl (f_gtr rfl rfl) ?_
            exact wl_pend rfl rfl ⟨rfl, rfl, rfl, rfl, rfl, rfl, rfl, rfl, trivial⟩ (List.Sublist.refl _)
          exact wl_pend rfl rfl ⟨rfl, rfl, rfl, rfl, rfl, rfl, rfl, trivial⟩ (List.Sublist.refl _)
        refine wl_pick [1, 1] rfl ?_
        refine wl_end [(2, _), (7, _), (8, _), (11, _), (68, _), (69, _), (70, _), (124, _)] ⟨rfl, rfl, rfl, rfl, rfl, rfl, rfl, rfl, trivial⟩ ?_
        refine w_ifb rfl (fun h => absurd h (by
          cases is with
          | true =>
            obtain ⟨hx, rfl, _⟩ := hy rfl
            have h5 := hI.yes q o hx
            rw [decide_eq_false (show ¬ (wsum P q : Int) < (o : Int) by omega), decide_eq_false (show ¬ ((o + s : Nat) : Int) < (wsum P q : Int) by omega)]
            simp
          | false =>
            have h5 := hI.no q (hn rfl).1
            rw [decide_eq_false (show ¬ (base : Int) < (wsum P q : Int) by omega)]
            simp)) (fun _ => ?_)
        refine w_skip ?_
        refine w_reg ?_
        refine wl_f (f_add rfl rfl (by omega)) ?_
        refine wl_f (f_move rfl) ?_
        refine wl_end [(2, _), (7, _), (8, _), (11, _), (68, _), (69, _), (70, _)] ⟨rfl, rfl, rfl, rfl, rfl, rfl, rfl, trivial⟩ ?_
        exact ⟨kk2 - 1, by omega, j + 1, rfl, rfl, by omega⟩
    · skip
      refine w_exit0 ?_
      refine w_seq ?_
      have hEq := hI.eq
      refine w_reg ?_
      refine wl_f (f_move rfl) ?_
      refine wl_f (f_eqv (v' := .int .i64 ((m + 1 : Nat) : Int)) (f_add rfl rfl (by omega)) (by congr 1)) ?_
      refine wl_f (f_convu rfl Try.underlying3 Try.underlying33 (by omega)) ?_
      refine wl_f (f_move rfl) ?_
      refine wl_e (e_call1 r [_] rfl Try.func13 (by kernel_rfl) (List.Perm.swap ..) (fun w hh hs => fruntracked_spec t m M base total r w hr hs)) ?_
      rintro _ _ w11 ⟨_, rfl, rfl, rfl⟩
      refine wl_pick [1, 0] rfl ?_
      refine wl_f (f_eqv (v' := .int .u64 (((m + 1) * base : Nat) : Int)) (f_mulu rfl rfl (by rw [← Int.natCast_mul]; omega)) (by rw [← Int.natCast_mul])) ?_
      refine wl_f (f_assign rfl) ?_
      refine wl_end [(8, _), (20, _)] ⟨rfl, rfl, trivial⟩ ?_
      refine w_seq ?_
      refine w_seq ?_
      refine w_reg ?_
      refine wl_f (f_move rfl) ?_
      refine wl_e (e_call1 r [_] rfl Try.func14 (by kernel_rfl) (List.Perm.swap ..) (fun w hh hs => frentries_spec t m M base total r w (by omega) hr hs)) ?_
      rintro ve _ w12 ⟨_, rfl, ks, hkp, hks, rfl⟩
      obtain ⟨es, hes⟩ : ∃ es, ks.map (fent M base) = es := ⟨_, rfl⟩
      rw [hes]
      have hsum : isum es = osum M := by rw [← hes]; exact isum_fent hI.inv.nd hkp
      have hesl : es.length ≤ 140737488355328 := by
        have h5 : es.length = M.length := by rw [← hes, List.length_map, hkp.length_eq, keys, List.length_map]
        obtain ⟨_, _, _, _, _, _, hX⟩ := id hr
        have := hX.len
        omega
      refine wl_with fun hh => ?_
      obtain ⟨Ae, ce, rfl⟩ := row_slice hh (i := 0) rfl
      clear hh
      refine wl_pick [0, 0] rfl ?_
      refine wl_f (f_len rfl Try.underlying40) ?_
      refine wl_f (f_move rfl) ?_
      refine wl_end [(8, _), (20, _), (133, _), (134, _), (135, _)] ⟨rfl, rfl, rfl, rfl, rfl, trivial⟩ ?_
      refine w_block ?_
      refine w_loop (fun kk m' H w' => ∃ j : Nat, m' = [(8, .pointer (some ⟨t, 0, .none⟩)), (20, .int .u64 ((m + 1) * base + isum (es.take j) : Nat)), (133, .slice Ae es.length ce), (134, .int .i64 es.length), (135, .int .i64 j)] ∧ H = [row (.slice Ae es.length ce) 36 3 es.length (encs es), r] ∧ kk + j = es.length) es.length ⟨0, rfl, rfl, rfl⟩ ?_
      rintro kk4 _ _ w13 ⟨j, rfl, rfl, hkk4⟩
      refine w_seq ?_
      refine w_reg ?_
      refine wl_f (f_lss rfl rfl) ?_
      refine wl_end [(8, _), (20, _), (133, _), (134, _), (135, _), (136, _)] ⟨rfl, rfl, rfl, rfl, rfl, rfl, trivial⟩ ?_
      refine w_seq ?_
      refine w_ifd rfl (fun hc8 => ?_) (fun hc8 => ?_)
      · skip
        have hj : j < es.length := by
          have : (j : Int) < (es.length : Int) := hc8
          omega
        obtain ⟨x, hx⟩ : ∃ x, es[j]? = some x := ⟨_, List.getElem?_eq_getElem hj⟩
        have hst := isum_take hx
        have hle := isum_take_le es (j + 1)
        refine w_with fun hh => ?_
        obtain ⟨ge, ce2, e⟩ := row_form hh (i := 0) rfl (by omega)
        cases e
        clear hh
        refine w_skip ?_
        refine w_seq ?_
        refine w_block ?_
        refine w_seq ?_
        refine w_reg ?_
        refine wl_f (f_indexAddr 3 (i := j) rfl rfl Try.underlying40 (by kernel_rfl) rfl hj) ?_
        refine wl_f (f_loadsr (cs := ecell (some x)) 0 rfl Try.underlying36 rfl (by kernel_rfl) rfl (encs_get hx)) ?_
        refine wl_e (e_allocs [.string ByteArray.empty, .int .u64 0, .int .u64 0] (by kernel_rfl)) ?_
        rintro _ _ w30_2 ⟨b30_2, rfl, rfl⟩
        (first | refine wl_e0 (e_store0 (us := [_, _, _]) rfl rfl rfl (by kernel_rfl) (by simp [Value.oneCell']) rfl rfl) ?_ | refine wl_e0 (e_store1 (us := [_, _, _]) rfl rfl rfl (by kernel_rfl) (by simp [Value.oneCell']) rfl rfl) ?_ | refine wl_e0 (e_store2 (us := [_, _, _]) rfl rfl rfl (by kernel_rfl) (by simp [Value.oneCell']) rfl rfl) ?_ | refine wl_e0 (e_store3 (us := [_, _, _]) rfl rfl rfl (by kernel_rfl) (by simp [Value.oneCell']) rfl rfl) ?_)
        rintro _ _ w30_3 rfl
        refine wl_end [(8, _), (20, _), (22, _), (133, _), (134, _), (135, _)] ⟨rfl, rfl, rfl, rfl, rfl, rfl, trivial⟩ ?_
        refine w_reg ?_
        refine wl_f (f_move rfl) ?_
        refine wl_f (f_fieldAddr 1 rfl Try.underlying36 rfl rfl (by kernel_rfl)) ?_
        (first | refine wl_f (f_loadb 0 rfl Try.underlying33 rfl rfl rfl) ?_ | refine wl_f (f_loadb 1 rfl Try.underlying33 rfl rfl rfl) ?_ | refine wl_f (f_loadb 2 rfl Try.underlying33 rfl rfl rfl) ?_ | refine wl_f (f_loadb 3 rfl Try.underlying33 rfl rfl rfl) ?_ | refine wl_f (f_loadb 4 rfl Try.underlying33 rfl rfl rfl) ?_ | refine wl_f (f_loadb 5 rfl Try.underlying33 rfl rfl rfl) ?_ | refine wl_f (f_loadb 6 rfl Try.underlying33 rfl rfl rfl) ?_)
        refine wl_f (f_eqv (v' := .int .u64 ((m + 1) * base + isum (es.take (j + 1)) : Nat)) (f_addu rfl rfl (by omega)) (by rw [hst, ← Nat.add_assoc]; exact congrArg (Value.int .u64) (Int.natCast_add _ _).symm)) ?_
        refine wl_f (f_assign rfl) ?_
        refine wl_pick [1, 1] rfl ?_
        refine wl_end [(8, _), (20, _), (133, _), (134, _), (135, _)] ⟨rfl, rfl, rfl, rfl, rfl, trivial⟩ ?_
        refine w_reg ?_
        refine wl_f (f_add rfl rfl (by omega)) ?_
        refine wl_f (f_move rfl) ?_
        refine wl_end [(8, _), (20, _), (133, _), (134, _), (135, _)] ⟨rfl, rfl, rfl, rfl, rfl, trivial⟩ ?_
        exact ⟨kk4 - 1, by omega, j + 1, rfl, rfl, by omega⟩
      · skip
        have hj : j = es.length := by
          have : ¬ (j : Int) < (es.length : Int) := hc8
          omega
        subst hj
        rw [List.take_length, hsum, show (m + 1) * base + osum M = total from by omega]
        refine w_exit0 ?_
        refine w_seq ?_
        refine w_reg ?_
        refine wl_f (f_move rfl) ?_
        refine wl_f (f_move rfl) ?_
        refine wl_e (e_call1 r [_] rfl Try.func15 (by kernel_rfl) (List.Perm.swap ..) (fun w hh hs => frtotal_spec t m M base total r w hr hs)) ?_
        rintro _ _ w14 ⟨_, rfl, rfl, rfl⟩
        refine wl_f (f_eql rfl rfl) ?_
        refine wl_f (f_move rfl) ?_
        refine wl_and (j := 4) (c := true) 1 [] trivial rfl rfl rfl rfl rfl (fun hg33_6 => ?_) (fun w33_6 => ?_)
        · skip
          refine wl_ge rfl rfl (e_call0 rfl Try.func16 (by kernel_rfl) (fun w hh => awake14_spec w)) ?_
          rintro _ _ w15 ⟨_, rfl, rfl⟩
          exact wl_pend rfl rfl trivial (List.sublist_append_right _ _)
        refine wl_f (f_assign rfl) ?_
        refine wl_end [(6, _)] ⟨rfl, trivial⟩ ?_
        refine w_ret ?_
        refine ⟨_, _, fun a ha hh => results_tmps Try.results3 rfl a ha _, List.Sublist.refl _, ?_⟩
        show Value.bool _ = _
        simp
end Go.Proofs.Ytkoklfagmbaapaa
