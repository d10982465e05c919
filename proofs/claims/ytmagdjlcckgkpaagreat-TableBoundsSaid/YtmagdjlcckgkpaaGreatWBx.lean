/- The law TableBounds: the call returns true. -/
import Derived.Test.YtmagdjlcckgkpaaGreatMB11
import Derived.Test.YtmagdjlcckgkpaaGreatMB7
import Derived.Test.YtmagdjlcckgkpaaGreatMB2
import Derived.Test.YtmagdjlcckgkpaaGreatK19x
namespace Go.Proofs.YtmagdjlcckgkpaaGreat
open Go.RowKit

def nonK : ByteArray := ⟨#[110, 111, 110, 101]⟩
/-- Only additions: the weight of each key is within its bounds. -/
def TsH (m : Nat) (f : ByteArray → Nat) : TS → Prop
  | .sv E _ base total => HInv E base total f ∧ E.length = m
  | .fr M ded total => FH m M ded total f
theorem TsH.new (mode m : Nat) : TsH m (fun _ => 0) (TS.new mode m) := by
  unfold TS.new
  split
  · exact ⟨HInv.new m, List.length_replicate⟩
  · exact FH.new m
theorem TsH.add {m : Nat} {S S' : TS} {k : ByteArray} {v : Nat} {e : Int} {f : ByteArray → Nat} (h : TsH m f S) (hA : AddS m k v e S S') (he : e = 0) : S'.total = S.total + v ∧ TsH m (fadd f k v) S' := by
  cases S with
  | sv E l base total =>
    cases S' with
    | fr _ _ _ => cases hA
    | sv E' l' base' total' =>
      rcases h.1.add h.2 hA.1 with ⟨h1, _⟩ | ⟨_, h2, h3, h4⟩
      · exact absurd he h1
      · exact ⟨h2, h3, h4⟩
  | fr M ded total =>
    cases S' with
    | sv _ _ _ _ => cases hA
    | fr M' ded' total' =>
      rcases FH.add h hA with ⟨h1, _⟩ | ⟨_, h2, h3⟩
      · exact absurd he h1
      · exact ⟨h2, h3⟩
theorem AddS.ok {m : Nat} {S S' : TS} {k : ByteArray} {v : Nat} {e : Int} (hA : AddS m k v e S S') (hk : k ≠ ByteArray.empty) (hv : v ≠ 0) (ht : S.total + v ≤ 9223372036854775808) : e = 0 := by
  cases S with
  | sv E l base total =>
    cases S' with
    | fr _ _ _ => cases hA
    | sv E' l' base' total' => exact hA.1.ok hk hv ht
  | fr M ded total =>
    cases S' with
    | sv _ _ _ _ => cases hA
    | fr M' ded' total' => exact FAddG.ok hA hk hv ht
theorem TsH.bounds {m : Nat} {S : TS} {k k' : ByteArray} {o s : Nat} {is : Bool} {f : ByteArray → Nat} (h : TsH m f S) (hg : GetS k k' o s is S) : (if is then o else 0) ≤ f k ∧ f k ≤ (if is then o + s else S.base) := by
  cases S with
  | sv E l base total =>
    cases is with
    | true => obtain ⟨i, hi, _⟩ := hg.1 rfl; exact h.1.yes k i o s hi
    | false => exact ⟨Nat.zero_le _, h.1.no k (hg.2 rfl).1⟩
  | fr M ded total =>
    cases is with
    | true => obtain ⟨hi, rfl, _⟩ := hg.1 rfl; exact FH.yes h k o hi
    | false => exact ⟨Nat.zero_le _, FH.no h k (hg.2 rfl).1⟩
set_option maxHeartbeats 16000000 in
theorem tableBounds_spec (sv' : Bool) (z : Nat) (A1 : Option Addr) (c1 : Nat) (L1 : List Int) (A2 : Option Addr) (c2 : Nat) (L2 : List Int) (w : World) (hz : z < 256)
    (h1 : Rd w Nil 1 (.slice A1 L1.length c1) L1.length (iv L1)) (hL1 : L1.length ≤ 140737488355328) (h2 : Rd w Nil 1 (.slice A2 L2.length c2) L2.length (L2.map (Value.int .u16))) (hL2 : L2.length ≤ 140737488355328) (hb2 : ∀ x ∈ L2, 0 ≤ x ∧ x ≤ 65535) :
    Spec Tryz.prog 3 [.bool sv', .int .u8 z, .slice A1 L1.length c1, .slice A2 L2.length c2] w Nil fun r _ => r = .bool true := by
  obtain ⟨A', c', e, hxl, hxc, hxA⟩ := id h2
  injection e with e1 _ e3
  subst e1; subst e3
  refine enter (n := 115) Tryz.func3 rfl rfl [(0, _), (1, _), (2, _), (3, _)] rfl ⟨rfl, rfl, rfl, rfl, trivial⟩ (Holds.start _ _) ?_
  refine w_seq (w_reg (wl_f (f_assign rfl) (wl_end [(0, _), (1, _), (2, _), (3, _)] ⟨rfl, rfl, rfl, rfl, trivial⟩ ?_)))
  refine w_seq (w_reg (wl_f (f_move rfl) (wl_f (f_convi rfl Tryz.underlying5 Tryz.underlying3 (by omega)) ?_)))
  refine wl_f (f_rem rfl rfl (by omega)) ?_
  refine wl_f (f_eqv (v' := .int .i64 ((1 + z % 8 : Nat) : Int)) (f_add rfl rfl (by omega)) (by congr 1)) ?_
  obtain ⟨m, hm, hm1, hm8⟩ : ∃ m, 1 + z % 8 = m ∧ 1 ≤ m ∧ m ≤ 8 := ⟨_, rfl, by omega, by omega⟩
  rw [hm]
  refine wl_f (f_assign rfl) (wl_f (f_assign rfl) (wl_end [(0, _), (2, _), (3, _), (9, _), (10, _)] ⟨rfl, rfl, rfl, rfl, rfl, trivial⟩ ?_))
  refine w_seq (w_seq (w_reg (wl_f (f_move rfl) (wl_end [(2, _), (3, _), (9, _), (10, _), (27, _)] ⟨rfl, rfl, rfl, rfl, rfl, trivial⟩ ?_))))
  refine w_post (fun m' H w' => ∃ mode : Nat, m' = [(2, .slice A1 L1.length c1), (3, .slice A2 L2.length c2), (9, .int .i64 mode), (10, .int .i64 m)] ∧ H = [] ∧ (mode = 1 ∨ mode = 2)) ?_ ?_
  · skip
    refine w_ifb rfl (fun hc1 => ?_) (fun hc1 => ?_)
    · skip
      refine w_reg (wl_f (f_assign rfl) (wl_end [(2, _), (3, _), (9, _), (10, _)] ⟨rfl, rfl, rfl, rfl, trivial⟩ ?_))
      exact ⟨1, rfl, rfl, .inl rfl⟩
    · skip
      refine w_sub [(2, _), (3, _), (9, _), (10, _)] ⟨rfl, rfl, rfl, rfl, trivial⟩ (w_skip ?_)
      exact ⟨2, rfl, rfl, .inr rfl⟩
  · rintro _ _ w0 ⟨mode, rfl, rfl, hmode⟩
    refine w_seq (w_reg (wl_f (f_move rfl) (wl_f (f_move rfl) (wl_e (e_call0 rfl Tryz.func8 (by kernel_rfl) (fun w hh => tnew_ok mode m w hmode hm1 (by omega))) ?_))))
    rintro _ _ w1 ⟨_, rfl, t, r0, rfl, rfl, hr0⟩
    refine wl_f (f_move rfl) (wl_f (f_extract rfl rfl) ?_)
    refine wl_f (f_extract rfl rfl) ?_
    refine wl_f (f_assign rfl) (wl_f (f_assign rfl) (wl_end [(2, _), (3, _), (11, _), (12, _)] ⟨rfl, rfl, rfl, rfl, trivial⟩ ?_))
    refine w_seq (w_seq (w_reg (wl_f (f_move rfl) (wl_f (f_neq rfl rfl) ?_))))
    refine wl_f (f_move rfl) ?_
    refine wl_or (j := 2) (c := false) 2 [(2, _), (3, _), (11, _)] ⟨rfl, rfl, rfl, trivial⟩ rfl rfl rfl rfl rfl (fun hg5_5 => ?_) (fun w5_5 => ?_)
    · skip
      refine wl_gf rfl rfl (f_move rfl) ?_
      refine wl_gf rfl rfl (f_eqlnil rfl rfl Tryz.underlying24) ?_
      exact wl_pend rfl rfl ⟨rfl, rfl, rfl, trivial⟩ (List.Sublist.refl _)
    refine wl_end [(2, _), (3, _), (11, _), (39, _)] ⟨rfl, rfl, rfl, rfl, trivial⟩ ?_
    refine w_iff rfl ?_
    refine w_skip ?_
    refine w_seq (w_reg (wl_f (f_move rfl) (wl_e (e_call0 rfl Tryz.func9 (by kernel_rfl) (fun w hh => new_spec A1 L1.length c1 w)) ?_)))
    rintro _ _ w2 ⟨_, rfl, bd, rfl, rfl⟩
    refine wl_f (f_assign rfl) (wl_pick [1, 0] rfl ?_)
    refine wl_end [(3, _), (11, _), (13, _)] ⟨rfl, rfl, rfl, trivial⟩ ?_
    refine w_seq (w_reg (wl_f (f_assign rfl) (wl_end [(3, _), (11, _), (13, _), (14, _)] ⟨rfl, rfl, rfl, rfl, trivial⟩ ?_)))
    refine w_seq (w_seq (w_reg (wl_f (f_assign rfl) (wl_end [(3, _), (11, _), (13, _), (14, _), (15, _)] ⟨rfl, rfl, rfl, rfl, rfl, trivial⟩ ?_))))
    refine w_block ?_
    have ht0 : (TS.new mode m).total = 0 := by
      rcases hmode with rfl | rfl <;> rfl
    refine w_nilrow 9 1 ?_
    refine w_loop (fun kk m' H w' => ∃ (i : Nat) (S : TS) (r : Res) (p : Nat) (P : KW) (v : Value), m' = [(3, .slice A2 L2.length c2), (11, .pointer (some ⟨t, 0, .none⟩)), (13, .pointer (some ⟨bd, 0, .none⟩)), (14, v), (15, .int .i64 i)] ∧
      H = [row v 9 1 P.length (sv (kfst P)), r, deck bd (.slice A1 L1.length c1) p] ∧ TbS t m S r ∧ TsJ m S ∧ TsH m (wsum P) S ∧ S.total ≤ i * 65536 ∧ P.length = i ∧ (∀ j, j < i → ∃ (k : ByteArray) (s : Nat), P[j]? = some (k, 1 + s) ∧ L2[j]? = some (s : Int) ∧ small k ∧ s ≤ 65535) ∧ kk + i = 60 ∧ i ≤ L2.length ∧ p ≤ L1.length) 60
      ⟨0, _, r0, 0, [], _, rfl, rfl, hr0, TsJ.new mode m hm1, TsH.new mode m, by rw [ht0]; exact Nat.zero_le _, rfl, fun j hj => absurd hj (Nat.not_lt_zero _), rfl, Nat.zero_le _, Nat.zero_le _⟩ ?_
    rintro kk _ _ w3 ⟨i, S, r, p, P, v, rfl, rfl, hr, hJ, hI, htot, hPl, hP, hkk, hiL, hp⟩
    refine w_seq (w_seq (w_reg (wl_f (f_move rfl) (wl_f (f_move rfl) (wl_f (f_len rfl Tryz.underlying23) ?_)))))
    refine wl_f (f_lss rfl rfl) ?_
    refine wl_f (f_move rfl) ?_
    refine wl_and (j := 4) (c := decide ((i : Int) < 60)) 2 [(3, _), (11, _), (13, _), (14, _), (15, _)] ⟨rfl, rfl, rfl, rfl, rfl, trivial⟩ rfl rfl rfl rfl rfl (fun hg10_7 => ?_) (fun w10_7 => ?_)
    · skip
      refine wl_gf rfl rfl (f_move rfl) ?_
      refine wl_gf rfl rfl (f_lss rfl rfl) ?_
      exact wl_pend rfl rfl ⟨rfl, rfl, rfl, rfl, rfl, trivial⟩ (List.Sublist.refl _)
    refine wl_end [(3, _), (11, _), (13, _), (14, _), (15, _), (49, _)] ⟨rfl, rfl, rfl, rfl, rfl, rfl, trivial⟩ ?_
    refine w_ifb rfl (fun hc3 => ?_) (fun hc3 => ?_)
    · skip
      simp only [Bool.and_eq_true, decide_eq_true_eq] at hc3
      have hi : i < L2.length := by omega
      have hi80 : i < 60 := by omega
      obtain ⟨s0, hsi⟩ : ∃ s, L2[i]? = some s := ⟨_, List.getElem?_eq_getElem hi⟩
      have hs0 := hb2 s0 (List.mem_of_getElem? hsi)
      obtain ⟨sn, rfl⟩ : ∃ sn : Nat, s0 = sn := ⟨s0.toNat, by omega⟩
      have hsn : sn ≤ 65535 := by omega
      have hsn1 : 1 + sn ≤ 65536 := by omega
      have htot2 : S.total + (1 + sn) ≤ 9223372036854775808 := by omega
      obtain ⟨b2, off, rfl, _, _, hcell⟩ := hxA.resolve_left (by omega)
      refine w_skip ?_
      refine w_seq (w_block ?_)
      refine w_seq (w_reg (wl_f (f_move rfl) (wl_f (f_move rfl) (wl_e (e_call1 (deck bd (.slice A1 L1.length c1) p) [_, _] rfl Tryz.func10 (by kernel_rfl) (pk1 2 rfl) (fun w hh hs' => short3_spec bd _ L1 p w ⟨h1.old1 hh (pk1 2 rfl), hL1, hp⟩ hs')) ?_))))
      rintro _ _ w4 ⟨_, rfl, k, p2, rfl, hk3, rfl, hp2⟩
      have hks : small k := small_of (by omega)
      have hk0 : k ≠ ByteArray.empty := ne_of_size (fun e => absurd hk3.1 (by rw [e]; decide))
      refine wl_e (e_lit1 (cs := [_]) t30 rfl rfl rfl (by omega)) ?_
      rintro _ _ w12_3 ⟨b12_3, rfl, rfl⟩
      refine wl_e (e_appN 2 t30 rfl rfl rfl (fun w hh => Rd.held0 hh (i := 0) rfl) (by simp [Value.oneCell']) (by omega) (by omega)) ?_
      rintro v2 _ w5 ⟨_, rfl⟩
      refine wl_f (f_assign rfl) (wl_pick [2, 2, 1] rfl ?_)
      refine wl_end [(3, _), (11, _), (13, _), (14, _), (15, _)] ⟨rfl, rfl, rfl, rfl, rfl, trivial⟩ ?_
      refine w_seq ?_
      have hrow : row v2 9 1 (P.length + 1) (sv (kfst P) ++ [.string k]) = row v2 9 1 (P ++ [(k, 1 + sn)]).length (sv (kfst (P ++ [(k, 1 + sn)]))) := by
        rw [List.length_append, kfst, kfst, List.map_append, sv_app]; rfl
      rw [hrow]
      have hP2l : (P ++ [(k, 1 + sn)]).length = i + 1 := by rw [List.length_append, hPl]; rfl
      have hkget : (kfst (P ++ [(k, 1 + sn)]))[i]? = some k := by rw [kfst, List.map_append, List.getElem?_append_right (by rw [List.length_map]; omega)]; simp [hPl]
      refine w_with fun hh => ?_
      obtain ⟨gv, cv, e⟩ := row_form hh (i := 0) rfl (by omega)
      subst e
      clear hh
      refine w_draw [(0, true), (1, true), (2, true), (3, true), (4, true), (5, true), (6, true), (7, true), (8, true), (9, true), (10, true), (11, false), (12, true)] ([_]) ([_, _]) mixed (by kernel_rfl) (by kernel_rfl) rfl (List.Perm.refl _) (fun w13_ => ?_)
      refine wd_f rfl (f_move rfl) (wd_f rfl (f_move rfl) (wd_f rfl (f_move rfl) (wd_f rfl (f_indexAddr 1 (i := i) rfl rfl Tryz.underlying30 (by kernel_rfl) rfl (by omega)) ?_)))
      refine wd_f rfl (f_loadr (v := .string k) 0 rfl Tryz.underlying9 rfl rfl (map_get Value.string hkget)) ?_
      refine wd_f rfl (f_move rfl) (wd_f rfl (f_move rfl) (wd_f rfl (f_indexAddr 1 (i := i) rfl rfl Tryz.underlying23 (by kernel_rfl) rfl hi) ?_))
      refine wd_f rfl (f_loado (v := .int .u16 sn) rfl Tryz.underlying34 rfl (hcell _ _ (by simp [hsi])) id) ?_
      refine wd_f rfl (f_convu rfl Tryz.underlying34 Tryz.underlying33 (by omega)) ?_
      refine wd_f rfl (f_eqv (v' := .int .u64 ((1 + sn : Nat) : Int)) (f_addu rfl rfl (by omega)) (by congr 1)) ?_
      refine wd_e rfl (e_call1 r [_, _] rfl Tryz.func11 (by kernel_rfl) (pk1 1 rfl) (fun w hh hs => tadd_spec k (1 + sn) (by omega) hks (by omega) hJ hr hs)) ?_
      rintro _ _ w6 ⟨_, rfl, e1, S1, r1, rfl, rfl, hr1, hA⟩
      have he := hA.ok hk0 (Nat.ne_of_gt (Nat.lt_of_lt_of_le Nat.zero_lt_one (Nat.le_add_right 1 sn))) htot2
      refine ⟨_, List.Perm.swap .., ?_⟩
      refine wd_f rfl (f_neq rfl rfl) ?_
      refine wd_end [(3, _), (11, _), (13, _), (14, _), (15, _), (69, _)] ⟨rfl, rfl, rfl, rfl, rfl, rfl, trivial⟩ ?_
      refine w_ifd rfl (fun h => absurd he h) (fun _ => ?_)
      obtain ⟨htt, hI1⟩ := hI.add hA he
      refine w_skip ?_
      refine w_reg (wl_f (f_move rfl) (wl_f (f_add rfl rfl (by omega)) ?_))
      refine wl_f (f_assign rfl) (wl_end [(3, _), (11, _), (13, _), (14, _), (15, _)] ⟨rfl, rfl, rfl, rfl, rfl, trivial⟩ ?_)
      refine ⟨kk - 1, by omega, i + 1, S1, r1, p2, P ++ [(k, 1 + sn)], _, rfl, rfl, hr1, hJ.add hA, by rw [wsum_fun]; exact hI1, bnd_step htt htot hsn1, hP2l, fun j hj => ?_, by omega, by omega, hp2⟩
      rcases Nat.lt_or_eq_of_le (Nat.le_of_lt_succ hj) with h | rfl
      · obtain ⟨k', s', h5, h6⟩ := hP j h
        exact ⟨k', s', by rw [List.getElem?_append_left (by omega)]; exact h5, h6⟩
      · exact ⟨k, sn, by rw [List.getElem?_append_right (by omega), hPl]; simp, hsi, hks, hsn⟩
    · skip
      refine w_pick [0, 0] rfl ?_
      have hi80 : i ≤ 60 := by omega
      have hwb : ∀ q j, wsum (P.take j) q ≤ 5242880 := fun q j => by
        have h5 := wsum_le (P := P.take j) (b := 65536) (fun x hx => by
          obtain ⟨a, ha⟩ := List.mem_iff_getElem?.1 (List.mem_of_mem_take hx)
          have hal : a < P.length := (List.getElem?_eq_some_iff.1 ha).1
          obtain ⟨k', s', h5, _, _, h6⟩ := hP a (by omega)
          rw [ha] at h5
          injection h5 with h5
          rw [h5]
          show 1 + s' ≤ 65536
          omega) q
        have h6 : (P.take j).length ≤ 60 := by rw [List.length_take]; omega
        omega
      refine w_with fun hh => ?_
      obtain ⟨Av, cv, rfl⟩ := row_slice hh (i := 0) rfl
      clear hh
      have hsvn : sv (kfst P) ++ [.string nonK] = sv (kfst P ++ [nonK]) := by rw [sv_app]; rfl
      refine w_exit0 ?_
      refine w_seq (w_seq ?_)
      refine w_post (fun m' H w' => ∃ (U : Option Addr) (cu : Nat) (Hk : List Res), m' = [(3, .slice A2 L2.length c2), (11, .pointer (some ⟨t, 0, .none⟩)), (14, .slice Av P.length cv), (72, .slice U (P.length + 1) cu), (73, .int .i64 ((P.length + 1 : Nat) : Int)), (74, .int .i64 0)] ∧ H = row (.slice U (P.length + 1) cu) 9 1 (P.length + 1) (sv (kfst P ++ [nonK])) :: r :: Hk ∧
          (P.length ≠ 0 → ∃ g, Av = some ⟨g, 0, .none⟩ ∧ ∀ w', Holds w Nil (row (.slice U (P.length + 1) cu) 9 1 (P.length + 1) (sv (kfst P ++ [nonK])) :: r :: Hk) w' → ∀ (a : Nat) (k : ByteArray), (kfst P)[a]? = some k → w'.cell? ⟨g, a, .none⟩ = some (.string k))) ?_ ?_
      · refine w_reg ?_
        refine wl_f (f_move rfl) (wl_e (e_lit1 (cs := [_]) t30 rfl rfl rfl (by omega)) ?_)
        rintro _ _ w15 ⟨b15, rfl, rfl⟩
        by_cases hP0 : P.length = 0
        · refine wl_e (e_appN 1 t30 rfl rfl rfl (fun w hh => Rd.held0 hh (i := 0) rfl) (by simp [Value.oneCell']) (by omega) (by omega)) ?_
          rintro _ _ w16 ⟨⟨U, cu, rfl⟩, rfl⟩
          refine wl_f (f_len rfl Tryz.underlying30) ?_
          refine wl_f (f_move rfl) (wl_pick [1, 1] rfl ?_)
          refine wl_end [(3, _), (11, _), (14, _), (72, _), (73, _), (74, _)] ⟨rfl, rfl, rfl, rfl, rfl, rfl, trivial⟩ ?_
          exact ⟨U, cu, [], rfl, by rw [← hsvn]; rfl, fun h => absurd hP0 h⟩
        · refine wl_with fun hh => ?_
          obtain ⟨g, cap, e⟩ := row_form hh (i := 1) rfl (by omega)
          injection e with e1 _ e3
          subst e1; subst e3
          clear hh
          refine wl_pick [1, 0, 0] rfl ?_
          refine wl_e (e_appK [_, _] t30 (by decide) rfl rfl (fun w hh => Rd.held0 hh (i := 1) rfl) (by simp [Value.oneCell']) (by omega) (by omega)) ?_
          rintro u _ w16 (rfl | ⟨rfl, rfl⟩)
          · refine wl_with fun hh => ?_
            obtain ⟨U, cu, rfl⟩ := row_slice hh (i := 0) rfl
            clear hh
            refine wl_f (f_len rfl Tryz.underlying30) ?_
            refine wl_f (f_move rfl) (wl_pick [0, 2, 0] rfl ?_)
            refine wl_end [(3, _), (11, _), (14, _), (72, _), (73, _), (74, _)] ⟨rfl, rfl, rfl, rfl, rfl, rfl, trivial⟩ ?_
            refine ⟨U, cu, [_], rfl, by rw [← hsvn]; rfl, fun _ => ⟨g, rfl, fun w' hh a k hk => ?_⟩⟩
            have hal : a < P.length := by
              have := (List.getElem?_eq_some_iff.1 hk).1
              rwa [kfst, List.length_map] at this
            exact (World.ownsRow.cellAt (hh.ok (i := 2) rfl) a (by omega)).trans (by rw [sv, List.getElem?_map, hk]; rfl)
          · refine wl_f (f_len rfl Tryz.underlying30) ?_
            refine wl_f (f_move rfl) (wl_pick [0, 1] rfl ?_)
            refine wl_end [(3, _), (11, _), (14, _), (72, _), (73, _), (74, _)] ⟨rfl, rfl, rfl, rfl, rfl, rfl, trivial⟩ ?_
            refine ⟨_, _, [], rfl, by rw [← hsvn]; rfl, fun _ => ⟨g, rfl, fun w' hh a k hk => ?_⟩⟩
            have hal : a < P.length := by
              have := (List.getElem?_eq_some_iff.1 hk).1
              rwa [kfst, List.length_map] at this
            have hk2 : (kfst P ++ [nonK])[a]? = some k := (List.getElem?_append_left (by rw [kfst, List.length_map]; exact hal)).trans hk
            exact (World.ownsRow.cellAt (hh.ok (i := 0) rfl) a (by omega)).trans (by rw [sv, List.getElem?_map, hk2]; rfl)
      rintro _ _ w17 ⟨U, cu, Hk, rfl, rfl, hrd⟩
      refine w_block ?_
      refine w_loop (fun kk m' H w' => ∃ j : Nat, m' = [(3, .slice A2 L2.length c2), (11, .pointer (some ⟨t, 0, .none⟩)), (14, .slice Av P.length cv), (72, .slice U (P.length + 1) cu), (73, .int .i64 ((P.length + 1 : Nat) : Int)), (74, .int .i64 j)] ∧
        H = row (.slice U (P.length + 1) cu) 9 1 (P.length + 1) (sv (kfst P ++ [nonK])) :: r :: Hk ∧ kk + j = P.length + 1) (P.length + 1) ⟨0, rfl, rfl, rfl⟩ ?_
      rintro kk2 _ _ w7 ⟨j, rfl, rfl, hkk2⟩
      refine w_seq (w_reg (wl_f (f_lss rfl rfl) ?_))
      refine wl_end [(3, _), (11, _), (14, _), (72, _), (73, _), (74, _), (75, _)] ⟨rfl, rfl, rfl, rfl, rfl, rfl, rfl, trivial⟩ ?_
      refine w_seq ?_
      refine w_ifd rfl (fun hc5 => ?_) (fun hc5 => ?_)
      · skip
        have hj : j < P.length + 1 := by
          have : (j : Int) < ((P.length + 1 : Nat) : Int) := hc5
          omega
        obtain ⟨q, hkj, hqs⟩ : ∃ q, (kfst P ++ [nonK])[j]? = some q ∧ small q := by
          by_cases hjl : j < P.length
          · obtain ⟨q, sq, hPj, _, hqs, _⟩ := hP j (by omega)
            exact ⟨q, by rw [List.getElem?_append_left (by rw [kfst, List.length_map]; exact hjl), kfst, List.getElem?_map, hPj]; rfl, hqs⟩
          · exact ⟨nonK, by rw [List.getElem?_append_right (by rw [kfst, List.length_map]; omega), kfst, List.length_map, show j - P.length = 0 by omega]; rfl, small_of (by decide)⟩
        refine w_with fun hh => ?_
        obtain ⟨gu, cap2, e⟩ := row_form hh (i := 0) rfl (by omega)
        cases e
        clear hh
        refine w_skip ?_
        refine w_seq (w_block ?_)
        refine w_seq (w_reg (wl_f (f_indexAddr 1 (i := j) rfl rfl Tryz.underlying30 (by kernel_rfl) rfl hj) ?_))
        refine wl_f (f_loadr (v := .string q) 0 rfl Tryz.underlying9 rfl rfl (map_get Value.string hkj)) ?_
        refine wl_f (f_assign rfl) (wl_end [(3, _), (11, _), (14, _), (17, _), (72, _), (73, _), (74, _)] ⟨rfl, rfl, rfl, rfl, rfl, rfl, rfl, trivial⟩ ?_)
        refine w_seq (w_reg (wl_f (f_assign rfl) (wl_end [(3, _), (11, _), (14, _), (17, _), (18, _), (72, _), (73, _), (74, _)] ⟨rfl, rfl, rfl, rfl, rfl, rfl, rfl, rfl, trivial⟩ ?_)))
        refine w_seq (w_seq (w_reg (wl_f (f_move rfl) (wl_f (f_len rfl Tryz.underlying30) ?_))))
        refine wl_f (f_move rfl) (wl_end [(3, _), (11, _), (14, _), (17, _), (18, _), (72, _), (73, _), (74, _), (78, _), (79, _), (80, _)] ⟨rfl, rfl, rfl, rfl, rfl, rfl, rfl, rfl, rfl, rfl, rfl, trivial⟩ ?_)
        refine w_block ?_
        refine w_loop (fun kk m' H w' => ∃ a : Nat, m' = [(3, .slice A2 L2.length c2), (11, .pointer (some ⟨t, 0, .none⟩)), (14, .slice Av P.length cv), (17, .string q), (18, .int .u64 (wsum (P.take a) q : Nat)), (72, .slice (some ⟨gu, 0, .none⟩) (P.length + 1) cu), (73, .int .i64 ((P.length + 1 : Nat) : Int)), (74, .int .i64 j),
            (78, .slice Av P.length cv), (79, .int .i64 P.length), (80, .int .i64 a)] ∧ H = row (.slice (some ⟨gu, 0, .none⟩) (P.length + 1) cu) 9 1 (P.length + 1) (sv (kfst P ++ [nonK])) :: r :: Hk ∧ kk + a = P.length) P.length ⟨0, rfl, rfl, rfl⟩ ?_
        rintro kk3 _ _ w8 ⟨a, rfl, rfl, hkk3⟩
        refine w_seq (w_reg (wl_f (f_lss rfl rfl) ?_))
        refine wl_end [(3, _), (11, _), (14, _), (17, _), (18, _), (72, _), (73, _), (74, _), (78, _), (79, _), (80, _), (81, _)] ⟨rfl, rfl, rfl, rfl, rfl, rfl, rfl, rfl, rfl, rfl, rfl, rfl, trivial⟩ ?_
        refine w_seq ?_
        refine w_ifd rfl (fun hc6 => ?_) (fun hc6 => ?_)
        · skip
          have ha : a < P.length := by
            have : (a : Int) < (P.length : Int) := hc6
            omega
          obtain ⟨k, sn, hPa, hLa, _, hsn⟩ := hP a (by omega)
          have hka : (kfst P)[a]? = some k := by rw [kfst, List.getElem?_map, hPa]; rfl
          have haL : a < L2.length := by omega
          have hw1 := hwb q a
          have hstep : wsum (P.take (a + 1)) q = fadd (wsum (P.take a)) k (1 + sn) q := by rw [take_snoc' hPa, wsum_snoc]
          obtain ⟨b2, off, rfl, _, _, hcell⟩ := hxA.resolve_left (by omega)
          obtain ⟨g, rfl, hrd2⟩ := hrd (by omega)
          refine w_skip ?_
          refine w_seq ?_
          refine w_post (fun m' H w' => m' = [(3, .slice (some ⟨b2, off, .none⟩) L2.length c2), (11, .pointer (some ⟨t, 0, .none⟩)), (14, .slice (some ⟨g, 0, .none⟩) P.length cv), (17, .string q), (18, .int .u64 (wsum (P.take (a + 1)) q : Nat)), (72, .slice (some ⟨gu, 0, .none⟩) (P.length + 1) cu), (73, .int .i64 ((P.length + 1 : Nat) : Int)), (74, .int .i64 j),
              (78, .slice (some ⟨g, 0, .none⟩) P.length cv), (79, .int .i64 P.length), (80, .int .i64 a)] ∧ H = row (.slice (some ⟨gu, 0, .none⟩) (P.length + 1) cu) 9 1 (P.length + 1) (sv (kfst P ++ [nonK])) :: r :: Hk) ?_ ?_
          · skip
            refine w_block ?_
            refine w_seq (w_reg (wl_f (f_move rfl) (wl_f (f_indexAddr 1 (i := a) rfl rfl Tryz.underlying30 (by kernel_rfl) rfl ha) ?_)))
            refine wl_f (f_load (v := .string k) rfl Tryz.underlying9 rfl (fun w' hh => by have := hrd2 w' hh a k hka; simpa using this)) ?_
            refine wl_f (f_assign rfl) (wl_f (f_assign rfl) (wl_end [(3, _), (11, _), (14, _), (17, _), (18, _), (19, _), (20, _), (72, _), (73, _), (74, _), (78, _), (79, _), (80, _)] ⟨rfl, rfl, rfl, rfl, rfl, rfl, rfl, rfl, rfl, rfl, rfl, rfl, rfl, trivial⟩ ?_))
            refine w_seq (w_reg (wl_f (f_move rfl) (wl_f (f_move rfl) (wl_f (f_eqls rfl rfl) ?_))))
            refine wl_end [(3, _), (11, _), (14, _), (17, _), (18, _), (19, _), (72, _), (73, _), (74, _), (78, _), (79, _), (80, _), (87, _)] ⟨rfl, rfl, rfl, rfl, rfl, rfl, rfl, rfl, rfl, rfl, rfl, rfl, rfl, trivial⟩ ?_
            refine w_ifd rfl (fun hc7 => ?_) (fun hc7 => ?_)
            · skip
              have hkq : q = k := (show k = q from hc7).symm
              rw [hkq] at hstep
              rw [hkq] at hw1
              refine w_reg (wl_f (f_move rfl) (wl_f (f_move rfl) (wl_f (f_move rfl) (wl_f (f_indexAddr 1 (i := a) rfl rfl Tryz.underlying23 (by kernel_rfl) rfl haL) ?_))))
              refine wl_f (f_loado (v := .int .u16 sn) rfl Tryz.underlying34 rfl (hcell _ _ (by simp [hLa])) id) ?_
              refine wl_f (f_convu rfl Tryz.underlying34 Tryz.underlying33 (by omega)) ?_
              refine wl_f (f_eqv (v' := .int .u64 ((1 + sn : Nat) : Int)) (f_addu rfl rfl (by omega)) (by congr 1)) ?_
              refine wl_f (f_eqv (v' := .int .u64 (wsum (P.take (a + 1)) q : Nat)) (f_addu rfl rfl (by rw [hkq]; omega)) (by rw [hkq, hstep, fadd_self]; exact congrArg (Value.int .u64) (Int.natCast_add _ _).symm)) ?_
              refine wl_f (f_assign rfl) (wl_end [(3, _), (11, _), (14, _), (17, _), (18, _), (72, _), (73, _), (74, _), (78, _), (79, _), (80, _)] ⟨rfl, rfl, rfl, rfl, rfl, rfl, rfl, rfl, rfl, rfl, rfl, trivial⟩ ?_)
              exact ⟨rfl, rfl⟩
            · skip
              have hkq : q ≠ k := fun e => hc7 (show k = q from e.symm)
              rw [fadd_ne hkq] at hstep
              refine w_sub [(3, _), (11, _), (14, _), (17, _), (18, _), (72, _), (73, _), (74, _), (78, _), (79, _), (80, _)] ⟨rfl, rfl, rfl, rfl, rfl, rfl, rfl, rfl, rfl, rfl, rfl, trivial⟩ (w_skip ?_)
              exact ⟨by rw [hstep], rfl⟩
          · rintro _ _ w9 ⟨rfl, rfl⟩
            refine w_reg (wl_f (f_add rfl rfl (by omega)) ?_)
            refine wl_f (f_move rfl) (wl_end [(3, _), (11, _), (14, _), (17, _), (18, _), (72, _), (73, _), (74, _), (78, _), (79, _), (80, _)] ⟨rfl, rfl, rfl, rfl, rfl, rfl, rfl, rfl, rfl, rfl, rfl, trivial⟩ ?_)
            exact ⟨kk3 - 1, by omega, a + 1, rfl, rfl, by omega⟩
        · skip
          have ha : a = P.length := by
            have : ¬ (a : Int) < (P.length : Int) := hc6
            omega
          subst ha
          rw [List.take_length]
          have hw2 := hwb q P.length
          rw [List.take_length] at hw2
          refine w_exit0 ?_
          refine w_seq (w_reg (wl_f (f_move rfl) (wl_f (f_move rfl) (wl_e (e_call1 r (_ :: Hk) rfl Tryz.func12 (by kernel_rfl) (List.Perm.swap ..) (fun w hh hs => tbounds_spec q hqs hJ hr hs)) ?_))))
          rintro _ _ w10 ⟨_, rfl, k', o', s', is, rfl, rfl, hg⟩
          obtain ⟨hb1, hb2'⟩ := hI.bounds hg
          generalize (if is then o' else 0) = lo at hb1 ⊢
          generalize (if is then o' + s' else S.base) = hi' at hb2' ⊢
          refine wl_f (f_move rfl) (wl_f (f_extract rfl rfl) ?_)
          refine wl_f (f_extract rfl rfl) ?_
          refine wl_e (e_allocs [.int .u64 0, .int .u64 0] (by kernel_rfl)) ?_
          rintro _ _ w25_6 ⟨b25_6, rfl, rfl⟩
          refine wl_e0 (e_store0 (us := [_, _]) rfl rfl rfl (by kernel_rfl) (by simp [Value.oneCell']) rfl rfl) ?_
          rintro _ _ w25_7 rfl
          refine wl_f (f_assign rfl) (wl_end [(3, _), (11, _), (14, _), (18, _), (21, _), (72, _), (73, _), (74, _)] ⟨rfl, rfl, rfl, rfl, rfl, rfl, rfl, rfl, trivial⟩ ?_)
          refine w_seq (w_reg (wl_f (f_move rfl) (wl_f (f_fieldAddr 0 rfl Tryz.underlying36 rfl rfl (by kernel_rfl)) ?_)))
          (first | refine wl_f (f_loadb 0 rfl Tryz.underlying33 rfl rfl rfl) ?_ | refine wl_f (f_loadb 1 rfl Tryz.underlying33 rfl rfl rfl) ?_ | refine wl_f (f_loadb 2 rfl Tryz.underlying33 rfl rfl rfl) ?_ | refine wl_f (f_loadb 3 rfl Tryz.underlying33 rfl rfl rfl) ?_ | refine wl_f (f_loadb 4 rfl Tryz.underlying33 rfl rfl rfl) ?_ | refine wl_f (f_loadb 5 rfl Tryz.underlying33 rfl rfl rfl) ?_ | refine wl_f (f_loadb 6 rfl Tryz.underlying33 rfl rfl rfl) ?_)
          refine wl_f (f_eqv (v' := .bool false) (f_lss rfl rfl) (by rw [decide_eq_false (by omega)])) ?_
          refine wl_f (f_move rfl) ?_
          refine wl_or (j := 4) (c := false) 4 [(3, _), (11, _), (14, _), (72, _), (73, _), (74, _)] ⟨rfl, rfl, rfl, rfl, rfl, rfl, trivial⟩ rfl rfl rfl rfl rfl (fun hg26_9 => ?_) (fun w26_9 => ?_)
          · skip
            refine wl_gf rfl rfl (f_move rfl) ?_
            refine wl_gf rfl rfl (f_fieldAddr 1 rfl Tryz.underlying36 rfl rfl (by kernel_rfl)) ?_
            (first | refine wl_gf rfl rfl (f_loadb 0 rfl Tryz.underlying33 rfl rfl rfl) ?_ | refine wl_gf rfl rfl (f_loadb 1 rfl Tryz.underlying33 rfl rfl rfl) ?_ | refine wl_gf rfl rfl (f_loadb 2 rfl Tryz.underlying33 rfl rfl rfl) ?_ | refine wl_gf rfl rfl (f_loadb 3 rfl Tryz.underlying33 rfl rfl rfl) ?_ | refine wl_gf rfl rfl (f_loadb 4 rfl Tryz.underlying33 rfl rfl rfl) ?_ | refine wl_gf rfl rfl (f_loadb 5 rfl Tryz.underlying33 rfl rfl rfl) ?_ | refine wl_gf rfl rfl (f_loadb 6 rfl Tryz.underlying33 rfl rfl rfl) ?_)
            refine wl_gf rfl rfl (f_eqv (v' := .bool false) (f_gtr rfl rfl) (by rw [decide_eq_false (by omega)])) ?_
            exact wl_pend rfl rfl ⟨rfl, rfl, rfl, rfl, rfl, rfl, trivial⟩ (List.Sublist.refl _)
          refine wl_eqv (fun hh => (hh.drop_ (List.sublist_cons_self ..)).perm (List.Perm.swap ..)) ?_
          refine wl_end [(3, _), (11, _), (14, _), (72, _), (73, _), (74, _), (112, _)] ⟨rfl, rfl, rfl, rfl, rfl, rfl, rfl, trivial⟩ ?_
          refine w_iff rfl ?_
          refine w_skip ?_
          refine w_reg (wl_f (f_add rfl rfl (by omega)) ?_)
          refine wl_f (f_move rfl) (wl_end [(3, _), (11, _), (14, _), (72, _), (73, _), (74, _)] ⟨rfl, rfl, rfl, rfl, rfl, rfl, trivial⟩ ?_)
          exact ⟨kk2 - 1, by omega, j + 1, rfl, rfl, by omega⟩
      · skip
        refine w_exit0 ?_
        refine w_seq (w_reg (wl_e (e_call0 rfl Tryz.func13 (by kernel_rfl) (fun w hh => awake15_spec w)) ?_))
        rintro _ _ w20 ⟨_, rfl, rfl⟩
        refine wl_f (f_assign rfl) (wl_end [(8, _)] ⟨rfl, trivial⟩ ?_)
        refine w_ret ?_
        refine ⟨_, _, fun a ha hh => results_tmps Tryz.results3 rfl a ha _, List.Sublist.refl _, ?_⟩
        rfl
end Go.Proofs.YtmagdjlcckgkpaaGreat
