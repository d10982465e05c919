/- The law FrequentHeavy: the call returns true. -/
import Derived.Test.YtkoklfagmbaapaaQ12
namespace Go.Proofs.Ytkoklfagmbaapaa
open Go.RowKit

theorem fheavy_step {m i w : Nat} {M M' : UM} {ded ded' total total' : Nat} {e : Int} {f : ByteArray → Nat} {k : ByteArray}
    (h : (e ≠ 0 ∧ M' = M ∧ ded' = ded ∧ total' = total) ∨ (e = 0 ∧ total' = total + w ∧ FH m M' ded' total' (fadd f k w))) (hI : FH m M ded total f) (hk : hvy ≠ k) (ht : total ≤ i * 256) (hw : w ≤ 256) :
    ∃ f', FH m M' ded' total' f' ∧ f' hvy = f hvy ∧ total' ≤ (i + 1) * 256 := by
  rcases h with ⟨_, rfl, rfl, rfl⟩ | ⟨_, h1, h2⟩
  · exact ⟨f, hI, rfl, Nat.le_trans ht (Nat.mul_le_mul_right _ (Nat.le_succ i))⟩
  · exact ⟨_, h2, fadd_ne hk, by rw [h1, Nat.succ_mul]; exact Nat.add_le_add ht hw⟩
set_option maxHeartbeats 4000000 in
theorem frequentHeavy_spec (z : Nat) (A1 : Option Addr) (c1 : Nat) (L1 : List Int) (A2 : Option Addr) (c2 : Nat) (L2 : List Int) (w : World) (hz : z < 256)
    (h1 : Rd w Nil 1 (.slice A1 L1.length c1) L1.length (iv L1)) (hL1 : L1.length ≤ 140737488355328) (h2 : Rd w Nil 1 (.slice A2 L2.length c2) L2.length (L2.map (Value.int .u8))) (hL2 : L2.length ≤ 140737488355328) (hb2 : ∀ x ∈ L2, 0 ≤ x ∧ x ≤ 255) :
    Spec Try.prog 4 [.int .u8 z, .slice A1 L1.length c1, .slice A2 L2.length c2] w Nil fun r _ => r = .bool true := by
  obtain ⟨A', c', e, hxl, hxc, hxA⟩ := id h2
  injection e with e1 _ e3
  subst e1; subst e3
  refine enter (n := 102) Try.func4 rfl rfl [(0, _), (1, _), (2, _)] rfl ⟨rfl, rfl, rfl, trivial⟩ (Holds.start _ _) ?_
  refine w_seq ?_
  refine w_reg ?_
  refine wl_f (f_assign rfl) ?_
  refine wl_end [(0, _), (1, _), (2, _)] ⟨rfl, rfl, rfl, trivial⟩ ?_
  refine w_seq ?_
  refine w_reg ?_
  refine wl_f (f_move rfl) ?_
  refine wl_f (f_convi rfl Try.underlying5 Try.underlying3 (by omega)) ?_
  refine wl_f (f_rem rfl rfl (by omega)) ?_
  refine wl_f (f_eqv (v' := .int .i64 ((1 + z % 8 : Nat) : Int)) (f_add rfl rfl (by omega)) (by congr 1)) ?_
  obtain ⟨m, hm, hm1, hm8⟩ : ∃ m, 1 + z % 8 = m ∧ 1 ≤ m ∧ m ≤ 8 := ⟨_, rfl, by omega, by omega⟩
  rw [hm]
  refine wl_f (f_assign rfl) ?_
  refine wl_end [(1, _), (2, _), (7, _)] ⟨rfl, rfl, rfl, trivial⟩ ?_
  refine w_seq ?_
  refine w_reg ?_
  refine wl_f (f_move rfl) ?_
  refine wl_e (e_call0 rfl Try.func8 (by kernel_rfl) (fun w hh => frnew_ok m w hm1 (by omega))) ?_
  rintro _ _ w1 ⟨_, rfl, t, r0, rfl, rfl, hr0⟩
  refine wl_f (f_move rfl) ?_
  refine wl_f (f_extract rfl rfl) ?_
  refine wl_f (f_extract rfl rfl) ?_
  refine wl_f (f_assign rfl) ?_
  refine wl_f (f_assign rfl) ?_
  refine wl_end [(1, _), (2, _), (7, _), (8, _), (9, _)] ⟨rfl, rfl, rfl, rfl, rfl, trivial⟩ ?_
  refine w_seq ?_
  refine w_seq ?_
  refine w_reg ?_
  refine wl_f (f_move rfl) ?_
  refine wl_f (f_neq rfl rfl) ?_
  refine wl_f (f_move rfl) ?_
  refine wl_or (j := 2) (c := false) 2 [(1, _), (2, _), (7, _), (8, _)] ⟨rfl, rfl, rfl, rfl, trivial⟩ rfl rfl rfl rfl rfl (fun hg3_5 => ?_) (fun w3_5 => ?_)
  · skip
    refine wl_gf rfl rfl (f_move rfl) ?_
    refine wl_gf rfl rfl (f_eqlnil rfl rfl Try.underlying24) ?_
    exact wl_pend rfl rfl ⟨rfl, rfl, rfl, rfl, trivial⟩ (List.Sublist.refl _)
  refine wl_end [(1, _), (2, _), (7, _), (8, _), (29, _)] ⟨rfl, rfl, rfl, rfl, rfl, trivial⟩ ?_
  refine w_iff rfl ?_
  refine w_skip ?_
  refine w_seq ?_
  refine w_reg ?_
  refine wl_f (f_move rfl) ?_
  refine wl_e (e_call0 rfl Try.func9 (by kernel_rfl) (fun w hh => new_spec A1 L1.length c1 w)) ?_
  rintro _ _ w2 ⟨_, rfl, bd, rfl, rfl⟩
  refine wl_f (f_assign rfl) ?_
  refine wl_pick [1, 0] rfl ?_
  refine wl_end [(2, _), (7, _), (8, _), (10, _)] ⟨rfl, rfl, rfl, rfl, trivial⟩ ?_
  refine w_seq ?_
  refine w_reg ?_
  refine wl_f (f_assign rfl) ?_
  refine wl_end [(2, _), (7, _), (8, _), (10, _), (11, _)] ⟨rfl, rfl, rfl, rfl, rfl, trivial⟩ ?_
  refine w_seq ?_
  refine w_seq ?_
  refine w_reg ?_
  refine wl_f (f_assign rfl) ?_
  refine wl_end [(2, _), (7, _), (8, _), (10, _), (11, _), (12, _)] ⟨rfl, rfl, rfl, rfl, rfl, rfl, trivial⟩ ?_
  refine w_block ?_
  refine w_loop (fun kk m' H w' => ∃ (i : Nat) (M : UM) (base total : Nat) (r : Res) (p : Nat) (f : ByteArray → Nat), m' = [(2, .slice A2 L2.length c2), (7, .int .i64 m), (8, .pointer (some ⟨t, 0, .none⟩)), (10, .pointer (some ⟨bd, 0, .none⟩)), (11, .int .u64 (f hvy : Nat)), (12, .int .i64 i)] ∧
    H = [r, deck bd (.slice A1 L1.length c1) p] ∧ FrR t m M base total r ∧ FH m M base total f ∧ total ≤ i * 256 ∧ f hvy ≤ i * 256 ∧ kk + i = 80 ∧ i ≤ L2.length ∧ p ≤ L1.length) 80
    ⟨0, _, 0, 0, r0, 0, fun _ => 0, rfl, rfl, hr0, FH.new m, Nat.zero_le _, Nat.zero_le _, rfl, Nat.zero_le _, Nat.zero_le _⟩ ?_
  rintro kk _ _ w3 ⟨i, M, base, total, r, p, f, rfl, rfl, hr, hI, htot, hfh, hkk, hiL, hp⟩
  have ht := hI.inv.ok
  refine w_seq ?_
  refine w_seq ?_
  refine w_reg ?_
  refine wl_f (f_move rfl) ?_
  refine wl_f (f_move rfl) ?_
  refine wl_f (f_len rfl Try.underlying44) ?_
  refine wl_f (f_lss rfl rfl) ?_
  refine wl_f (f_move rfl) ?_
  refine wl_and (j := 4) (c := decide ((i : Int) < 80)) 2 [(2, _), (7, _), (8, _), (10, _), (11, _), (12, _)] ⟨rfl, rfl, rfl, rfl, rfl, rfl, trivial⟩ rfl rfl rfl rfl rfl (fun hg8_7 => ?_) (fun w8_7 => ?_)
  · skip
    refine wl_gf rfl rfl (f_move rfl) ?_
    refine wl_gf rfl rfl (f_lss rfl rfl) ?_
    exact wl_pend rfl rfl ⟨rfl, rfl, rfl, rfl, rfl, rfl, trivial⟩ (List.Sublist.refl _)
  refine wl_end [(2, _), (7, _), (8, _), (10, _), (11, _), (12, _), (39, _)] ⟨rfl, rfl, rfl, rfl, rfl, rfl, rfl, trivial⟩ ?_
  refine w_ifb rfl (fun hc2 => ?_) (fun hc2 => ?_)
  · skip
    simp only [Bool.and_eq_true, decide_eq_true_eq] at hc2
    have hi : i < L2.length := by omega
    obtain ⟨s0, hsi⟩ : ∃ s, L2[i]? = some s := ⟨_, List.getElem?_eq_getElem hi⟩
    have hs0 := hb2 s0 (List.mem_of_getElem? hsi)
    obtain ⟨sn, rfl⟩ : ∃ sn : Nat, s0 = sn := ⟨s0.toNat, by omega⟩
    have hsn : 1 + sn ≤ 256 := by omega
    obtain ⟨b2, off, rfl, _, _, hcell⟩ := hxA.resolve_left (by omega)
    refine w_skip ?_
    refine w_seq ?_
    refine w_post (fun m' H w' => ∃ (M : UM) (base total : Nat) (r : Res) (p : Nat) (f : ByteArray → Nat), m' = [(2, .slice (some ⟨b2, off, .none⟩) L2.length c2), (7, .int .i64 m), (8, .pointer (some ⟨t, 0, .none⟩)), (10, .pointer (some ⟨bd, 0, .none⟩)), (11, .int .u64 (f hvy : Nat)), (12, .int .i64 i)] ∧
      H = [r, deck bd (.slice A1 L1.length c1) p] ∧ FrR t m M base total r ∧ FH m M base total f ∧ total ≤ (i + 1) * 256 ∧ f hvy ≤ (i + 1) * 256 ∧ p ≤ L1.length) ?_ ?_
    · skip
      refine w_block ?_
      refine w_seq ?_
      refine w_reg ?_
      refine wl_f (f_move rfl) ?_
      refine wl_f (f_move rfl) ?_
      refine wl_f (f_indexAddr 1 (i := i) rfl rfl Try.underlying44 (by kernel_rfl) rfl hi) ?_
      refine wl_f (f_loado (v := .int .u8 sn) rfl Try.underlying5 rfl (hcell _ _ (by simp [hsi])) id) ?_
      refine wl_f (f_and rfl rfl rfl) ?_
      refine wl_f (f_eql rfl rfl) ?_
      refine wl_end [(2, _), (7, _), (8, _), (10, _), (11, _), (12, _), (47, _)] ⟨rfl, rfl, rfl, rfl, rfl, rfl, rfl, trivial⟩ ?_
      refine w_ifd rfl (fun hc3 => ?_) (fun hc3 => ?_)
      · skip
        refine w_seq ?_
        refine w_reg ?_
        refine wl_f (f_move rfl) ?_
        refine wl_f (f_move rfl) ?_
        refine wl_f (f_move rfl) ?_
        refine wl_f (f_indexAddr 1 (i := i) rfl rfl Try.underlying44 (by kernel_rfl) rfl hi) ?_
        refine wl_f (f_loado (v := .int .u8 sn) rfl Try.underlying5 rfl (hcell _ _ (by simp [hsi])) id) ?_
        refine wl_f (f_convu rfl Try.underlying5 Try.underlying33 (by omega)) ?_
        refine wl_f (f_eqv (v' := .int .u64 ((1 + sn : Nat) : Int)) (f_addu rfl rfl (by omega)) (by congr 1)) ?_
        refine wl_f (f_eqv (v' := .int .u64 ((fadd f hvy (1 + sn) hvy : Nat) : Int)) (f_addu rfl rfl (by omega)) (by rw [fadd_self]; exact congrArg (Value.int .u64) (Int.natCast_add _ _).symm)) ?_
        refine wl_f (f_assign rfl) ?_
        refine wl_end [(2, _), (7, _), (8, _), (10, _), (11, _), (12, _)] ⟨rfl, rfl, rfl, rfl, rfl, rfl, trivial⟩ ?_
        refine w_reg ?_
        refine wl_f (f_move rfl) ?_
        refine wl_f (f_move rfl) ?_
        refine wl_f (f_move rfl) ?_
        refine wl_f (f_indexAddr 1 (i := i) rfl rfl Try.underlying44 (by kernel_rfl) rfl hi) ?_
        refine wl_f (f_loado (v := .int .u8 sn) rfl Try.underlying5 rfl (hcell _ _ (by simp [hsi])) id) ?_
        refine wl_f (f_convu rfl Try.underlying5 Try.underlying33 (by omega)) ?_
        refine wl_f (f_eqv (v' := .int .u64 ((1 + sn : Nat) : Int)) (f_addu rfl rfl (by omega)) (by congr 1)) ?_
        refine wl_e (e_call1 r [_] rfl Try.func11 (by kernel_rfl) (List.Perm.refl _) (fun w hh hs => fradd_spec t m M base total hvy (1 + sn) r w (by omega) (small_of (by decide)) (by omega) ht hr hs)) ?_
        rintro _ _ w4 ⟨_, rfl, e1, M1, base1, total1, r1, rfl, rfl, hr1, hA⟩
        have he := hA.ok (by decide) (by omega) (by omega)
        obtain ⟨_, htt, hI1⟩ : e1 = 0 ∧ total1 = total + (1 + sn) ∧ FH m M1 base1 total1 (fadd f hvy (1 + sn)) := by
          rcases hI.add hA with ⟨h, _⟩ | ⟨h1, h2, h3⟩
          · exact absurd he h
          · exact ⟨h1, h2, h3⟩
        refine wl_end [(2, _), (7, _), (8, _), (10, _), (11, _), (12, _)] ⟨rfl, rfl, rfl, rfl, rfl, rfl, trivial⟩ ?_
        exact ⟨M1, base1, total1, r1, p, fadd f hvy (1 + sn), rfl, rfl, hr1, hI1, by omega, by rw [fadd_self]; omega, hp⟩
      · skip
        clear hc3
        refine w_draw [(0, true), (1, true), (3, true), (4, true), (5, true), (6, true), (7, true), (8, true), (2, false), (9, false)] ([]) ([_, _]) mixed (by kernel_rfl) (by kernel_rfl) rfl (List.Perm.refl _) (fun w13_ => ?_)
        refine wd_f rfl (f_move rfl) ?_
        refine wd_f rfl (f_move rfl) ?_
        refine wd_f rfl (f_move rfl) ?_
        refine wd_f rfl (f_move rfl) ?_
        refine wd_f rfl (f_indexAddr 1 (i := i) rfl rfl Try.underlying44 (by kernel_rfl) rfl hi) ?_
        refine wd_f rfl (f_loado (v := .int .u8 sn) rfl Try.underlying5 rfl (hcell _ _ (by simp [hsi])) id) ?_
        refine wd_f rfl (f_convu rfl Try.underlying5 Try.underlying33 (by omega)) ?_
        refine wd_f rfl (f_eqv (v' := .int .u64 ((1 + sn : Nat) : Int)) (f_addu rfl rfl (by omega)) (by congr 1)) ?_
        refine wd_e rfl (e_call1 (deck bd (.slice A1 L1.length c1) p) [_] rfl Try.func10 (by kernel_rfl) (pk1 1 rfl) (fun w hh hs' => short3_spec bd _ L1 p w ⟨h1.old1 hh (pk1 1 rfl), hL1, hp⟩ hs')) ?_
        rintro _ _ w4 ⟨_, rfl, k, p2, rfl, hk9, rfl, hp2⟩
        refine ⟨_, List.Perm.refl _, ?_⟩
        refine wd_e rfl (e_call1 r [_] rfl Try.func11 (by kernel_rfl) (pk1 1 rfl) (fun w hh hs => fradd_spec t m M base total k (1 + sn) r w (by omega) (small_of (by omega)) (by omega) ht hr hs)) ?_
        rintro _ _ w5 ⟨_, rfl, e1, M1, base1, total1, r1, rfl, rfl, hr1, hA⟩
        refine ⟨_, List.Perm.refl _, ?_⟩
        refine wd_end [(2, _), (7, _), (8, _), (10, _), (11, _), (12, _)] ⟨rfl, rfl, rfl, rfl, rfl, rfl, trivial⟩ ?_
        obtain ⟨f', h5, h6, h7⟩ := fheavy_step (hI.add hA) hI (ne_of_size (fun e => absurd hk9.2 (by rw [← e]; decide))) htot (show 1 + sn ≤ 256 from hsn)
        exact ⟨M1, base1, total1, r1, p2, f', by rw [h6], rfl, hr1, h5, h7, by rw [h6]; exact Nat.le_trans hfh (Nat.mul_le_mul_right _ (Nat.le_succ i)), hp2⟩
    · rintro _ _ w6 ⟨M1, base1, total1, r1, p1, f1, rfl, rfl, hr1, hI1, htot1, hfh1, hp1⟩
      refine w_reg ?_
      refine wl_f (f_move rfl) ?_
      refine wl_f (f_add rfl rfl (by omega)) ?_
      refine wl_f (f_assign rfl) ?_
      refine wl_end [(2, _), (7, _), (8, _), (10, _), (11, _), (12, _)] ⟨rfl, rfl, rfl, rfl, rfl, rfl, trivial⟩ ?_
      exact ⟨kk - 1, by omega, i + 1, M1, base1, total1, r1, p1, f1, rfl, rfl, hr1, hI1, htot1, hfh1, by omega, by omega, hp1⟩
  · skip
    have hEq := hI.eq
    have ht := hI.inv.ok
    obtain ⟨ht1, ht2, ht3⟩ := id ht
    refine w_exit0 ?_
    refine w_seq ?_
    refine w_reg ?_
    refine wl_f (f_move rfl) ?_
    refine wl_e (e_call1 r [_] rfl Try.func12 (by kernel_rfl) (List.Perm.refl _) (fun w hh hs => frget_spec t m M base total hvy r w (small_of (by decide)) hr hs)) ?_
    rintro _ _ w7 ⟨_, rfl, rfl, rfl⟩
    obtain ⟨k', o, s, is, hfg, hy, hn⟩ := fget_form2 M base hvy
    rw [hfg]
    have hos : o + s < 18446744073709551616 := by
      cases is with
      | true => obtain ⟨h1, rfl, _⟩ := hy rfl; have := ht3 _ _ h1; omega
      | false => obtain ⟨_, rfl, rfl, _⟩ := hn rfl; omega
    refine wl_f (f_move rfl) ?_
    refine wl_f (f_extract rfl rfl) ?_
    refine wl_f (f_extract rfl rfl) ?_
    refine wl_e (e_allocs [.string ByteArray.empty, .int .u64 0, .int .u64 0] (by kernel_rfl)) ?_
    rintro _ _ w14_5 ⟨b14_5, rfl, rfl⟩
    refine wl_e0 (e_store0 (us := [_, _, _]) rfl rfl rfl (by kernel_rfl) (by simp [Value.oneCell']) rfl rfl) ?_
    rintro _ _ w14_6 rfl
    refine wl_f (f_assign rfl) ?_
    refine wl_end [(7, _), (8, _), (11, _), (13, _), (14, _)] ⟨rfl, rfl, rfl, rfl, rfl, trivial⟩ ?_
    refine w_seq ?_
    refine w_reg ?_
    refine wl_f (f_move rfl) ?_
    refine wl_f (f_move rfl) ?_
    refine wl_e (e_call1 r [_, _] rfl Try.func15 (by kernel_rfl) (pk1 1 rfl) (fun w hh hs => frtotal_spec t m M base total r w hr hs)) ?_
    rintro _ _ w8 ⟨_, rfl, rfl, rfl⟩
    refine wl_f (f_move rfl) ?_
    refine wl_f (f_eqv (v' := .int .i64 ((m + 1 : Nat) : Int)) (f_add rfl rfl (by omega)) (by congr 1)) ?_
    refine wl_f (f_convu rfl Try.underlying3 Try.underlying33 (by omega)) ?_
    refine wl_f (f_quou rfl rfl (by omega)) ?_
    refine wl_f (f_leq rfl rfl) ?_
    refine wl_f (f_move rfl) ?_
    refine wl_or (j := 8) (c := (is && decide ((f hvy : Int) ≤ ((o + s : Nat) : Int)))) 10 [] trivial rfl rfl rfl rfl rfl (fun hg15_19 => ?_) (fun w15_19 => ?_)
    · skip
      refine wl_gf rfl rfl (f_move rfl) ?_
      refine wl_gf rfl rfl (f_move rfl) ?_
      refine wl_andg (j := 10) (c := decide ((f hvy : Int) ≤ ((o + s : Nat) : Int))) 7 [(87, _)] ⟨rfl, trivial⟩ rfl rfl rfl rfl rfl rfl rfl (fun hg15_18 => ?_) (fun w15_18 => ?_)
      · skip
        refine wl_gf rfl rfl (f_fieldAddr 1 rfl Try.underlying36 rfl rfl (by kernel_rfl)) ?_
        (first | refine wl_gf rfl rfl (f_loadb 0 rfl Try.underlying33 rfl rfl rfl) ?_ | refine wl_gf rfl rfl (f_loadb 1 rfl Try.underlying33 rfl rfl rfl) ?_ | refine wl_gf rfl rfl (f_loadb 2 rfl Try.underlying33 rfl rfl rfl) ?_ | refine wl_gf rfl rfl (f_loadb 3 rfl Try.underlying33 rfl rfl rfl) ?_ | refine wl_gf rfl rfl (f_loadb 4 rfl Try.underlying33 rfl rfl rfl) ?_ | refine wl_gf rfl rfl (f_loadb 5 rfl Try.underlying33 rfl rfl rfl) ?_ | refine wl_gf rfl rfl (f_loadb 6 rfl Try.underlying33 rfl rfl rfl) ?_)
        refine wl_gf rfl rfl (f_fieldAddr 2 rfl Try.underlying36 rfl rfl (by kernel_rfl)) ?_
        (first | refine wl_gf rfl rfl (f_loadb 0 rfl Try.underlying33 rfl rfl rfl) ?_ | refine wl_gf rfl rfl (f_loadb 1 rfl Try.underlying33 rfl rfl rfl) ?_ | refine wl_gf rfl rfl (f_loadb 2 rfl Try.underlying33 rfl rfl rfl) ?_ | refine wl_gf rfl rfl (f_loadb 3 rfl Try.underlying33 rfl rfl rfl) ?_ | refine wl_gf rfl rfl (f_loadb 4 rfl Try.underlying33 rfl rfl rfl) ?_ | refine wl_gf rfl rfl (f_loadb 5 rfl Try.underlying33 rfl rfl rfl) ?_ | refine wl_gf rfl rfl (f_loadb 6 rfl Try.underlying33 rfl rfl rfl) ?_)
        refine wl_gf rfl rfl (f_eqv (v' := .int .u64 ((o + s : Nat) : Int)) (f_addu rfl rfl (by omega)) (by rw [Int.natCast_add])) ?_
        refine wl_gf rfl rfl (f_move rfl) ?_
        refine wl_gf rfl rfl (f_geq rfl rfl) ?_
        exact wl_pend rfl rfl ⟨rfl, trivial⟩ (List.Sublist.refl _)
      exact wl_pend rfl rfl trivial (List.Sublist.refl _)
    refine wl_f (f_move rfl) ?_
    refine wl_and (j := 20) (c := true) 1 [] trivial rfl rfl rfl rfl rfl (fun hg15_22 => ?_) (fun w15_22 => ?_)
    · skip
      refine wl_ge rfl rfl (e_call0 rfl Try.func16 (by kernel_rfl) (fun w hh => awake14_spec w)) ?_
      rintro _ _ w9 ⟨_, rfl, rfl⟩
      exact wl_pend rfl rfl trivial (List.sublist_append_right _ _)
    refine wl_f (f_assign rfl) ?_
    refine wl_end [(6, _)] ⟨rfl, trivial⟩ ?_
    refine w_ret ?_
    refine ⟨_, _, fun a ha hh => results_tmps Try.results4 rfl a ha _, List.Sublist.refl _, ?_⟩
    show Value.bool _ = _
    congr 1
    rw [Bool.and_true, Bool.or_eq_true, Bool.and_eq_true, decide_eq_true_eq, decide_eq_true_eq]
    cases is with
    | true =>
      obtain ⟨h1, rfl, _⟩ := hy rfl
      have := (hI.yes hvy o h1).2
      exact .inr ⟨rfl, by omega⟩
    | false =>
      have h3 := hI.no hvy (hn rfl).1
      refine .inl ?_
      have h4 : f hvy * (m + 1) ≤ total := Nat.le_trans (Nat.mul_le_mul_right _ h3) (by rw [Nat.mul_comm]; omega)
      have h5 : f hvy ≤ total / (m + 1) := (Nat.le_div_iff_mul_le (by omega)).2 h4
      rw [← Int.natCast_ediv]
      exact_mod_cast h5
end Go.Proofs.Ytkoklfagmbaapaa
