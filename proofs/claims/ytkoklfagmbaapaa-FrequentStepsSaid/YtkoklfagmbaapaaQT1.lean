/- The law FrequentSteps: the call returns true. -/
import Derived.Test.YtkoklfagmbaapaaQ13
import Derived.Test.YtkoklfagmbaapaaK11
namespace Go.Proofs.Ytkoklfagmbaapaa
open Go.RowKit

theorem andi_nat (x : Int) (m : Nat) (hm : m < 9223372036854775808) : ∃ n : Nat, bits .and .i64 x (m : Int) = n ∧ n ≤ m := by
  have h := and_bound13 x m hm
  exact ⟨(bits .and .i64 x m).toNat, by omega, by omega⟩
theorem andu_nat (x m : Int) : ∃ n : Nat, bits .and .u64 x m = n ∧ n < 18446744073709551616 := by
  have h : bits .and .u64 x m = IntKind.u64.wrap ((BitVec.ofInt 64 x &&& BitVec.ofInt 64 m).toNat : Int) := rfl
  have h3 : (BitVec.ofInt 64 x &&& BitVec.ofInt 64 m).toNat < 2 ^ 64 := (BitVec.ofInt 64 x &&& BitVec.ofInt 64 m).isLt
  rw [IntWalk.u64_in _ (by omega)] at h
  exact ⟨_, h, h3⟩
def sh (s : Int) (n : Nat) : Int := s.fdiv (2 ^ min ((n : Int).toNat) (IntKind.bits .i64))
def wgt (s : Int) (raw : Nat) : Nat := if bits .and .i64 (sh s 10) 15 = 0 then raw else 1 + (bits .and .i64 (sh s 10) 7).toNat
theorem wgt_lt (s : Int) {raw : Nat} (h : raw < 18446744073709551616) : wgt s raw < 18446744073709551616 := by
  unfold wgt
  obtain ⟨n, hn, hn2⟩ := andi_nat (sh s 10) 7 (by decide)
  have e : bits .and .i64 (sh s 10) 7 = (n : Int) := hn
  rw [e]
  split <;> omega
theorem weight_spec (s : Int) (raw : Nat) (w : World) : Spec Try.prog 21 [.int .i64 s, .int .u64 (raw : Int)] w Nil fun r H => r = .int .u64 (wgt s raw : Nat) ∧ H = [] := by
  refine enter (n := 15) Try.func21 rfl rfl [(0, _), (1, _)] rfl ⟨rfl, rfl, trivial⟩ (Holds.start _ _) ?_
  refine w_seq ?_
  refine w_reg ?_
  refine wl_f (f_assign rfl) ?_
  refine wl_end [(0, _), (1, _)] ⟨rfl, rfl, trivial⟩ ?_
  refine w_seq ?_
  refine w_seq ?_
  refine w_reg ?_
  refine wl_f (f_move rfl) ?_
  refine wl_f (f_shr rfl rfl (by omega) rfl) ?_
  refine wl_f (f_and rfl rfl rfl) ?_
  refine wl_f (f_eql rfl rfl) ?_
  refine wl_end [(0, _), (1, _), (8, _)] ⟨rfl, rfl, rfl, trivial⟩ ?_
  refine w_ifd rfl (fun hc1 => ?_) (fun hc1 => ?_)
  · skip
    refine w_seq ?_
    refine w_reg ?_
    refine wl_f (f_move rfl) ?_
    refine wl_f (f_assign rfl) ?_
    refine wl_end [(4, _)] ⟨rfl, trivial⟩ ?_
    refine w_ret ?_
    refine ⟨_, _, fun a ha hh => results_tmps Try.results21 rfl a ha _, List.Sublist.refl _, ?_⟩
    have e : wgt s raw = raw := if_pos hc1
    rw [e]; exact ⟨rfl, rfl⟩
  · skip
    obtain ⟨n, hn, hn2⟩ := andi_nat (sh s 10) 7 (by decide)
    have e : wgt s raw = 1 + n := by
      refine (if_neg hc1).trans ?_
      have e : bits .and .i64 (sh s 10) 7 = (n : Int) := hn
      rw [e]; rfl
    rw [e]
    refine w_skip ?_
    refine w_seq ?_
    refine w_reg ?_
    refine wl_f (f_move rfl) ?_
    refine wl_f (f_shr rfl rfl (by omega) rfl) ?_
    refine wl_f (f_and rfl rfl hn) ?_
    refine wl_f (f_eqv (v' := .int .i64 ((1 + n : Nat) : Int)) (f_add rfl rfl (by omega)) (by congr 1)) ?_
    refine wl_f (f_convu rfl Try.underlying3 Try.underlying33 (by omega)) ?_
    refine wl_f (f_assign rfl) ?_
    refine wl_end [(4, _)] ⟨rfl, trivial⟩ ?_
    refine w_ret ?_
    refine ⟨_, _, fun a ha hh => results_tmps Try.results21 rfl a ha _, List.Sublist.refl _, ?_⟩
    exact ⟨rfl, rfl⟩
theorem FL.rdy {m : Nat} {M : UM} {ded total t : Nat} {r : Res} {l : List En} (h : FL M l) (hr : FrR t m M ded total r) (hI : FInv m M ded total) : l.length ≤ m ∧ m ≤ 64 ∧ ded ≤ total ∧ total ≤ 9223372036854775808 ∧ ∀ x ∈ l, x.2.1 ≤ total := by
  obtain ⟨_, hm, _, _, _, _, hX⟩ := hr
  refine ⟨by rw [h.len]; exact hX.len, hm, hI.ded_le, hI.top, fun x hx => hI.ok.2.2 x.1 x.2.1 (h.sm.2 ⟨x.2.2, hx⟩)⟩
set_option maxHeartbeats 16000000 in
theorem frequentSteps_spec (z : Nat) (A1 : Option Addr) (c1 : Nat) (L1 : List Int) (A2 : Option Addr) (c2 : Nat) (L2 : List Int) (raw : Nat) (xk : ByteArray) (xo xs : Nat) (w : World) (hz : z < 256) (hraw : raw < 18446744073709551616) (hxk : small xk)
    (h1 : Rd w Nil 1 (.slice A1 L1.length c1) L1.length (iv L1)) (hL1 : L1.length ≤ 140737488355328) (h2 : Rd w Nil 1 (.slice A2 L2.length c2) L2.length (iv L2)) (hL2 : L2.length ≤ 140737488355328) :
    Spec Try.prog 6 [.int .u8 z, .slice A1 L1.length c1, .slice A2 L2.length c2, .int .u64 (raw : Int), .agg #[.string xk, .int .u64 (xo : Int), .int .u64 (xs : Int)]] w Nil fun r _ => r = .bool true := by
  obtain ⟨A', c', e, hxl, hxc, hxA⟩ := id h2
  injection e with e1 _ e3
  subst e1; subst e3
  refine enter (n := 215) Try.func6 rfl rfl [(0, _), (1, _), (2, _), (3, _), (4, _)] rfl ⟨rfl, rfl, rfl, rfl, rfl, trivial⟩ (Holds.start _ _) ?_
  refine w_seq ?_
  refine w_reg ?_
  refine wl_e (e_box (cs := [_, _, _]) rfl rfl) ?_
  rintro _ _ w0_0 ⟨b0_0, rfl, rfl⟩
  refine wl_f (f_assign rfl) ?_
  refine wl_end [(0, _), (1, _), (2, _), (3, _), (9, _)] ⟨rfl, rfl, rfl, rfl, rfl, trivial⟩ ?_
  refine w_seq ?_
  refine w_reg ?_
  refine wl_f (f_move rfl) ?_
  refine wl_f (f_convi rfl Try.underlying5 Try.underlying3 (by omega)) ?_
  refine wl_f (f_rem rfl rfl (by omega)) ?_
  refine wl_f (f_eqv (v' := .int .i64 ((1 + z % 5 : Nat) : Int)) (f_add rfl rfl (by omega)) (by congr 1)) ?_
  obtain ⟨m, hm, hm1, hm6⟩ : ∃ m, 1 + z % 5 = m ∧ 1 ≤ m ∧ m ≤ 5 := ⟨_, rfl, by omega, by omega⟩
  rw [hm]
  refine wl_f (f_assign rfl) ?_
  refine wl_end [(1, _), (2, _), (3, _), (9, _), (11, _)] ⟨rfl, rfl, rfl, rfl, rfl, trivial⟩ ?_
  refine w_seq ?_
  refine w_reg ?_
  refine wl_f (f_move rfl) ?_
  refine wl_e (e_call0 rfl Try.func8 (by kernel_rfl) (fun w hh => frnew_ok m w hm1 (by omega))) ?_
  rintro _ _ w1 ⟨_, rfl, t, r0, rfl, rfl, hr0⟩
  refine wl_f (f_move rfl) ?_
  refine wl_f (f_extract rfl rfl) ?_
  refine wl_f (f_extract rfl rfl) ?_
  refine wl_f (f_assign rfl) ?_
  refine wl_f (f_assign rfl) ?_
  refine wl_end [(1, _), (2, _), (3, _), (9, _), (11, _), (12, _), (13, _)] ⟨rfl, rfl, rfl, rfl, rfl, rfl, rfl, trivial⟩ ?_
  refine w_seq ?_
  refine w_reg ?_
  refine wl_f (f_move rfl) ?_
  refine wl_e (e_call0 rfl Try.func17 (by kernel_rfl) (fun w hh => rtnew_ok 2 m w (.inr rfl) hm1 (by omega))) ?_
  rintro _ _ w2 ⟨_, rfl, q, rq0, rfl, rfl, hq0⟩
  refine wl_f (f_move rfl) ?_
  refine wl_f (f_extract rfl rfl) ?_
  refine wl_f (f_extract rfl rfl) ?_
  refine wl_f (f_assign rfl) ?_
  refine wl_f (f_assign rfl) ?_
  refine wl_end [(1, _), (2, _), (3, _), (9, _), (12, _), (13, _), (14, _), (15, _)] ⟨rfl, rfl, rfl, rfl, rfl, rfl, rfl, rfl, trivial⟩ ?_
  refine w_seq ?_
  refine w_seq ?_
  refine w_reg ?_
  refine wl_f (f_move rfl) ?_
  refine wl_f (f_neq rfl rfl) ?_
  refine wl_f (f_move rfl) ?_
  refine wl_or (j := 2) (c := false) 2 [(1, _), (2, _), (3, _), (9, _), (12, _), (14, _)] ⟨rfl, rfl, rfl, rfl, rfl, rfl, trivial⟩ rfl rfl rfl rfl rfl (fun hg4_5 => ?_) (fun w4_5 => ?_)
  · skip
    refine wl_gf rfl rfl (f_move rfl) ?_
    refine wl_gf rfl rfl (f_neq rfl rfl) ?_
    exact wl_pend rfl rfl ⟨rfl, rfl, rfl, rfl, rfl, rfl, trivial⟩ (List.Sublist.refl _)
  refine wl_f (f_move rfl) ?_
  refine wl_or (j := 6) (c := false) 2 [(1, _), (2, _), (3, _), (9, _), (12, _), (14, _)] ⟨rfl, rfl, rfl, rfl, rfl, rfl, trivial⟩ rfl rfl rfl rfl rfl (fun hg4_9 => ?_) (fun w4_9 => ?_)
  · skip
    refine wl_gf rfl rfl (f_move rfl) ?_
    refine wl_gf rfl rfl (f_eqlnil rfl rfl Try.underlying24) ?_
    exact wl_pend rfl rfl ⟨rfl, rfl, rfl, rfl, rfl, rfl, trivial⟩ (List.Sublist.refl _)
  refine wl_end [(1, _), (2, _), (3, _), (9, _), (12, _), (14, _), (56, _)] ⟨rfl, rfl, rfl, rfl, rfl, rfl, rfl, trivial⟩ ?_
  refine w_iff rfl ?_
  refine w_skip ?_
  refine w_seq ?_
  refine w_reg ?_
  refine wl_f (f_move rfl) ?_
  refine wl_e (e_call0 rfl Try.func9 (by kernel_rfl) (fun w hh => new_spec A1 L1.length c1 w)) ?_
  rintro _ _ w2 ⟨_, rfl, bd, rfl, rfl⟩
  refine wl_f (f_assign rfl) ?_
  refine wl_pick [2, 1, 0, 0] rfl ?_
  refine wl_end [(2, _), (3, _), (9, _), (12, _), (14, _), (16, _)] ⟨rfl, rfl, rfl, rfl, rfl, rfl, trivial⟩ ?_
  refine w_seq ?_
  refine w_seq ?_
  refine w_reg ?_
  refine wl_f (f_assign rfl) ?_
  refine wl_end [(2, _), (3, _), (9, _), (12, _), (14, _), (16, _), (17, _)] ⟨rfl, rfl, rfl, rfl, rfl, rfl, rfl, trivial⟩ ?_
  refine w_block ?_
  refine w_loop (fun kk m' H w' => ∃ (i : Nat) (M : UM) (ded total : Nat) (r : Res) (l : List En) (rq : Res) (p : Nat), m' = [(2, .slice A2 L2.length c2), (3, .int .u64 (raw : Int)), (9, .pointer (some ⟨b0_0, 0, .none⟩)), (12, .pointer (some ⟨t, 0, .none⟩)), (14, .pointer (some ⟨q, 0, .none⟩)), (16, .pointer (some ⟨bd, 0, .none⟩)), (17, .int .i64 i)] ∧
    H = [r, rq, deck bd (.slice A1 L1.length c1) p, blk b0_0 [.string xk, .int .u64 (xo : Int), .int .u64 (xs : Int)] 36] ∧ FrR t m M ded total r ∧ RtR q 2 m l ded total rq ∧ FInv m M ded total ∧ FL M l ∧ kk + i = 60 ∧ i ≤ L2.length ∧ p ≤ L1.length) 60
    ⟨0, _, 0, 0, r0, [], rq0, 0, rfl, rfl, hr0, hq0, FInv.new m, ⟨List.Perm.refl _, List.nodup_nil⟩, rfl, Nat.zero_le _, Nat.zero_le _⟩ ?_
  rintro kk _ _ w3 ⟨i, M, ded, total, r, l, rq, p, rfl, rfl, hr, hq, hI, hF, hkk, hiL, hp⟩
  refine w_seq ?_
  refine w_seq ?_
  refine w_reg ?_
  refine wl_f (f_move rfl) ?_
  refine wl_f (f_move rfl) ?_
  refine wl_f (f_len rfl Try.underlying22) ?_
  refine wl_f (f_lss rfl rfl) ?_
  refine wl_f (f_move rfl) ?_
  refine wl_and (j := 4) (c := decide ((i : Int) < 60)) 2 [(2, _), (3, _), (9, _), (12, _), (14, _), (16, _), (17, _)] ⟨rfl, rfl, rfl, rfl, rfl, rfl, rfl, trivial⟩ rfl rfl rfl rfl rfl (fun hg8_7 => ?_) (fun w8_7 => ?_)
  · skip
    refine wl_gf rfl rfl (f_move rfl) ?_
    refine wl_gf rfl rfl (f_lss rfl rfl) ?_
    exact wl_pend rfl rfl ⟨rfl, rfl, rfl, rfl, rfl, rfl, rfl, trivial⟩ (List.Sublist.refl _)
  refine wl_end [(2, _), (3, _), (9, _), (12, _), (14, _), (16, _), (17, _), (66, _)] ⟨rfl, rfl, rfl, rfl, rfl, rfl, rfl, rfl, trivial⟩ ?_
  refine w_ifb rfl (fun hc2 => ?_) (fun hc2 => ?_)
  · skip
    simp only [Bool.and_eq_true, decide_eq_true_eq] at hc2
    have hi : i < L2.length := by omega
    obtain ⟨s, hsi⟩ : ∃ s, L2[i]? = some s := ⟨_, List.getElem?_eq_getElem hi⟩
    obtain ⟨b2, off, rfl, _, _, hcell⟩ := hxA.resolve_left (by omega)
    refine w_skip ?_
    refine w_seq ?_
    refine w_block ?_
    refine w_seq ?_
    refine w_reg ?_
    refine wl_f (f_move rfl) ?_
    refine wl_f (f_move rfl) ?_
    refine wl_f (f_indexAddr 1 (i := i) rfl rfl Try.underlying22 (by kernel_rfl) rfl hi) ?_
    refine wl_f (f_loado (v := .int .i64 s) rfl Try.underlying3 rfl (hcell _ _ (by simp [iv, hsi])) id) ?_
    refine wl_f (f_assign rfl) ?_
    refine wl_end [(2, _), (3, _), (9, _), (12, _), (14, _), (16, _), (17, _), (18, _)] ⟨rfl, rfl, rfl, rfl, rfl, rfl, rfl, rfl, trivial⟩ ?_
    refine w_seq ?_
    refine w_reg ?_
    refine wl_f (f_move rfl) ?_
    refine wl_e (e_call1 (deck bd (.slice A1 L1.length c1) p) [_, _, _] rfl Try.func10 (by kernel_rfl) (pk1 2 rfl) (fun w hh hs' => short3_spec bd _ L1 p w ⟨h1.old1 hh (pk1 2 rfl), hL1, hp⟩ hs')) ?_
    rintro _ _ w4 ⟨_, rfl, k0, p2, rfl, hk3, rfl, hp2⟩
    refine wl_f (f_assign rfl) ?_
    refine wl_pick [1, 1, 0, 0] rfl ?_
    refine wl_end [(2, _), (3, _), (9, _), (12, _), (14, _), (16, _), (17, _), (18, _), (19, _)] ⟨rfl, rfl, rfl, rfl, rfl, rfl, rfl, rfl, rfl, trivial⟩ ?_
    refine w_seq ?_
    refine w_seq ?_
    refine w_reg ?_
    refine wl_f (f_move rfl) ?_
    refine wl_f (f_shr rfl rfl (by omega) rfl) ?_
    refine wl_f (f_and rfl rfl rfl) ?_
    refine wl_f (f_eql rfl rfl) ?_
    refine wl_end [(2, _), (3, _), (9, _), (12, _), (14, _), (16, _), (17, _), (18, _), (19, _), (78, _)] ⟨rfl, rfl, rfl, rfl, rfl, rfl, rfl, rfl, rfl, rfl, trivial⟩ ?_
    refine w_post (fun m' H w' => ∃ key : ByteArray, m' = [(2, .slice (some ⟨b2, off, .none⟩) L2.length c2), (3, .int .u64 (raw : Int)), (9, .pointer (some ⟨b0_0, 0, .none⟩)), (12, .pointer (some ⟨t, 0, .none⟩)), (14, .pointer (some ⟨q, 0, .none⟩)), (16, .pointer (some ⟨bd, 0, .none⟩)), (17, .int .i64 i), (18, .int .i64 s), (19, .string key)] ∧
      H = [r, rq, deck bd (.slice A1 L1.length c1) p2, blk b0_0 [.string xk, .int .u64 (xo : Int), .int .u64 (xs : Int)] 36] ∧ small key) ?_ ?_
    · skip
      refine w_ifd rfl (fun hc3 => ?_) (fun hc3 => ?_)
      · skip
        refine w_reg ?_
        refine wl_f (f_assign rfl) ?_
        refine wl_end [(2, _), (3, _), (9, _), (12, _), (14, _), (16, _), (17, _), (18, _), (19, _)] ⟨rfl, rfl, rfl, rfl, rfl, rfl, rfl, rfl, rfl, trivial⟩ ?_
        exact ⟨ByteArray.empty, rfl, rfl, small_of (by decide)⟩
      · skip
        refine w_sub [(2, _), (3, _), (9, _), (12, _), (14, _), (16, _), (17, _), (18, _), (19, _)] ⟨rfl, rfl, rfl, rfl, rfl, rfl, rfl, rfl, rfl, trivial⟩ (w_skip ?_)
        exact ⟨k0, rfl, rfl, small_of (by omega)⟩
    · clear hk3
      rintro _ _ w9 ⟨key, rfl, rfl, hks⟩
      refine w_seq ?_
      refine w_seq ?_
      refine w_reg ?_
      refine wl_f (f_move rfl) ?_
      refine wl_f (f_and rfl rfl rfl) ?_
      generalize bits .and .i64 s 15 = s15
      refine wl_end [(2, _), (3, _), (9, _), (12, _), (14, _), (16, _), (17, _), (18, _), (19, _), (80, _)] ⟨rfl, rfl, rfl, rfl, rfl, rfl, rfl, rfl, rfl, rfl, trivial⟩ ?_
      refine w_post (fun m' H w' => ∃ (M : UM) (ded total : Nat) (r : Res) (l : List En) (rq : Res) (p : Nat), m' = [(2, .slice (some ⟨b2, off, .none⟩) L2.length c2), (3, .int .u64 (raw : Int)), (9, .pointer (some ⟨b0_0, 0, .none⟩)), (12, .pointer (some ⟨t, 0, .none⟩)), (14, .pointer (some ⟨q, 0, .none⟩)), (16, .pointer (some ⟨bd, 0, .none⟩)), (17, .int .i64 i), (19, .string key)] ∧
        H = [r, rq, deck bd (.slice A1 L1.length c1) p, blk b0_0 [.string xk, .int .u64 (xo : Int), .int .u64 (xs : Int)] 36] ∧ FrR t m M ded total r ∧ RtR q 2 m l ded total rq ∧ FInv m M ded total ∧ FL M l ∧ p ≤ L1.length) ?_ ?_
      · skip
        refine w_block ?_
        refine w_seq ?_
        refine w_seq ?_
        refine w_reg ?_
        refine wl_f (f_eql rfl rfl) ?_
        refine wl_f (f_assign rfl) ?_
        refine wl_end [(2, _), (3, _), (9, _), (12, _), (14, _), (16, _), (17, _), (18, _), (19, _), (80, _), (94, _)] ⟨rfl, rfl, rfl, rfl, rfl, rfl, rfl, rfl, rfl, rfl, rfl, trivial⟩ ?_
        refine w_post (fun m' H w' => ∃ bb : Bool, m' = [(2, .slice (some ⟨b2, off, .none⟩) L2.length c2), (3, .int .u64 (raw : Int)), (9, .pointer (some ⟨b0_0, 0, .none⟩)), (12, .pointer (some ⟨t, 0, .none⟩)), (14, .pointer (some ⟨q, 0, .none⟩)), (16, .pointer (some ⟨bd, 0, .none⟩)), (17, .int .i64 i), (18, .int .i64 s), (19, .string key), (80, .int .i64 s15), (94, .bool bb)] ∧ H = [r, rq, deck bd (.slice A1 L1.length c1) p2, blk b0_0 [.string xk, .int .u64 (xo : Int), .int .u64 (xs : Int)] 36]) ?_ ?_
        · skip
          refine w_ifd rfl (fun hc4 => ?_) (fun hc4 => ?_)
          · skip
            refine w_sub [(2, _), (3, _), (9, _), (12, _), (14, _), (16, _), (17, _), (18, _), (19, _), (80, _), (94, _)] ⟨rfl, rfl, rfl, rfl, rfl, rfl, rfl, rfl, rfl, rfl, rfl, trivial⟩ (w_skip ?_)
            exact ⟨_, rfl, rfl⟩
          · skip
            refine w_reg ?_
            refine wl_f (f_eql rfl rfl) ?_
            refine wl_f (f_assign rfl) ?_
            refine wl_end [(2, _), (3, _), (9, _), (12, _), (14, _), (16, _), (17, _), (18, _), (19, _), (80, _), (94, _)] ⟨rfl, rfl, rfl, rfl, rfl, rfl, rfl, rfl, rfl, rfl, rfl, trivial⟩ ?_
            exact ⟨_, rfl, rfl⟩
        · rintro _ _ w10 ⟨bb, rfl, rfl⟩
          obtain ⟨hll, hm64, hdt, htt, hlt⟩ := hF.rdy hr hI
          refine w_ifb rfl (fun hc5 => ?_) (fun hc5 => ?_)
          · skip
            refine w_seq ?_
            refine w_reg ?_
            refine wl_f (f_move rfl) ?_
            refine wl_f (f_move rfl) ?_
            refine wl_e (e_call1 r [_, _, _] rfl Try.func18 (by kernel_rfl) (List.Perm.refl _) (fun w hh hs => frtake_spec t m M ded total key r w hks hr hs)) ?_
            rintro _ _ w5 ⟨_, rfl, rfl, r1, rfl, hr1⟩
            obtain ⟨k', o', s', is, hfg, _, _⟩ := fget_form2 M ded key
            rw [hfg]
            refine wl_f (f_move rfl) ?_
            refine wl_f (f_extract rfl rfl) ?_
            refine wl_f (f_extract rfl rfl) ?_
            refine wl_e (e_allocs [.string ByteArray.empty, .int .u64 0, .int .u64 0] (by kernel_rfl)) ?_
            rintro _ _ w19_6 ⟨b19_6, rfl, rfl⟩
            (first | refine wl_e0 (e_store0 (us := [_, _, _]) rfl rfl rfl (by kernel_rfl) (by simp [Value.oneCell']) rfl rfl) ?_ | refine wl_e0 (e_store1 (us := [_, _, _]) rfl rfl rfl (by kernel_rfl) (by simp [Value.oneCell']) rfl rfl) ?_ | refine wl_e0 (e_store2 (us := [_, _, _]) rfl rfl rfl (by kernel_rfl) (by simp [Value.oneCell']) rfl rfl) ?_ | refine wl_e0 (e_store3 (us := [_, _, _]) rfl rfl rfl (by kernel_rfl) (by simp [Value.oneCell']) rfl rfl) ?_)
            rintro _ _ w19_7 rfl
            refine wl_f (f_assign rfl) ?_
            refine wl_end [(2, _), (3, _), (9, _), (12, _), (14, _), (16, _), (17, _), (19, _), (20, _), (21, _)] ⟨rfl, rfl, rfl, rfl, rfl, rfl, rfl, rfl, rfl, rfl, trivial⟩ ?_
            refine w_seq ?_
            refine w_reg ?_
            refine wl_f (f_move rfl) ?_
            refine wl_f (f_move rfl) ?_
            refine wl_e (e_call1 rq [_, _, _, _] rfl Try.func23 (by kernel_rfl) (pk1 2 rfl) (fun w hh hs => rtake_spec q 2 m l ded total rq key w (by omega) hq hs)) ?_
            rintro _ _ w6 ⟨_, rfl, k2, o2, s2, is2, l1, rq1, rfl, hG, rfl, hq1, hT⟩
            obtain ⟨rfl, rfl, rfl, rfl⟩ := tup_inj (hfg.symm.trans (hF.get hG))
            refine wl_f (f_move rfl) ?_
            refine wl_f (f_extract rfl rfl) ?_
            refine wl_f (f_extract rfl rfl) ?_
            refine wl_e (e_allocs [.string ByteArray.empty, .int .u64 0, .int .u64 0] (by kernel_rfl)) ?_
            rintro _ _ w20_6 ⟨b20_6, rfl, rfl⟩
            (first | refine wl_e0 (e_store0 (us := [_, _, _]) rfl rfl rfl (by kernel_rfl) (by simp [Value.oneCell']) rfl rfl) ?_ | refine wl_e0 (e_store1 (us := [_, _, _]) rfl rfl rfl (by kernel_rfl) (by simp [Value.oneCell']) rfl rfl) ?_ | refine wl_e0 (e_store2 (us := [_, _, _]) rfl rfl rfl (by kernel_rfl) (by simp [Value.oneCell']) rfl rfl) ?_ | refine wl_e0 (e_store3 (us := [_, _, _]) rfl rfl rfl (by kernel_rfl) (by simp [Value.oneCell']) rfl rfl) ?_)
            rintro _ _ w20_7 rfl
            refine wl_f (f_assign rfl) ?_
            refine wl_end [(2, _), (3, _), (9, _), (12, _), (14, _), (16, _), (17, _), (19, _), (20, _), (21, _), (22, _), (23, _)] ⟨rfl, rfl, rfl, rfl, rfl, rfl, rfl, rfl, rfl, rfl, rfl, rfl, trivial⟩ ?_
            refine w_seq ?_
            refine w_reg ?_
            (first | refine wl_f (f_loadsb (cs := [_, _, _]) 0 rfl Try.underlying36 rfl (by kernel_rfl) rfl rfl) ?_ | refine wl_f (f_loadsb (cs := [_, _, _]) 1 rfl Try.underlying36 rfl (by kernel_rfl) rfl rfl) ?_ | refine wl_f (f_loadsb (cs := [_, _, _]) 2 rfl Try.underlying36 rfl (by kernel_rfl) rfl rfl) ?_ | refine wl_f (f_loadsb (cs := [_, _, _]) 3 rfl Try.underlying36 rfl (by kernel_rfl) rfl rfl) ?_ | refine wl_f (f_loadsb (cs := [_, _, _]) 4 rfl Try.underlying36 rfl (by kernel_rfl) rfl rfl) ?_ | refine wl_f (f_loadsb (cs := [_, _, _]) 5 rfl Try.underlying36 rfl (by kernel_rfl) rfl rfl) ?_ | refine wl_f (f_loadsb (cs := [_, _, _]) 6 rfl Try.underlying36 rfl (by kernel_rfl) rfl rfl) ?_)
            (first | refine wl_f (f_loadsb (cs := [_, _, _]) 0 rfl Try.underlying36 rfl (by kernel_rfl) rfl rfl) ?_ | refine wl_f (f_loadsb (cs := [_, _, _]) 1 rfl Try.underlying36 rfl (by kernel_rfl) rfl rfl) ?_ | refine wl_f (f_loadsb (cs := [_, _, _]) 2 rfl Try.underlying36 rfl (by kernel_rfl) rfl rfl) ?_ | refine wl_f (f_loadsb (cs := [_, _, _]) 3 rfl Try.underlying36 rfl (by kernel_rfl) rfl rfl) ?_ | refine wl_f (f_loadsb (cs := [_, _, _]) 4 rfl Try.underlying36 rfl (by kernel_rfl) rfl rfl) ?_ | refine wl_f (f_loadsb (cs := [_, _, _]) 5 rfl Try.underlying36 rfl (by kernel_rfl) rfl rfl) ?_ | refine wl_f (f_loadsb (cs := [_, _, _]) 6 rfl Try.underlying36 rfl (by kernel_rfl) rfl rfl) ?_)
            refine wl_f (f_eqv (v' := .bool false) (f_bin rfl rfl (fun w => run_eqGuard_agg w _ _ _ _ _ _ (by kernel_rfl)) (fun w => neqEn _ _ _ _ _ _ w)) (by simp)) ?_
            refine wl_f (f_move rfl) ?_
            refine wl_or (j := 3) (c := false) 3 [(2, _), (3, _), (9, _), (12, _), (14, _), (16, _), (17, _), (19, _)] ⟨rfl, rfl, rfl, rfl, rfl, rfl, rfl, rfl, trivial⟩ rfl rfl rfl rfl rfl (fun hg21_7 => ?_) (fun w21_7 => ?_)
            · skip
              refine wl_gf rfl rfl (f_move rfl) ?_
              refine wl_gf rfl rfl (f_move rfl) ?_
              refine wl_gf rfl rfl (f_eqv (v' := .bool false) (f_neqb rfl rfl Try.underlying4) (by simp)) ?_
              exact wl_pend rfl rfl ⟨rfl, rfl, rfl, rfl, rfl, rfl, rfl, rfl, trivial⟩ (List.Sublist.refl _)
            refine wl_pick [3, 1, 2, 2] rfl ?_
            refine wl_end [(2, _), (3, _), (9, _), (12, _), (14, _), (16, _), (17, _), (19, _), (116, _)] ⟨rfl, rfl, rfl, rfl, rfl, rfl, rfl, rfl, rfl, trivial⟩ ?_
            refine w_iff rfl ?_
            refine w_sub [(2, _), (3, _), (9, _), (12, _), (14, _), (16, _), (17, _), (19, _)] ⟨rfl, rfl, rfl, rfl, rfl, rfl, rfl, rfl, trivial⟩ (w_skip ?_)
            exact ⟨_, ded, total, r1, l1, rq1, p2, rfl, rfl, hr1, hq1, hI.del, hF.take hT, hp2⟩
          · skip
            refine w_seq ?_
            refine w_seq ?_
            refine w_reg ?_
            refine wl_f (f_eql rfl rfl) ?_
            refine wl_f (f_assign rfl) ?_
            refine wl_end [(2, _), (3, _), (9, _), (12, _), (14, _), (16, _), (17, _), (18, _), (19, _), (80, _), (117, _)] ⟨rfl, rfl, rfl, rfl, rfl, rfl, rfl, rfl, rfl, rfl, rfl, trivial⟩ ?_
            refine w_post (fun m' H w' => ∃ bb : Bool, m' = [(2, .slice (some ⟨b2, off, .none⟩) L2.length c2), (3, .int .u64 (raw : Int)), (9, .pointer (some ⟨b0_0, 0, .none⟩)), (12, .pointer (some ⟨t, 0, .none⟩)), (14, .pointer (some ⟨q, 0, .none⟩)), (16, .pointer (some ⟨bd, 0, .none⟩)), (17, .int .i64 i), (18, .int .i64 s), (19, .string key), (117, .bool bb)] ∧ H = [r, rq, deck bd (.slice A1 L1.length c1) p2, blk b0_0 [.string xk, .int .u64 (xo : Int), .int .u64 (xs : Int)] 36]) ?_ ?_
            · skip
              refine w_ifd rfl (fun hc7 => ?_) (fun hc7 => ?_)
              · skip
                refine w_sub [(2, _), (3, _), (9, _), (12, _), (14, _), (16, _), (17, _), (18, _), (19, _), (117, _)] ⟨rfl, rfl, rfl, rfl, rfl, rfl, rfl, rfl, rfl, rfl, trivial⟩ (w_skip ?_)
                exact ⟨_, rfl, rfl⟩
              · skip
                refine w_seq ?_
                refine w_reg ?_
                refine wl_f (f_eql rfl rfl) ?_
                refine wl_f (f_assign rfl) ?_
                refine wl_end [(2, _), (3, _), (9, _), (12, _), (14, _), (16, _), (17, _), (18, _), (19, _), (80, _), (117, _)] ⟨rfl, rfl, rfl, rfl, rfl, rfl, rfl, rfl, rfl, rfl, rfl, trivial⟩ ?_
                refine w_ifd rfl (fun hc8 => ?_) (fun hc8 => ?_)
                · skip
                  refine w_sub [(2, _), (3, _), (9, _), (12, _), (14, _), (16, _), (17, _), (18, _), (19, _), (117, _)] ⟨rfl, rfl, rfl, rfl, rfl, rfl, rfl, rfl, rfl, rfl, trivial⟩ (w_skip ?_)
                  exact ⟨_, rfl, rfl⟩
                · skip
                  refine w_reg ?_
                  refine wl_f (f_eql rfl rfl) ?_
                  refine wl_f (f_assign rfl) ?_
                  refine wl_end [(2, _), (3, _), (9, _), (12, _), (14, _), (16, _), (17, _), (18, _), (19, _), (117, _)] ⟨rfl, rfl, rfl, rfl, rfl, rfl, rfl, rfl, rfl, rfl, trivial⟩ ?_
                  exact ⟨_, rfl, rfl⟩
            · rintro _ _ w10 ⟨bb, rfl, rfl⟩
              refine w_ifb rfl (fun hc9 => ?_) (fun hc9 => ?_)
              · skip
                refine w_seq ?_
                refine w_reg ?_
                refine wl_f (f_move rfl) ?_
                refine wl_e (e_call1 (deck bd (.slice A1 L1.length c1) p2) [_, _, _] rfl Try.func24 (by kernel_rfl) (pk1 2 rfl) (fun w hh hs' => entry_spec bd _ L1 p2 w ⟨h1.old1 hh (pk1 2 rfl), hL1, hp2⟩ hs')) ?_
                rintro _ _ w5 ⟨_, rfl, yk0, yo0, ys0, p3, rfl, hy3, hyo0, hys0, rfl, hp3⟩
                refine wl_e (e_allocs [.string ByteArray.empty, .int .u64 0, .int .u64 0] (by kernel_rfl)) ?_
                rintro _ _ w26_2 ⟨b26_2, rfl, rfl⟩
                (first | refine wl_e0 (e_store0 (us := [_, _, _]) rfl rfl rfl (by kernel_rfl) (by simp [Value.oneCell']) rfl rfl) ?_ | refine wl_e0 (e_store1 (us := [_, _, _]) rfl rfl rfl (by kernel_rfl) (by simp [Value.oneCell']) rfl rfl) ?_ | refine wl_e0 (e_store2 (us := [_, _, _]) rfl rfl rfl (by kernel_rfl) (by simp [Value.oneCell']) rfl rfl) ?_ | refine wl_e0 (e_store3 (us := [_, _, _]) rfl rfl rfl (by kernel_rfl) (by simp [Value.oneCell']) rfl rfl) ?_)
                rintro _ _ w26_3 rfl
                refine wl_end [(2, _), (3, _), (9, _), (12, _), (14, _), (16, _), (17, _), (18, _), (19, _), (24, _)] ⟨rfl, rfl, rfl, rfl, rfl, rfl, rfl, rfl, rfl, rfl, trivial⟩ ?_
                refine w_seq ?_
                refine w_seq ?_
                refine w_reg ?_
                refine wl_f (f_move rfl) ?_
                refine wl_f (f_shr rfl rfl (by omega) rfl) ?_
                refine wl_f (f_and rfl rfl rfl) ?_
                refine wl_f (f_eql rfl rfl) ?_
                refine wl_end [(2, _), (3, _), (9, _), (12, _), (14, _), (16, _), (17, _), (18, _), (19, _), (24, _), (126, _)] ⟨rfl, rfl, rfl, rfl, rfl, rfl, rfl, rfl, rfl, rfl, rfl, trivial⟩ ?_
                refine w_post (fun m' H w' => ∃ (yk : ByteArray) (yo ys : Nat), m' = [(2, .slice (some ⟨b2, off, .none⟩) L2.length c2), (3, .int .u64 (raw : Int)), (9, .pointer (some ⟨b0_0, 0, .none⟩)), (12, .pointer (some ⟨t, 0, .none⟩)), (14, .pointer (some ⟨q, 0, .none⟩)), (16, .pointer (some ⟨bd, 0, .none⟩)), (17, .int .i64 i), (18, .int .i64 s), (19, .string key), (24, .pointer (some ⟨b26_2, 0, .none⟩))] ∧ H = [blk b26_2 [.string yk, .int .u64 (yo : Int), .int .u64 (ys : Int)] 36, deck bd (.slice A1 L1.length c1) p3, r, rq, blk b0_0 [.string xk, .int .u64 (xo : Int), .int .u64 (xs : Int)] 36] ∧ small yk) ?_ ?_
                · skip
                  refine w_ifd rfl (fun hc10 => ?_) (fun hc10 => ?_)
                  · skip
                    refine w_reg ?_
                    (first | refine wl_f (f_loadsb (cs := [_, _, _]) 0 rfl Try.underlying36 rfl (by kernel_rfl) rfl rfl) ?_ | refine wl_f (f_loadsb (cs := [_, _, _]) 1 rfl Try.underlying36 rfl (by kernel_rfl) rfl rfl) ?_ | refine wl_f (f_loadsb (cs := [_, _, _]) 2 rfl Try.underlying36 rfl (by kernel_rfl) rfl rfl) ?_ | refine wl_f (f_loadsb (cs := [_, _, _]) 3 rfl Try.underlying36 rfl (by kernel_rfl) rfl rfl) ?_ | refine wl_f (f_loadsb (cs := [_, _, _]) 4 rfl Try.underlying36 rfl (by kernel_rfl) rfl rfl) ?_ | refine wl_f (f_loadsb (cs := [_, _, _]) 5 rfl Try.underlying36 rfl (by kernel_rfl) rfl rfl) ?_ | refine wl_f (f_loadsb (cs := [_, _, _]) 6 rfl Try.underlying36 rfl (by kernel_rfl) rfl rfl) ?_)
                    (first | refine wl_e0 (e_store0 (us := [_, _, _]) rfl rfl rfl (by kernel_rfl) (by simp [Value.oneCell']) rfl rfl) ?_ | refine wl_e0 (e_store1 (us := [_, _, _]) rfl rfl rfl (by kernel_rfl) (by simp [Value.oneCell']) rfl rfl) ?_ | refine wl_e0 (e_store2 (us := [_, _, _]) rfl rfl rfl (by kernel_rfl) (by simp [Value.oneCell']) rfl rfl) ?_ | refine wl_e0 (e_store3 (us := [_, _, _]) rfl rfl rfl (by kernel_rfl) (by simp [Value.oneCell']) rfl rfl) ?_)
                    rintro _ _ w28_1 rfl
                    refine wl_end [(2, _), (3, _), (9, _), (12, _), (14, _), (16, _), (17, _), (18, _), (19, _), (24, _)] ⟨rfl, rfl, rfl, rfl, rfl, rfl, rfl, rfl, rfl, rfl, trivial⟩ ?_
                    exact ⟨xk, xo, xs, rfl, rfl, hxk⟩
                  · skip
                    refine w_sub [(2, _), (3, _), (9, _), (12, _), (14, _), (16, _), (17, _), (18, _), (19, _), (24, _)] ⟨rfl, rfl, rfl, rfl, rfl, rfl, rfl, rfl, rfl, rfl, trivial⟩ (w_skip ?_)
                    exact ⟨yk0, yo0, ys0, rfl, rfl, small_of (by omega)⟩
                · rintro _ _ w11 ⟨yk1, yo1, ys1, rfl, rfl, hyk1⟩
                  refine w_seq ?_
                  refine w_seq ?_
                  refine w_reg ?_
                  refine wl_f (f_move rfl) ?_
                  refine wl_f (f_shr rfl rfl (by omega) rfl) ?_
                  refine wl_f (f_and rfl rfl rfl) ?_
                  refine wl_f (f_eql rfl rfl) ?_
                  refine wl_end [(2, _), (3, _), (9, _), (12, _), (14, _), (16, _), (17, _), (19, _), (24, _), (131, _)] ⟨rfl, rfl, rfl, rfl, rfl, rfl, rfl, rfl, rfl, rfl, trivial⟩ ?_
                  refine w_post (fun m' H w' => ∃ (yk : ByteArray) (yo ys : Nat), m' = [(2, .slice (some ⟨b2, off, .none⟩) L2.length c2), (3, .int .u64 (raw : Int)), (9, .pointer (some ⟨b0_0, 0, .none⟩)), (12, .pointer (some ⟨t, 0, .none⟩)), (14, .pointer (some ⟨q, 0, .none⟩)), (16, .pointer (some ⟨bd, 0, .none⟩)), (17, .int .i64 i), (19, .string key), (24, .pointer (some ⟨b26_2, 0, .none⟩))] ∧ H = [blk b26_2 [.string yk, .int .u64 (yo : Int), .int .u64 (ys : Int)] 36, deck bd (.slice A1 L1.length c1) p3, r, rq, blk b0_0 [.string xk, .int .u64 (xo : Int), .int .u64 (xs : Int)] 36] ∧ small yk) ?_ ?_
                  · skip
                    refine w_ifd rfl (fun hc11 => ?_) (fun hc11 => ?_)
                    · skip
                      obtain ⟨ao, hao, _⟩ := andu_nat (yo1 : Int) 3
                      obtain ⟨bs, hbs, _⟩ := andu_nat (ys1 : Int) 1
                      refine w_reg ?_
                      refine wl_f (f_fieldAddr 1 rfl Try.underlying36 rfl rfl (by kernel_rfl)) ?_
                      (first | refine wl_f (f_loadb 0 rfl Try.underlying33 rfl rfl rfl) ?_ | refine wl_f (f_loadb 1 rfl Try.underlying33 rfl rfl rfl) ?_ | refine wl_f (f_loadb 2 rfl Try.underlying33 rfl rfl rfl) ?_ | refine wl_f (f_loadb 3 rfl Try.underlying33 rfl rfl rfl) ?_ | refine wl_f (f_loadb 4 rfl Try.underlying33 rfl rfl rfl) ?_ | refine wl_f (f_loadb 5 rfl Try.underlying33 rfl rfl rfl) ?_ | refine wl_f (f_loadb 6 rfl Try.underlying33 rfl rfl rfl) ?_)
                      refine wl_f (f_and rfl rfl hao) ?_
                      refine wl_f (f_fieldAddr 2 rfl Try.underlying36 rfl rfl (by kernel_rfl)) ?_
                      (first | refine wl_f (f_loadb 0 rfl Try.underlying33 rfl rfl rfl) ?_ | refine wl_f (f_loadb 1 rfl Try.underlying33 rfl rfl rfl) ?_ | refine wl_f (f_loadb 2 rfl Try.underlying33 rfl rfl rfl) ?_ | refine wl_f (f_loadb 3 rfl Try.underlying33 rfl rfl rfl) ?_ | refine wl_f (f_loadb 4 rfl Try.underlying33 rfl rfl rfl) ?_ | refine wl_f (f_loadb 5 rfl Try.underlying33 rfl rfl rfl) ?_ | refine wl_f (f_loadb 6 rfl Try.underlying33 rfl rfl rfl) ?_)
                      refine wl_f (f_and rfl rfl hbs) ?_
                      refine wl_f (f_fieldAddr 1 rfl Try.underlying36 rfl rfl (by kernel_rfl)) ?_
                      (first | refine wl_e0 (e_store0 (us := [_]) rfl rfl rfl (by kernel_rfl) (by simp [Value.oneCell']) rfl rfl) ?_ | refine wl_e0 (e_store1 (us := [_]) rfl rfl rfl (by kernel_rfl) (by simp [Value.oneCell']) rfl rfl) ?_ | refine wl_e0 (e_store2 (us := [_]) rfl rfl rfl (by kernel_rfl) (by simp [Value.oneCell']) rfl rfl) ?_ | refine wl_e0 (e_store3 (us := [_]) rfl rfl rfl (by kernel_rfl) (by simp [Value.oneCell']) rfl rfl) ?_)
                      rintro _ _ w30_7 rfl
                      refine wl_f (f_fieldAddr 2 rfl Try.underlying36 rfl rfl (by kernel_rfl)) ?_
                      (first | refine wl_e0 (e_store0 (us := [_]) rfl rfl rfl (by kernel_rfl) (by simp [Value.oneCell']) rfl rfl) ?_ | refine wl_e0 (e_store1 (us := [_]) rfl rfl rfl (by kernel_rfl) (by simp [Value.oneCell']) rfl rfl) ?_ | refine wl_e0 (e_store2 (us := [_]) rfl rfl rfl (by kernel_rfl) (by simp [Value.oneCell']) rfl rfl) ?_ | refine wl_e0 (e_store3 (us := [_]) rfl rfl rfl (by kernel_rfl) (by simp [Value.oneCell']) rfl rfl) ?_)
                      rintro _ _ w30_9 rfl
                      refine wl_end [(2, _), (3, _), (9, _), (12, _), (14, _), (16, _), (17, _), (19, _), (24, _)] ⟨rfl, rfl, rfl, rfl, rfl, rfl, rfl, rfl, rfl, trivial⟩ ?_
                      exact ⟨yk1, ao, bs, rfl, rfl, hyk1⟩
                    · skip
                      refine w_sub [(2, _), (3, _), (9, _), (12, _), (14, _), (16, _), (17, _), (19, _), (24, _)] ⟨rfl, rfl, rfl, rfl, rfl, rfl, rfl, rfl, rfl, trivial⟩ (w_skip ?_)
                      exact ⟨yk1, yo1, ys1, rfl, rfl, hyk1⟩
                  · rintro _ _ w11 ⟨yk, yo, ys, rfl, rfl, hyk⟩
                    refine w_seq ?_
                    refine w_reg ?_
                    refine wl_f (f_move rfl) ?_
                    refine wl_f (f_move rfl) ?_
                    (first | refine wl_f (f_loadsb (cs := [_, _, _]) 0 rfl Try.underlying36 rfl (by kernel_rfl) rfl rfl) ?_ | refine wl_f (f_loadsb (cs := [_, _, _]) 1 rfl Try.underlying36 rfl (by kernel_rfl) rfl rfl) ?_ | refine wl_f (f_loadsb (cs := [_, _, _]) 2 rfl Try.underlying36 rfl (by kernel_rfl) rfl rfl) ?_ | refine wl_f (f_loadsb (cs := [_, _, _]) 3 rfl Try.underlying36 rfl (by kernel_rfl) rfl rfl) ?_ | refine wl_f (f_loadsb (cs := [_, _, _]) 4 rfl Try.underlying36 rfl (by kernel_rfl) rfl rfl) ?_ | refine wl_f (f_loadsb (cs := [_, _, _]) 5 rfl Try.underlying36 rfl (by kernel_rfl) rfl rfl) ?_ | refine wl_f (f_loadsb (cs := [_, _, _]) 6 rfl Try.underlying36 rfl (by kernel_rfl) rfl rfl) ?_)
                    refine wl_e (e_call1 r [_, _, _, _] rfl Try.func19 (by kernel_rfl) (pk1 2 rfl) (fun w hh hs => frswap_spec t m M ded total key yk yo ys r w hks hyk hr hs)) ?_
                    rintro _ _ w12 ⟨_, rfl, r1, M1, rfl, hr1, hS⟩
                    obtain ⟨k', o', s', e', rfl⟩ := hS.form
                    refine wl_f (f_move rfl) ?_
                    refine wl_f (f_extract rfl rfl) ?_
                    refine wl_f (f_extract rfl rfl) ?_
                    refine wl_e (e_allocs [.string ByteArray.empty, .int .u64 0, .int .u64 0] (by kernel_rfl)) ?_
                    rintro _ _ w31_7 ⟨b31_7, rfl, rfl⟩
                    (first | refine wl_e0 (e_store0 (us := [_, _, _]) rfl rfl rfl (by kernel_rfl) (by simp [Value.oneCell']) rfl rfl) ?_ | refine wl_e0 (e_store1 (us := [_, _, _]) rfl rfl rfl (by kernel_rfl) (by simp [Value.oneCell']) rfl rfl) ?_ | refine wl_e0 (e_store2 (us := [_, _, _]) rfl rfl rfl (by kernel_rfl) (by simp [Value.oneCell']) rfl rfl) ?_ | refine wl_e0 (e_store3 (us := [_, _, _]) rfl rfl rfl (by kernel_rfl) (by simp [Value.oneCell']) rfl rfl) ?_)
                    rintro _ _ w31_8 rfl
                    refine wl_f (f_assign rfl) ?_
                    refine wl_end [(2, _), (3, _), (9, _), (12, _), (14, _), (16, _), (17, _), (19, _), (24, _), (25, _), (26, _)] ⟨rfl, rfl, rfl, rfl, rfl, rfl, rfl, rfl, rfl, rfl, rfl, trivial⟩ ?_
                    refine w_seq ?_
                    refine w_reg ?_
                    refine wl_f (f_move rfl) ?_
                    refine wl_f (f_move rfl) ?_
                    (first | refine wl_f (f_loadsb (cs := [_, _, _]) 0 rfl Try.underlying36 rfl (by kernel_rfl) rfl rfl) ?_ | refine wl_f (f_loadsb (cs := [_, _, _]) 1 rfl Try.underlying36 rfl (by kernel_rfl) rfl rfl) ?_ | refine wl_f (f_loadsb (cs := [_, _, _]) 2 rfl Try.underlying36 rfl (by kernel_rfl) rfl rfl) ?_ | refine wl_f (f_loadsb (cs := [_, _, _]) 3 rfl Try.underlying36 rfl (by kernel_rfl) rfl rfl) ?_ | refine wl_f (f_loadsb (cs := [_, _, _]) 4 rfl Try.underlying36 rfl (by kernel_rfl) rfl rfl) ?_ | refine wl_f (f_loadsb (cs := [_, _, _]) 5 rfl Try.underlying36 rfl (by kernel_rfl) rfl rfl) ?_ | refine wl_f (f_loadsb (cs := [_, _, _]) 6 rfl Try.underlying36 rfl (by kernel_rfl) rfl rfl) ?_)
                    refine wl_e (e_call1 rq [_, _, _, _, _] rfl Try.func25 (by kernel_rfl) (pk1 4 rfl) (fun w hh hs => rfswap_spec q m l ded total rq key yk yo ys w (by omega) hq hs)) ?_
                    rintro _ _ w13 ⟨_, rfl, l1, rq1, rfl, hq1, hS2⟩
                    obtain ⟨k2, o2, s2, e2, rfl⟩ := hS2.form
                    obtain ⟨_, _, _, _, _, heq, hF1⟩ := hF.swap hS hS2
                    obtain ⟨rfl, rfl, rfl, rfl⟩ := tupe_inj heq
                    refine wl_f (f_move rfl) ?_
                    refine wl_f (f_extract rfl rfl) ?_
                    refine wl_f (f_extract rfl rfl) ?_
                    refine wl_e (e_allocs [.string ByteArray.empty, .int .u64 0, .int .u64 0] (by kernel_rfl)) ?_
                    rintro _ _ w32_7 ⟨b32_7, rfl, rfl⟩
                    (first | refine wl_e0 (e_store0 (us := [_, _, _]) rfl rfl rfl (by kernel_rfl) (by simp [Value.oneCell']) rfl rfl) ?_ | refine wl_e0 (e_store1 (us := [_, _, _]) rfl rfl rfl (by kernel_rfl) (by simp [Value.oneCell']) rfl rfl) ?_ | refine wl_e0 (e_store2 (us := [_, _, _]) rfl rfl rfl (by kernel_rfl) (by simp [Value.oneCell']) rfl rfl) ?_ | refine wl_e0 (e_store3 (us := [_, _, _]) rfl rfl rfl (by kernel_rfl) (by simp [Value.oneCell']) rfl rfl) ?_)
                    rintro _ _ w32_8 rfl
                    refine wl_f (f_assign rfl) ?_
                    refine wl_end [(2, _), (3, _), (9, _), (12, _), (14, _), (16, _), (17, _), (19, _), (25, _), (26, _), (27, _), (28, _)] ⟨rfl, rfl, rfl, rfl, rfl, rfl, rfl, rfl, rfl, rfl, rfl, rfl, trivial⟩ ?_
                    refine w_seq ?_
                    refine w_reg ?_
                    (first | refine wl_f (f_loadsb (cs := [_, _, _]) 0 rfl Try.underlying36 rfl (by kernel_rfl) rfl rfl) ?_ | refine wl_f (f_loadsb (cs := [_, _, _]) 1 rfl Try.underlying36 rfl (by kernel_rfl) rfl rfl) ?_ | refine wl_f (f_loadsb (cs := [_, _, _]) 2 rfl Try.underlying36 rfl (by kernel_rfl) rfl rfl) ?_ | refine wl_f (f_loadsb (cs := [_, _, _]) 3 rfl Try.underlying36 rfl (by kernel_rfl) rfl rfl) ?_ | refine wl_f (f_loadsb (cs := [_, _, _]) 4 rfl Try.underlying36 rfl (by kernel_rfl) rfl rfl) ?_ | refine wl_f (f_loadsb (cs := [_, _, _]) 5 rfl Try.underlying36 rfl (by kernel_rfl) rfl rfl) ?_ | refine wl_f (f_loadsb (cs := [_, _, _]) 6 rfl Try.underlying36 rfl (by kernel_rfl) rfl rfl) ?_)
                    (first | refine wl_f (f_loadsb (cs := [_, _, _]) 0 rfl Try.underlying36 rfl (by kernel_rfl) rfl rfl) ?_ | refine wl_f (f_loadsb (cs := [_, _, _]) 1 rfl Try.underlying36 rfl (by kernel_rfl) rfl rfl) ?_ | refine wl_f (f_loadsb (cs := [_, _, _]) 2 rfl Try.underlying36 rfl (by kernel_rfl) rfl rfl) ?_ | refine wl_f (f_loadsb (cs := [_, _, _]) 3 rfl Try.underlying36 rfl (by kernel_rfl) rfl rfl) ?_ | refine wl_f (f_loadsb (cs := [_, _, _]) 4 rfl Try.underlying36 rfl (by kernel_rfl) rfl rfl) ?_ | refine wl_f (f_loadsb (cs := [_, _, _]) 5 rfl Try.underlying36 rfl (by kernel_rfl) rfl rfl) ?_ | refine wl_f (f_loadsb (cs := [_, _, _]) 6 rfl Try.underlying36 rfl (by kernel_rfl) rfl rfl) ?_)
                    refine wl_f (f_eqv (v' := .bool false) (f_bin rfl rfl (fun w => run_eqGuard_agg w _ _ _ _ _ _ (by kernel_rfl)) (fun w => neqEn _ _ _ _ _ _ w)) (by simp)) ?_
                    refine wl_f (f_move rfl) ?_
                    refine wl_or (j := 3) (c := false) 3 [(2, _), (3, _), (9, _), (12, _), (14, _), (16, _), (17, _), (19, _)] ⟨rfl, rfl, rfl, rfl, rfl, rfl, rfl, rfl, trivial⟩ rfl rfl rfl rfl rfl (fun hg33_7 => ?_) (fun w33_7 => ?_)
                    · skip
                      refine wl_gf rfl rfl (f_move rfl) ?_
                      refine wl_gf rfl rfl (f_move rfl) ?_
                      refine wl_gf rfl rfl (f_eqv (v' := .bool false) (f_neq rfl rfl) (by simp)) ?_
                      exact wl_pend rfl rfl ⟨rfl, rfl, rfl, rfl, rfl, rfl, rfl, rfl, trivial⟩ (List.Sublist.refl _)
                    refine wl_pick [3, 1, 3, 3] rfl ?_
                    refine wl_end [(2, _), (3, _), (9, _), (12, _), (14, _), (16, _), (17, _), (19, _), (161, _)] ⟨rfl, rfl, rfl, rfl, rfl, rfl, rfl, rfl, rfl, trivial⟩ ?_
                    refine w_iff rfl ?_
                    refine w_sub [(2, _), (3, _), (9, _), (12, _), (14, _), (16, _), (17, _), (19, _)] ⟨rfl, rfl, rfl, rfl, rfl, rfl, rfl, rfl, trivial⟩ (w_skip ?_)
                    exact ⟨_, ded, total, r1, l1, rq1, p3, rfl, rfl, hr1, hq1, hI.swap hS, hF1, hp3⟩
              · skip
                refine w_seq ?_
                refine w_reg ?_
                refine wl_f (f_move rfl) ?_
                refine wl_f (f_move rfl) ?_
                refine wl_f (f_move rfl) ?_
                refine wl_f (f_move rfl) ?_
                refine wl_e (e_call0 rfl Try.func21 (by kernel_rfl) (fun w hh => weight_spec s raw w)) ?_
                rintro _ _ w5 ⟨_, rfl, rfl, rfl⟩
                refine wl_e (e_call1 r [_, _, _] rfl Try.func11 (by kernel_rfl) (List.Perm.refl _) (fun w hh hs => fradd_spec t m M ded total key (wgt s raw) r w (by omega) hks (wgt_lt s hraw) hI.ok hr hs)) ?_
                rintro _ _ w6 ⟨_, rfl, e1, M1, ded1, total1, r1, rfl, rfl, hr1, hA⟩
                refine wl_f (f_move rfl) ?_
                refine wl_f (f_move rfl) ?_
                refine wl_f (f_move rfl) ?_
                refine wl_f (f_move rfl) ?_
                refine wl_e (e_call0 rfl Try.func21 (by kernel_rfl) (fun w hh => weight_spec s raw w)) ?_
                rintro _ _ w7 ⟨_, rfl, rfl, rfl⟩
                refine wl_e (e_call1 rq [_, _, _] rfl Try.func22 (by kernel_rfl) (pk1 1 rfl) (fun w hh hs => rfadd_spec q m l ded total rq key (wgt s raw) w hm64 hll hdt htt hlt hq hs)) ?_
                rintro _ _ w8 ⟨_, rfl, e2, l1, ded2, total2, rq1, rfl, rfl, hq1, hA2⟩
                obtain ⟨rfl, rfl, rfl, hF1⟩ := hF.add hA hA2
                refine wl_f (f_neq rfl rfl) ?_
                refine wl_pick [1, 0, 0, 0] rfl ?_
                refine wl_end [(2, _), (3, _), (9, _), (12, _), (14, _), (16, _), (17, _), (19, _), (93, _)] ⟨rfl, rfl, rfl, rfl, rfl, rfl, rfl, rfl, rfl, trivial⟩ ?_
                refine w_ifd rfl (fun h => absurd rfl h) (fun _ => ?_)
                refine w_sub [(2, _), (3, _), (9, _), (12, _), (14, _), (16, _), (17, _), (19, _)] ⟨rfl, rfl, rfl, rfl, rfl, rfl, rfl, rfl, trivial⟩ (w_skip ?_)
                exact ⟨M1, _, _, r1, l1, rq1, p2, rfl, rfl, hr1, hq1, hI.add hA, hF1, hp2⟩
      · clear hr hq hI hF hp2
        rintro _ _ w9 ⟨M, ded, total, r, l, rq, p, rfl, rfl, hr, hq, hI, hF, hp⟩
        obtain ⟨hll, hm64, hdt, htt, hlt⟩ := hF.rdy hr hI
        refine w_seq ?_
        refine w_reg ?_
        refine wl_f (f_move rfl) ?_
        refine wl_f (f_move rfl) ?_
        refine wl_e (e_call1 r [_, _, _] rfl Try.func12 (by kernel_rfl) (List.Perm.refl _) (fun w hh hs => frget_spec t m M ded total key r w hks hr hs)) ?_
        rintro _ _ w5 ⟨_, rfl, rfl, rfl⟩
        obtain ⟨k', o', s', is, hfg, _, _⟩ := fget_form2 M ded key
        rw [hfg]
        refine wl_f (f_move rfl) ?_
        refine wl_f (f_extract rfl rfl) ?_
        refine wl_f (f_extract rfl rfl) ?_
        refine wl_e (e_allocs [.string ByteArray.empty, .int .u64 0, .int .u64 0] (by kernel_rfl)) ?_
        rintro _ _ w35_6 ⟨b35_6, rfl, rfl⟩
        (first | refine wl_e0 (e_store0 (us := [_, _, _]) rfl rfl rfl (by kernel_rfl) (by simp [Value.oneCell']) rfl rfl) ?_ | refine wl_e0 (e_store1 (us := [_, _, _]) rfl rfl rfl (by kernel_rfl) (by simp [Value.oneCell']) rfl rfl) ?_ | refine wl_e0 (e_store2 (us := [_, _, _]) rfl rfl rfl (by kernel_rfl) (by simp [Value.oneCell']) rfl rfl) ?_ | refine wl_e0 (e_store3 (us := [_, _, _]) rfl rfl rfl (by kernel_rfl) (by simp [Value.oneCell']) rfl rfl) ?_)
        rintro _ _ w35_7 rfl
        refine wl_f (f_assign rfl) ?_
        refine wl_end [(2, _), (3, _), (9, _), (12, _), (14, _), (16, _), (17, _), (19, _), (29, _), (30, _)] ⟨rfl, rfl, rfl, rfl, rfl, rfl, rfl, rfl, rfl, rfl, trivial⟩ ?_
        refine w_seq ?_
        refine w_reg ?_
        refine wl_f (f_move rfl) ?_
        refine wl_f (f_move rfl) ?_
        refine wl_e (e_call1 rq [_, _, _, _] rfl Try.func26 (by kernel_rfl) (pk1 2 rfl) (fun w hh hs => rget_spec q 2 m l ded total rq key w (by omega) hq hs)) ?_
        rintro _ _ w6 ⟨_, rfl, rfl, k2, o2, s2, is2, rfl, hG⟩
        obtain ⟨rfl, rfl, rfl, rfl⟩ := tup_inj (hfg.symm.trans (hF.get hG))
        refine wl_f (f_move rfl) ?_
        refine wl_f (f_extract rfl rfl) ?_
        refine wl_f (f_extract rfl rfl) ?_
        refine wl_e (e_allocs [.string ByteArray.empty, .int .u64 0, .int .u64 0] (by kernel_rfl)) ?_
        rintro _ _ w36_6 ⟨b36_6, rfl, rfl⟩
        (first | refine wl_e0 (e_store0 (us := [_, _, _]) rfl rfl rfl (by kernel_rfl) (by simp [Value.oneCell']) rfl rfl) ?_ | refine wl_e0 (e_store1 (us := [_, _, _]) rfl rfl rfl (by kernel_rfl) (by simp [Value.oneCell']) rfl rfl) ?_ | refine wl_e0 (e_store2 (us := [_, _, _]) rfl rfl rfl (by kernel_rfl) (by simp [Value.oneCell']) rfl rfl) ?_ | refine wl_e0 (e_store3 (us := [_, _, _]) rfl rfl rfl (by kernel_rfl) (by simp [Value.oneCell']) rfl rfl) ?_)
        rintro _ _ w36_7 rfl
        refine wl_f (f_assign rfl) ?_
        refine wl_end [(2, _), (3, _), (9, _), (12, _), (14, _), (16, _), (17, _), (29, _), (30, _), (31, _), (32, _)] ⟨rfl, rfl, rfl, rfl, rfl, rfl, rfl, rfl, rfl, rfl, rfl, trivial⟩ ?_
        refine w_seq ?_
        have hq0 := hq
        obtain ⟨LV, rfl⟩ := hq
        refine w_with fun hh => ?_
        obtain ⟨LA, cl, rfl⟩ := rowB_slice hh (i := 1) (j := 1) rfl rfl
        clear hh
        refine w_draw [(0, true), (1, true), (2, true), (3, true), (4, true), (5, true), (6, true), (7, true), (8, true), (9, true), (11, true), (10, false), (12, false), (13, false), (14, true), (15, true), (16, true), (17, true), (19, true), (18, false), (20, false), (21, true), (22, true), (23, true), (24, true), (26, true), (25, false), (27, false), (28, true), (29, true), (30, true), (31, true), (33, true), (34, true), (35, true), (36, true), (37, true), (32, false), (38, true), (39, true)] (_) ([]) mixed (by kernel_rfl) (by kernel_rfl) rfl (perm_all _) (fun w37_ => ?_)
        (first | refine wd_f rfl (f_loadsb (cs := [_, _, _]) 0 rfl Try.underlying36 rfl (by kernel_rfl) rfl rfl) ?_ | refine wd_f rfl (f_loadsb (cs := [_, _, _]) 1 rfl Try.underlying36 rfl (by kernel_rfl) rfl rfl) ?_ | refine wd_f rfl (f_loadsb (cs := [_, _, _]) 2 rfl Try.underlying36 rfl (by kernel_rfl) rfl rfl) ?_ | refine wd_f rfl (f_loadsb (cs := [_, _, _]) 3 rfl Try.underlying36 rfl (by kernel_rfl) rfl rfl) ?_ | refine wd_f rfl (f_loadsb (cs := [_, _, _]) 4 rfl Try.underlying36 rfl (by kernel_rfl) rfl rfl) ?_ | refine wd_f rfl (f_loadsb (cs := [_, _, _]) 5 rfl Try.underlying36 rfl (by kernel_rfl) rfl rfl) ?_ | refine wd_f rfl (f_loadsb (cs := [_, _, _]) 6 rfl Try.underlying36 rfl (by kernel_rfl) rfl rfl) ?_)
        (first | refine wd_f rfl (f_loadsb (cs := [_, _, _]) 0 rfl Try.underlying36 rfl (by kernel_rfl) rfl rfl) ?_ | refine wd_f rfl (f_loadsb (cs := [_, _, _]) 1 rfl Try.underlying36 rfl (by kernel_rfl) rfl rfl) ?_ | refine wd_f rfl (f_loadsb (cs := [_, _, _]) 2 rfl Try.underlying36 rfl (by kernel_rfl) rfl rfl) ?_ | refine wd_f rfl (f_loadsb (cs := [_, _, _]) 3 rfl Try.underlying36 rfl (by kernel_rfl) rfl rfl) ?_ | refine wd_f rfl (f_loadsb (cs := [_, _, _]) 4 rfl Try.underlying36 rfl (by kernel_rfl) rfl rfl) ?_ | refine wd_f rfl (f_loadsb (cs := [_, _, _]) 5 rfl Try.underlying36 rfl (by kernel_rfl) rfl rfl) ?_ | refine wd_f rfl (f_loadsb (cs := [_, _, _]) 6 rfl Try.underlying36 rfl (by kernel_rfl) rfl rfl) ?_)
        refine wd_f rfl (f_eqv (v' := .bool false) (f_bin rfl rfl (fun w => run_eqGuard_agg w _ _ _ _ _ _ (by kernel_rfl)) (fun w => neqEn _ _ _ _ _ _ w)) (by simp)) ?_
        refine wd_f rfl (f_move rfl) ?_
        refine wd_gf rfl rfl rfl (f_move rfl) ?_
        refine wd_gf rfl rfl rfl (f_move rfl) ?_
        refine wd_gf rfl rfl rfl (f_eqv (v' := .bool false) (f_neqb rfl rfl Try.underlying4) (by simp)) ?_
        refine wd_f rfl (f_pick0 rfl rfl) ?_
        refine wd_f rfl (f_move rfl) ?_
        refine wd_gf rfl rfl rfl (f_move rfl) ?_
        refine wd_gf rfl rfl rfl (f_move rfl) ?_
        refine wd_ge rfl rfl rfl (e_call1 r [_, _, _, _, _] rfl Try.func14 (by kernel_rfl) (pk1 3 rfl) (fun w hh hs => frentries_spec t m M ded total r w (by omega) hr hs)) ?_
        rintro ve _ w12 ⟨_, rfl, ks, hkp, hks', rfl⟩
        refine ⟨_, pick_perm [2, 2, 2, 1, 1, 1] _ rfl, ?_⟩
        refine wd_ge rfl rfl rfl (e_call1 _ [_, _, _, _, _, _] rfl Try.func28 (by kernel_rfl) (pk1 1 rfl) (fun w hh hs => rentries_spec q 2 m l ded total _ w (by omega) hF.nd hq0 hs)) ?_
        rintro ve2 _ w13 ⟨_, rfl, es, hes, hse, rfl⟩
        refine ⟨_, pick_perm [2, 1, 1, 1, 1, 1] _ rfl, ?_⟩
        have hen := hF.ents hkp hks' hes hse
        have hel : es.length ≤ 64 := by rw [hes.length_eq, List.length_map]; omega
        refine wd_ge rfl rfl rfl (e_call0 rfl Try.func27 (by kernel_rfl) (fun w hh => sameEntries_spec _ _ _ es w (Rd.held0 hh (i := 7) rfl) (Rd.held0 hh (i := 6) rfl) (by rw [hen]; omega) (by omega))) ?_
        rintro _ _ w14 ⟨_, rfl, rfl, rfl⟩
        refine ⟨_, List.Perm.refl _, ?_⟩
        rw [decide_eq_true hen]
        refine wd_gf rfl rfl rfl (f_eqv (v' := .bool false) (f_not rfl rfl) rfl) ?_
        refine wd_f rfl (f_pick0 rfl rfl) ?_
        refine wd_f rfl (f_move rfl) ?_
        refine wd_gf rfl rfl rfl (f_move rfl) ?_
        refine wd_gf rfl rfl rfl (f_move rfl) ?_
        refine wd_ge rfl rfl rfl (e_call1 r [_, _, _, _, _, _, _] rfl Try.func13 (by kernel_rfl) (pk1 3 rfl) (fun w hh hs => fruntracked_spec t m M ded total r w hr hs)) ?_
        rintro _ _ w15 ⟨_, rfl, rfl, rfl⟩
        refine ⟨_, pick_perm [1, 1, 1, 0, 0, 0] _ rfl, ?_⟩
        refine wd_ge rfl rfl rfl (e_call1 _ [_, _, _, _, _, _, _] rfl Try.func29 (by kernel_rfl) (pk1 1 rfl) (fun w hh hs => runtracked_spec q 2 m l ded total _ w hq0 hs)) ?_
        rintro _ _ w16 ⟨_, rfl, rfl, rfl⟩
        refine ⟨_, pick_perm [1, 0, 0, 0, 0, 0] _ rfl, ?_⟩
        refine wd_gf rfl rfl rfl (f_eqv (v' := .bool false) (f_neq rfl rfl) (by simp)) ?_
        refine wd_f rfl (f_pick0 rfl rfl) ?_
        refine wd_f rfl (f_move rfl) ?_
        refine wd_gf rfl rfl rfl (f_move rfl) ?_
        refine wd_gf rfl rfl rfl (f_move rfl) ?_
        refine wd_ge rfl rfl rfl (e_call1 r [_, _, _, _, _, _, _] rfl Try.func15 (by kernel_rfl) (pk1 3 rfl) (fun w hh hs => frtotal_spec t m M ded total r w hr hs)) ?_
        rintro _ _ w17 ⟨_, rfl, rfl, rfl⟩
        refine ⟨_, pick_perm [1, 1, 1, 0, 0, 0] _ rfl, ?_⟩
        refine wd_ge rfl rfl rfl (e_call1 _ [_, _, _, _, _, _, _] rfl Try.func30 (by kernel_rfl) (pk1 1 rfl) (fun w hh hs => rtotal_spec q 2 m l ded total _ w hq0 hs)) ?_
        rintro _ _ w18 ⟨_, rfl, rfl, rfl⟩
        refine ⟨_, pick_perm [1, 0, 0, 0, 0, 0] _ rfl, ?_⟩
        refine wd_gf rfl rfl rfl (f_eqv (v' := .bool false) (f_neq rfl rfl) (by simp)) ?_
        refine wd_f rfl (f_pick0 rfl rfl) ?_
        refine wd_f rfl (f_move rfl) ?_
        refine wd_gf rfl rfl rfl (f_move rfl) ?_
        refine wd_gf rfl rfl rfl (f_move rfl) ?_
        refine wd_gf rfl rfl rfl (f_nilCheck rfl) ?_
        refine wd_gf rfl rfl rfl (f_fieldAddr 2 rfl Try.underlying58 rfl rfl (by kernel_rfl)) ?_
        refine wd_gf rfl rfl rfl (f_loadB 1 0 rfl rfl rfl Try.underlying40 rfl rfl) ?_
        refine wd_gf rfl rfl rfl (f_len rfl Try.underlying40) ?_
        refine wd_ge rfl rfl rfl (e_call1 r [_, _, _, _, _, _, _] rfl Try.func20 (by kernel_rfl) (pk1 3 rfl) (fun w hh hs => frlen_spec t m M ded total r w hr hs)) ?_
        rintro _ _ w19 ⟨_, rfl, rfl, rfl⟩
        refine ⟨_, pick_perm [1, 1, 1, 0, 0, 0] _ rfl, ?_⟩
        refine wd_gf rfl rfl rfl (f_eqv (v' := .bool false) (f_neq rfl rfl) (by rw [hF.len]; simp)) ?_
        refine wd_f rfl (f_pick0 rfl rfl) ?_
        refine wd_endp [(2, _), (3, _), (9, _), (12, _), (14, _), (16, _), (17, _), (213, _)] [3, 1, 2, 2] ⟨rfl, rfl, rfl, rfl, rfl, rfl, rfl, rfl, trivial⟩ rfl ?_
        refine w_iff rfl ?_
        refine w_skip ?_
        refine w_reg ?_
        refine wl_f (f_move rfl) ?_
        refine wl_f (f_add rfl rfl (by omega)) ?_
        refine wl_f (f_assign rfl) ?_
        refine wl_end [(2, _), (3, _), (9, _), (12, _), (14, _), (16, _), (17, _)] ⟨rfl, rfl, rfl, rfl, rfl, rfl, rfl, trivial⟩ ?_
        exact ⟨kk - 1, by omega, i + 1, M, ded, total, r, l, _, p, rfl, rfl, hr, hq0, hI, hF, by omega, by omega, hp⟩
  · skip
    refine w_exit0 ?_
    refine w_seq ?_
    refine w_reg ?_
    refine wl_e (e_call0 rfl Try.func16 (by kernel_rfl) (fun w hh => awake14_spec w)) ?_
    rintro _ _ w20 ⟨_, rfl, rfl⟩
    refine wl_f (f_assign rfl) ?_
    refine wl_end [(10, _)] ⟨rfl, trivial⟩ ?_
    refine w_ret ?_
    refine ⟨_, _, fun a ha hh => results_tmps Try.results6 rfl a ha _, List.Sublist.refl _, ?_⟩
    rfl
end Go.Proofs.Ytkoklfagmbaapaa
