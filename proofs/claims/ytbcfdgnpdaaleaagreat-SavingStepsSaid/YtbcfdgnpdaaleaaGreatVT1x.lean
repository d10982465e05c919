/- The law SavingSteps: the call returns true. -/
import Derived.Test.YtbcfdgnpdaaleaaGreatMA10
import Derived.Test.YtbcfdgnpdaaleaaGreatMA11
import Derived.Test.YtbcfdgnpdaaleaaGreatMA8
import Derived.Test.YtbcfdgnpdaaleaaGreatMA2
namespace Go.Proofs.YtbcfdgnpdaaleaaGreat
open Go.RowKit

theorem tup_inj {k k' : ByteArray} {o s o' s' : Nat} {b b' : Bool} (h : (Value.tuple [enV k o s, .bool b].toArray) = .tuple [enV k' o' s', .bool b'].toArray) : k = k' ∧ o = o' ∧ s = s' ∧ b = b' := by
  simp [enV] at h
  obtain ⟨⟨h1, h2, h3⟩, h4⟩ := h
  exact ⟨h1, by omega, by omega, h4⟩
theorem tupe_inj {k k' : ByteArray} {o s o' s' : Nat} {b b' : Int} (h : (Value.tuple [enV k o s, .int .i64 b].toArray) = .tuple [enV k' o' s', .int .i64 b'].toArray) : k = k' ∧ o = o' ∧ s = s' ∧ b = b' := by
  simp [enV] at h
  obtain ⟨⟨h1, h2, h3⟩, h4⟩ := h
  exact ⟨h1, by omega, by omega, h4⟩
theorem SwapG.form {E E' : List (Option En)} {k x : ByteArray} {base xo xs : Nat} {u : Value} (h : SwapG E base k x xo xs u E') : ∃ (k' : ByteArray) (o' s' : Nat) (e : Int), u = .tuple [enV k' o' s', .int .i64 e].toArray := by
  rcases h with ⟨e, rfl, _⟩ | ⟨i, o, s, _, _, _, _, rfl, _⟩
  · exact ⟨ByteArray.empty, 0, 0, e, rfl⟩
  · exact ⟨k, o, s, 0, rfl⟩
theorem RsSwapG.form {l l' : List En} {k x : ByteArray} {base xo xs : Nat} {u : Value} (h : RsSwapG l base k x xo xs u l') : ∃ (k' : ByteArray) (o' s' : Nat) (e : Int), u = .tuple [enV k' o' s', .int .i64 e].toArray := by
  rcases h with ⟨e, rfl, _⟩ | ⟨o, s, A, B, _, _, _, _, rfl, _⟩
  · exact ⟨ByteArray.empty, 0, 0, e, rfl⟩
  · exact ⟨k, o, s, 0, rfl⟩
theorem andi_nat (x : Int) (m : Nat) (hm : m < 9223372036854775808) : ∃ n : Nat, bits .and .i64 x (m : Int) = n ∧ n ≤ m := by
  have h := and_bound13 x m hm
  exact ⟨(bits .and .i64 x m).toNat, by omega, by omega⟩
theorem andu_nat (x m : Int) : ∃ n : Nat, bits .and .u64 x m = n ∧ n < 18446744073709551616 := by
  have h : bits .and .u64 x m = IntKind.u64.wrap ((BitVec.ofInt 64 x &&& BitVec.ofInt 64 m).toNat : Int) := rfl
  have h3 : (BitVec.ofInt 64 x &&& BitVec.ofInt 64 m).toNat < 2 ^ 64 := (BitVec.ofInt 64 x &&& BitVec.ofInt 64 m).isLt
  rw [IntWalk.u64_in _ (by omega)] at h
  exact ⟨_, h, h3⟩
def sh (s : Int) (n : Nat) : Int := s.fdiv (2 ^ min ((n : Int).toNat) (IntKind.bits .i64))
def wgt (s : Int) (raw : Nat) : Nat := if bits .and .i64 (sh s 10) 15 = 0 then raw else 1 + (bits .and .i64 (sh s 10) 7).toNat
theorem wgt_lt (s : Int) {raw : Nat} (h : raw < 18446744073709551616) : wgt s raw < 18446744073709551616 := by
  unfold wgt
  obtain ⟨n, hn, hn2⟩ := andi_nat (sh s 10) 7 (by decide)
  have e : bits .and .i64 (sh s 10) 7 = (n : Int) := hn
  rw [e]
  split <;> omega
theorem weight_spec (s : Int) (raw : Nat) (w : World) : Spec Tryz.prog 9 [.int .i64 s, .int .u64 (raw : Int)] w Nil fun r H => r = .int .u64 (wgt s raw : Nat) ∧ H = [] := by
  refine enter (n := 15) Tryz.func9 rfl rfl [(0, _), (1, _)] rfl ⟨rfl, rfl, trivial⟩ (Holds.start _ _) ?_
  refine w_seq ?_
  refine w_reg ?_
  refine wl_f (f_assign rfl) ?_
  refine wl_end [(0, _), (1, _)] ⟨rfl, rfl, trivial⟩ ?_
  refine w_seq ?_
  refine w_seq ?_
  refine w_reg ?_
  refine wl_f (f_move rfl) ?_
  refine wl_f (f_shr rfl rfl (by omega) rfl) ?_
  refine wl_f (f_and rfl rfl rfl) ?_
  refine wl_f (f_eql rfl rfl) ?_
  refine wl_end [(0, _), (1, _), (8, _)] ⟨rfl, rfl, rfl, trivial⟩ ?_
  refine w_ifd rfl (fun hc1 => ?_) (fun hc1 => ?_)
  · skip
    refine w_seq ?_
    refine w_reg ?_
    refine wl_f (f_move rfl) ?_
    refine wl_f (f_assign rfl) ?_
    refine wl_end [(4, _)] ⟨rfl, trivial⟩ ?_
    refine w_ret ?_
    refine ⟨_, _, fun a ha hh => results_tmps Tryz.results9 rfl a ha _, List.Sublist.refl _, ?_⟩
    have e : wgt s raw = raw := if_pos hc1
    rw [e]; exact ⟨rfl, rfl⟩
  · skip
    obtain ⟨n, hn, hn2⟩ := andi_nat (sh s 10) 7 (by decide)
    have e : wgt s raw = 1 + n := by
      refine (if_neg hc1).trans ?_
      have e : bits .and .i64 (sh s 10) 7 = (n : Int) := hn
      rw [e]; rfl
    rw [e]
    refine w_skip ?_
    refine w_seq ?_
    refine w_reg ?_
    refine wl_f (f_move rfl) ?_
    refine wl_f (f_shr rfl rfl (by omega) rfl) ?_
    refine wl_f (f_and rfl rfl hn) ?_
    refine wl_f (f_eqv (v' := .int .i64 ((1 + n : Nat) : Int)) (f_add rfl rfl (by omega)) (by congr 1)) ?_
    refine wl_f (f_convu rfl Tryz.underlying3 Tryz.underlying23 (by omega)) ?_
    refine wl_f (f_assign rfl) ?_
    refine wl_end [(4, _)] ⟨rfl, trivial⟩ ?_
    refine w_ret ?_
    refine ⟨_, _, fun a ha hh => results_tmps Tryz.results9 rfl a ha _, List.Sublist.refl _, ?_⟩
    exact ⟨rfl, rfl⟩
set_option maxHeartbeats 16000000 in
theorem savingSteps_spec (z : Nat) (A1 : Option Addr) (c1 : Nat) (L1 : List Int) (A2 : Option Addr) (c2 : Nat) (L2 : List Int) (raw : Nat) (xk : ByteArray) (xo xs : Nat) (w : World) (hz : z < 256) (hraw : raw < 18446744073709551616) (hxk : small xk) (hxo : xo < 18446744073709551616) (hxs : xs < 18446744073709551616)
    (h1 : Rd w Nil 1 (.slice A1 L1.length c1) L1.length (iv L1)) (hL1 : L1.length ≤ 140737488355328) (h2 : Rd w Nil 1 (.slice A2 L2.length c2) L2.length (iv L2)) (hL2 : L2.length ≤ 140737488355328) :
    Spec Tryz.prog 3 [.int .u8 z, .slice A1 L1.length c1, .slice A2 L2.length c2, .int .u64 (raw : Int), .agg #[.string xk, .int .u64 (xo : Int), .int .u64 (xs : Int)]] w Nil fun r _ => r = .bool true := by
  obtain ⟨A', c', e, hxl, hxc, hxA⟩ := id h2
  injection e with e1 _ e3
  subst e1; subst e3
  refine enter (n := 203) Tryz.func3 rfl rfl [(0, _), (1, _), (2, _), (3, _), (4, _)] rfl ⟨rfl, rfl, rfl, rfl, rfl, trivial⟩ (Holds.start _ _) ?_
  refine w_seq ?_
  refine w_reg ?_
  refine wl_e (e_box (cs := [_, _, _]) rfl rfl) ?_
  rintro _ _ w0_0 ⟨b0_0, rfl, rfl⟩
  refine wl_f (f_assign rfl) ?_
  refine wl_end [(0, _), (1, _), (2, _), (3, _), (9, _)] ⟨rfl, rfl, rfl, rfl, rfl, trivial⟩ ?_
  refine w_seq ?_
  refine w_reg ?_
  refine wl_f (f_move rfl) ?_
  refine wl_f (f_convi rfl Tryz.underlying5 Tryz.underlying3 (by omega)) ?_
  refine wl_f (f_rem rfl rfl (by omega)) ?_
  refine wl_f (f_eqv (v' := .int .i64 ((1 + z % 5 : Nat) : Int)) (f_add rfl rfl (by omega)) (by congr 1)) ?_
  obtain ⟨m, hm, hm1, hm6⟩ : ∃ m, 1 + z % 5 = m ∧ 1 ≤ m ∧ m ≤ 5 := ⟨_, rfl, by omega, by omega⟩
  rw [hm]
  refine wl_f (f_assign rfl) ?_
  refine wl_end [(1, _), (2, _), (3, _), (9, _), (11, _)] ⟨rfl, rfl, rfl, rfl, rfl, trivial⟩ ?_
  refine w_seq ?_
  refine w_reg ?_
  refine wl_f (f_move rfl) ?_
  refine wl_e (e_call0 rfl Tryz.func4 (by kernel_rfl) (fun w hh => svnew_ok m w hm1 (by omega))) ?_
  rintro _ _ w1 ⟨_, rfl, t, r0, rfl, rfl, hr0⟩
  refine wl_f (f_move rfl) ?_
  refine wl_f (f_extract rfl rfl) ?_
  refine wl_f (f_extract rfl rfl) ?_
  refine wl_f (f_assign rfl) ?_
  refine wl_f (f_assign rfl) ?_
  refine wl_end [(1, _), (2, _), (3, _), (9, _), (11, _), (12, _), (13, _)] ⟨rfl, rfl, rfl, rfl, rfl, rfl, rfl, trivial⟩ ?_
  refine w_seq ?_
  refine w_reg ?_
  refine wl_f (f_move rfl) ?_
  refine wl_e (e_call0 rfl Tryz.func5 (by kernel_rfl) (fun w hh => rtnew_ok 1 m w (.inl rfl) hm1 (by omega))) ?_
  rintro _ _ w2 ⟨_, rfl, q, rq0, rfl, rfl, hq0⟩
  refine wl_f (f_move rfl) ?_
  refine wl_f (f_extract rfl rfl) ?_
  refine wl_f (f_extract rfl rfl) ?_
  refine wl_f (f_assign rfl) ?_
  refine wl_f (f_assign rfl) ?_
  refine wl_end [(1, _), (2, _), (3, _), (9, _), (12, _), (13, _), (14, _), (15, _)] ⟨rfl, rfl, rfl, rfl, rfl, rfl, rfl, rfl, trivial⟩ ?_
  refine w_seq ?_
  refine w_seq ?_
  refine w_reg ?_
  refine wl_f (f_move rfl) ?_
  refine wl_f (f_neq rfl rfl) ?_
  refine wl_f (f_move rfl) ?_
  refine wl_or (j := 2) (c := false) 2 [(1, _), (2, _), (3, _), (9, _), (12, _), (14, _)] ⟨rfl, rfl, rfl, rfl, rfl, rfl, trivial⟩ rfl rfl rfl rfl rfl (fun hg4_5 => ?_) (fun w4_5 => ?_)
  · skip
    refine wl_gf rfl rfl (f_move rfl) ?_
    refine wl_gf rfl rfl (f_neq rfl rfl) ?_
    exact wl_pend rfl rfl ⟨rfl, rfl, rfl, rfl, rfl, rfl, trivial⟩ (List.Sublist.refl _)
  refine wl_f (f_move rfl) ?_
  refine wl_or (j := 6) (c := false) 2 [(1, _), (2, _), (3, _), (9, _), (12, _), (14, _)] ⟨rfl, rfl, rfl, rfl, rfl, rfl, trivial⟩ rfl rfl rfl rfl rfl (fun hg4_9 => ?_) (fun w4_9 => ?_)
  · skip
    refine wl_gf rfl rfl (f_move rfl) ?_
    refine wl_gf rfl rfl (f_eqlnil rfl rfl Tryz.underlying26) ?_
    exact wl_pend rfl rfl ⟨rfl, rfl, rfl, rfl, rfl, rfl, trivial⟩ (List.Sublist.refl _)
  refine wl_end [(1, _), (2, _), (3, _), (9, _), (12, _), (14, _), (56, _)] ⟨rfl, rfl, rfl, rfl, rfl, rfl, rfl, trivial⟩ ?_
  refine w_iff rfl ?_
  refine w_skip ?_
  refine w_seq ?_
  refine w_reg ?_
  refine wl_f (f_move rfl) ?_
  refine wl_e (e_call0 rfl Tryz.func6 (by kernel_rfl) (fun w hh => new_spec A1 L1.length c1 w)) ?_
  rintro _ _ w2 ⟨_, rfl, bd, rfl, rfl⟩
  refine wl_f (f_assign rfl) ?_
  refine wl_pick [2, 1, 0, 0] rfl ?_
  refine wl_end [(2, _), (3, _), (9, _), (12, _), (14, _), (16, _)] ⟨rfl, rfl, rfl, rfl, rfl, rfl, trivial⟩ ?_
  refine w_seq ?_
  refine w_seq ?_
  refine w_reg ?_
  refine wl_f (f_assign rfl) ?_
  refine wl_end [(2, _), (3, _), (9, _), (12, _), (14, _), (16, _), (17, _)] ⟨rfl, rfl, rfl, rfl, rfl, rfl, rfl, trivial⟩ ?_
  refine w_block ?_
  refine w_loop (fun kk m' H w' => ∃ (i : Nat) (E : List (Option En)) (o : Ord) (ded total : Nat) (r : Res) (l : List En) (rq : Res) (p : Nat), m' = [(2, .slice A2 L2.length c2), (3, .int .u64 (raw : Int)), (9, .pointer (some ⟨b0_0, 0, .none⟩)), (12, .pointer (some ⟨t, 0, .none⟩)), (14, .pointer (some ⟨q, 0, .none⟩)), (16, .pointer (some ⟨bd, 0, .none⟩)), (17, .int .i64 i)] ∧
    H = [r, rq, deck bd (.slice A1 L1.length c1) p, blk b0_0 [.string xk, .int .u64 (xo : Int), .int .u64 (xs : Int)] 25] ∧ SvR t m E o ded total r ∧ RtR q 1 m l ded total rq ∧ (BInv E ded total ∧ total ≤ 9223372036854775808) ∧ SRel E o l ∧ kk + i = 60 ∧ i ≤ L2.length ∧ p ≤ L1.length) 60
    ⟨0, _, _, 0, 0, r0, [], rq0, 0, rfl, rfl, hr0, hq0, ⟨BInv.new m, by omega⟩, SRel.new m, rfl, Nat.zero_le _, Nat.zero_le _⟩ ?_
  rintro kk _ _ w3 ⟨i, E, o, ded, total, r, l, rq, p, rfl, rfl, hr, hq, hI, hF, hkk, hiL, hp⟩
  refine w_seq ?_
  refine w_seq ?_
  refine w_reg ?_
  refine wl_f (f_move rfl) ?_
  refine wl_f (f_move rfl) ?_
  refine wl_f (f_len rfl Tryz.underlying22) ?_
  refine wl_f (f_lss rfl rfl) ?_
  refine wl_f (f_move rfl) ?_
  refine wl_and (j := 4) (c := decide ((i : Int) < 60)) 2 [(2, _), (3, _), (9, _), (12, _), (14, _), (16, _), (17, _)] ⟨rfl, rfl, rfl, rfl, rfl, rfl, rfl, trivial⟩ rfl rfl rfl rfl rfl (fun hg8_7 => ?_) (fun w8_7 => ?_)
  · skip
    refine wl_gf rfl rfl (f_move rfl) ?_
    refine wl_gf rfl rfl (f_lss rfl rfl) ?_
    exact wl_pend rfl rfl ⟨rfl, rfl, rfl, rfl, rfl, rfl, rfl, trivial⟩ (List.Sublist.refl _)
  refine wl_end [(2, _), (3, _), (9, _), (12, _), (14, _), (16, _), (17, _), (66, _)] ⟨rfl, rfl, rfl, rfl, rfl, rfl, rfl, rfl, trivial⟩ ?_
  refine w_ifb rfl (fun hc2 => ?_) (fun hc2 => ?_)
  · skip
    simp only [Bool.and_eq_true, decide_eq_true_eq] at hc2
    have hi : i < L2.length := by omega
    obtain ⟨s, hsi⟩ : ∃ s, L2[i]? = some s := ⟨_, List.getElem?_eq_getElem hi⟩
    obtain ⟨b2, off, rfl, _, _, hcell⟩ := hxA.resolve_left (by omega)
    refine w_skip ?_
    refine w_seq ?_
    refine w_block ?_
    refine w_seq ?_
    refine w_reg ?_
    refine wl_f (f_move rfl) ?_
    refine wl_f (f_move rfl) ?_
    refine wl_f (f_indexAddr 1 (i := i) rfl rfl Tryz.underlying22 (by kernel_rfl) rfl hi) ?_
    refine wl_f (f_loado (v := .int .i64 s) rfl Tryz.underlying3 rfl (hcell _ _ (by simp [iv, hsi])) id) ?_
    refine wl_f (f_assign rfl) ?_
    refine wl_end [(2, _), (3, _), (9, _), (12, _), (14, _), (16, _), (17, _), (18, _)] ⟨rfl, rfl, rfl, rfl, rfl, rfl, rfl, rfl, trivial⟩ ?_
    refine w_seq ?_
    refine w_reg ?_
    refine wl_f (f_move rfl) ?_
    refine wl_e (e_call1 (deck bd (.slice A1 L1.length c1) p) [_, _, _] rfl Tryz.func7 (by kernel_rfl) (pk1 2 rfl) (fun w hh hs' => short3_spec bd _ L1 p w ⟨h1.old1 hh (pk1 2 rfl), hL1, hp⟩ hs')) ?_
    rintro _ _ w4 ⟨_, rfl, k0, p2, rfl, hk3, rfl, hp2⟩
    refine wl_f (f_assign rfl) ?_
    refine wl_pick [1, 1, 0, 0] rfl ?_
    refine wl_end [(2, _), (3, _), (9, _), (12, _), (14, _), (16, _), (17, _), (18, _), (19, _)] ⟨rfl, rfl, rfl, rfl, rfl, rfl, rfl, rfl, rfl, trivial⟩ ?_
    refine w_seq ?_
    refine w_seq ?_
    refine w_reg ?_
    refine wl_f (f_move rfl) ?_
    refine wl_f (f_shr rfl rfl (by omega) rfl) ?_
    refine wl_f (f_and rfl rfl rfl) ?_
    refine wl_f (f_eql rfl rfl) ?_
    refine wl_end [(2, _), (3, _), (9, _), (12, _), (14, _), (16, _), (17, _), (18, _), (19, _), (78, _)] ⟨rfl, rfl, rfl, rfl, rfl, rfl, rfl, rfl, rfl, rfl, trivial⟩ ?_
    refine w_post (fun m' H w' => ∃ key : ByteArray, m' = [(2, .slice (some ⟨b2, off, .none⟩) L2.length c2), (3, .int .u64 (raw : Int)), (9, .pointer (some ⟨b0_0, 0, .none⟩)), (12, .pointer (some ⟨t, 0, .none⟩)), (14, .pointer (some ⟨q, 0, .none⟩)), (16, .pointer (some ⟨bd, 0, .none⟩)), (17, .int .i64 i), (18, .int .i64 s), (19, .string key)] ∧
      H = [r, rq, deck bd (.slice A1 L1.length c1) p2, blk b0_0 [.string xk, .int .u64 (xo : Int), .int .u64 (xs : Int)] 25] ∧ small key) ?_ ?_
    · skip
      refine w_ifd rfl (fun hc3 => ?_) (fun hc3 => ?_)
      · skip
        refine w_reg ?_
        refine wl_f (f_assign rfl) ?_
        refine wl_end [(2, _), (3, _), (9, _), (12, _), (14, _), (16, _), (17, _), (18, _), (19, _)] ⟨rfl, rfl, rfl, rfl, rfl, rfl, rfl, rfl, rfl, trivial⟩ ?_
        exact ⟨ByteArray.empty, rfl, rfl, small_of (by decide)⟩
      · skip
        refine w_sub [(2, _), (3, _), (9, _), (12, _), (14, _), (16, _), (17, _), (18, _), (19, _)] ⟨rfl, rfl, rfl, rfl, rfl, rfl, rfl, rfl, rfl, trivial⟩ (w_skip ?_)
        exact ⟨k0, rfl, rfl, small_of (by omega)⟩
    · clear hk3
      rintro _ _ w9 ⟨key, rfl, rfl, hks⟩
      refine w_seq ?_
      refine w_seq ?_
      refine w_reg ?_
      refine wl_f (f_move rfl) ?_
      refine wl_f (f_and rfl rfl rfl) ?_
      generalize bits .and .i64 s 15 = s15
      refine wl_end [(2, _), (3, _), (9, _), (12, _), (14, _), (16, _), (17, _), (18, _), (19, _), (80, _)] ⟨rfl, rfl, rfl, rfl, rfl, rfl, rfl, rfl, rfl, rfl, trivial⟩ ?_
      refine w_post (fun m' H w' => ∃ (E : List (Option En)) (o : Ord) (ded total : Nat) (r : Res) (l : List En) (rq : Res) (p : Nat), m' = [(2, .slice (some ⟨b2, off, .none⟩) L2.length c2), (3, .int .u64 (raw : Int)), (9, .pointer (some ⟨b0_0, 0, .none⟩)), (12, .pointer (some ⟨t, 0, .none⟩)), (14, .pointer (some ⟨q, 0, .none⟩)), (16, .pointer (some ⟨bd, 0, .none⟩)), (17, .int .i64 i), (19, .string key)] ∧
        H = [r, rq, deck bd (.slice A1 L1.length c1) p, blk b0_0 [.string xk, .int .u64 (xo : Int), .int .u64 (xs : Int)] 25] ∧ SvR t m E o ded total r ∧ RtR q 1 m l ded total rq ∧ (BInv E ded total ∧ total ≤ 9223372036854775808) ∧ SRel E o l ∧ p ≤ L1.length) ?_ ?_
      · skip
        refine w_block ?_
        refine w_seq ?_
        refine w_seq ?_
        refine w_reg ?_
        refine wl_f (f_eql rfl rfl) ?_
        refine wl_f (f_assign rfl) ?_
        refine wl_end [(2, _), (3, _), (9, _), (12, _), (14, _), (16, _), (17, _), (18, _), (19, _), (80, _), (94, _)] ⟨rfl, rfl, rfl, rfl, rfl, rfl, rfl, rfl, rfl, rfl, rfl, trivial⟩ ?_
        refine w_post (fun m' H w' => ∃ bb : Bool, m' = [(2, .slice (some ⟨b2, off, .none⟩) L2.length c2), (3, .int .u64 (raw : Int)), (9, .pointer (some ⟨b0_0, 0, .none⟩)), (12, .pointer (some ⟨t, 0, .none⟩)), (14, .pointer (some ⟨q, 0, .none⟩)), (16, .pointer (some ⟨bd, 0, .none⟩)), (17, .int .i64 i), (18, .int .i64 s), (19, .string key), (80, .int .i64 s15), (94, .bool bb)] ∧ H = [r, rq, deck bd (.slice A1 L1.length c1) p2, blk b0_0 [.string xk, .int .u64 (xo : Int), .int .u64 (xs : Int)] 25]) ?_ ?_
        · skip
          refine w_ifd rfl (fun hc4 => ?_) (fun hc4 => ?_)
          · skip
            refine w_sub [(2, _), (3, _), (9, _), (12, _), (14, _), (16, _), (17, _), (18, _), (19, _), (80, _), (94, _)] ⟨rfl, rfl, rfl, rfl, rfl, rfl, rfl, rfl, rfl, rfl, rfl, trivial⟩ (w_skip ?_)
            exact ⟨_, rfl, rfl⟩
          · skip
            refine w_reg ?_
            refine wl_f (f_eql rfl rfl) ?_
            refine wl_f (f_assign rfl) ?_
            refine wl_end [(2, _), (3, _), (9, _), (12, _), (14, _), (16, _), (17, _), (18, _), (19, _), (80, _), (94, _)] ⟨rfl, rfl, rfl, rfl, rfl, rfl, rfl, rfl, rfl, rfl, rfl, trivial⟩ ?_
            exact ⟨_, rfl, rfl⟩
        · rintro _ _ w10 ⟨bb, rfl, rfl⟩
          have hf := hr.fact
          obtain ⟨hll, hdt, hlt, hT⟩ := hF.rdy hf hI.1 hm1 hI.2
          have htt := hI.2
          refine w_ifb rfl (fun hc5 => ?_) (fun hc5 => ?_)
          · skip
            refine w_seq ?_
            refine w_reg ?_
            refine wl_f (f_move rfl) ?_
            refine wl_f (f_move rfl) ?_
            refine wl_e (e_call1 r [_, _, _] rfl Tryz.func11 (by kernel_rfl) (List.Perm.refl _) (fun w hh hs => svtake_spec t m E ded total key r w hks hr hs)) ?_
            rintro _ _ w5 ⟨_, rfl, hGt, r1, E1, o1, rfl, hr1, hTk⟩
            obtain ⟨k', o', s', is, rfl, _, _⟩ := hGt.form
            refine wl_f (f_move rfl) ?_
            refine wl_f (f_extract rfl rfl) ?_
            refine wl_f (f_extract rfl rfl) ?_
            refine wl_e (e_allocs [.string ByteArray.empty, .int .u64 0, .int .u64 0] (by kernel_rfl)) ?_
            rintro _ _ w19_6 ⟨b19_6, rfl, rfl⟩
            (first | refine wl_e0 (e_store0 (us := [_, _, _]) rfl rfl rfl (by kernel_rfl) (by simp [Value.oneCell']) rfl rfl) ?_ | refine wl_e0 (e_store1 (us := [_, _, _]) rfl rfl rfl (by kernel_rfl) (by simp [Value.oneCell']) rfl rfl) ?_ | refine wl_e0 (e_store2 (us := [_, _, _]) rfl rfl rfl (by kernel_rfl) (by simp [Value.oneCell']) rfl rfl) ?_ | refine wl_e0 (e_store3 (us := [_, _, _]) rfl rfl rfl (by kernel_rfl) (by simp [Value.oneCell']) rfl rfl) ?_)
            rintro _ _ w19_7 rfl
            refine wl_f (f_assign rfl) ?_
            refine wl_end [(2, _), (3, _), (9, _), (12, _), (14, _), (16, _), (17, _), (19, _), (20, _), (21, _)] ⟨rfl, rfl, rfl, rfl, rfl, rfl, rfl, rfl, rfl, rfl, trivial⟩ ?_
            refine w_seq ?_
            refine w_reg ?_
            refine wl_f (f_move rfl) ?_
            refine wl_f (f_move rfl) ?_
            refine wl_e (e_call1 rq [_, _, _, _] rfl Tryz.func12 (by kernel_rfl) (pk1 2 rfl) (fun w hh hs => rtake_spec q 1 m l ded total rq key w (by omega) hq hs)) ?_
            rintro _ _ w6 ⟨_, rfl, k2, o2, s2, is2, l1, rq1, rfl, hG, rfl, hq1, hT⟩
            obtain ⟨rfl, rfl, rfl, rfl⟩ := tup_inj (hF.get hf hGt hG)
            refine wl_f (f_move rfl) ?_
            refine wl_f (f_extract rfl rfl) ?_
            refine wl_f (f_extract rfl rfl) ?_
            refine wl_e (e_allocs [.string ByteArray.empty, .int .u64 0, .int .u64 0] (by kernel_rfl)) ?_
            rintro _ _ w20_6 ⟨b20_6, rfl, rfl⟩
            (first | refine wl_e0 (e_store0 (us := [_, _, _]) rfl rfl rfl (by kernel_rfl) (by simp [Value.oneCell']) rfl rfl) ?_ | refine wl_e0 (e_store1 (us := [_, _, _]) rfl rfl rfl (by kernel_rfl) (by simp [Value.oneCell']) rfl rfl) ?_ | refine wl_e0 (e_store2 (us := [_, _, _]) rfl rfl rfl (by kernel_rfl) (by simp [Value.oneCell']) rfl rfl) ?_ | refine wl_e0 (e_store3 (us := [_, _, _]) rfl rfl rfl (by kernel_rfl) (by simp [Value.oneCell']) rfl rfl) ?_)
            rintro _ _ w20_7 rfl
            refine wl_f (f_assign rfl) ?_
            refine wl_end [(2, _), (3, _), (9, _), (12, _), (14, _), (16, _), (17, _), (19, _), (20, _), (21, _), (22, _), (23, _)] ⟨rfl, rfl, rfl, rfl, rfl, rfl, rfl, rfl, rfl, rfl, rfl, rfl, trivial⟩ ?_
            refine w_seq ?_
            refine w_reg ?_
            (first | refine wl_f (f_loadsb (cs := [_, _, _]) 0 rfl Tryz.underlying25 rfl (by kernel_rfl) rfl rfl) ?_ | refine wl_f (f_loadsb (cs := [_, _, _]) 1 rfl Tryz.underlying25 rfl (by kernel_rfl) rfl rfl) ?_ | refine wl_f (f_loadsb (cs := [_, _, _]) 2 rfl Tryz.underlying25 rfl (by kernel_rfl) rfl rfl) ?_ | refine wl_f (f_loadsb (cs := [_, _, _]) 3 rfl Tryz.underlying25 rfl (by kernel_rfl) rfl rfl) ?_ | refine wl_f (f_loadsb (cs := [_, _, _]) 4 rfl Tryz.underlying25 rfl (by kernel_rfl) rfl rfl) ?_ | refine wl_f (f_loadsb (cs := [_, _, _]) 5 rfl Tryz.underlying25 rfl (by kernel_rfl) rfl rfl) ?_ | refine wl_f (f_loadsb (cs := [_, _, _]) 6 rfl Tryz.underlying25 rfl (by kernel_rfl) rfl rfl) ?_)
            (first | refine wl_f (f_loadsb (cs := [_, _, _]) 0 rfl Tryz.underlying25 rfl (by kernel_rfl) rfl rfl) ?_ | refine wl_f (f_loadsb (cs := [_, _, _]) 1 rfl Tryz.underlying25 rfl (by kernel_rfl) rfl rfl) ?_ | refine wl_f (f_loadsb (cs := [_, _, _]) 2 rfl Tryz.underlying25 rfl (by kernel_rfl) rfl rfl) ?_ | refine wl_f (f_loadsb (cs := [_, _, _]) 3 rfl Tryz.underlying25 rfl (by kernel_rfl) rfl rfl) ?_ | refine wl_f (f_loadsb (cs := [_, _, _]) 4 rfl Tryz.underlying25 rfl (by kernel_rfl) rfl rfl) ?_ | refine wl_f (f_loadsb (cs := [_, _, _]) 5 rfl Tryz.underlying25 rfl (by kernel_rfl) rfl rfl) ?_ | refine wl_f (f_loadsb (cs := [_, _, _]) 6 rfl Tryz.underlying25 rfl (by kernel_rfl) rfl rfl) ?_)
            refine wl_f (f_eqv (v' := .bool false) (f_bin rfl rfl (fun w => run_eqGuard_agg w _ _ _ _ _ _ (by kernel_rfl)) (fun w => neqEn _ _ _ _ _ _ w)) (by simp)) ?_
            refine wl_f (f_move rfl) ?_
            refine wl_or (j := 3) (c := false) 3 [(2, _), (3, _), (9, _), (12, _), (14, _), (16, _), (17, _), (19, _)] ⟨rfl, rfl, rfl, rfl, rfl, rfl, rfl, rfl, trivial⟩ rfl rfl rfl rfl rfl (fun hg21_7 => ?_) (fun w21_7 => ?_)
            · skip
              refine wl_gf rfl rfl (f_move rfl) ?_
              refine wl_gf rfl rfl (f_move rfl) ?_
              refine wl_gf rfl rfl (f_eqv (v' := .bool false) (f_neqb rfl rfl Tryz.underlying4) (by simp)) ?_
              exact wl_pend rfl rfl ⟨rfl, rfl, rfl, rfl, rfl, rfl, rfl, rfl, trivial⟩ (List.Sublist.refl _)
            refine wl_pick [3, 1, 2, 2] rfl ?_
            refine wl_end [(2, _), (3, _), (9, _), (12, _), (14, _), (16, _), (17, _), (19, _), (116, _)] ⟨rfl, rfl, rfl, rfl, rfl, rfl, rfl, rfl, rfl, trivial⟩ ?_
            refine w_iff rfl ?_
            refine w_sub [(2, _), (3, _), (9, _), (12, _), (14, _), (16, _), (17, _), (19, _)] ⟨rfl, rfl, rfl, rfl, rfl, rfl, rfl, rfl, trivial⟩ (w_skip ?_)
            have hB1 : BInv E1 ded total := by
              rcases hTk with ⟨j, oj, sj, hj, rfl, _⟩ | ⟨_, rfl, _⟩
              · exact hI.1.drop hj
              · exact hI.1
            exact ⟨E1, o1, ded, total, r1, l1, rq1, p2, rfl, rfl, hr1, hq1, ⟨hB1, hI.2⟩, hF.take (base := ded) hf hTk hT, hp2⟩
          · skip
            refine w_seq ?_
            refine w_seq ?_
            refine w_reg ?_
            refine wl_f (f_eql rfl rfl) ?_
            refine wl_f (f_assign rfl) ?_
            refine wl_end [(2, _), (3, _), (9, _), (12, _), (14, _), (16, _), (17, _), (18, _), (19, _), (80, _), (117, _)] ⟨rfl, rfl, rfl, rfl, rfl, rfl, rfl, rfl, rfl, rfl, rfl, trivial⟩ ?_
            refine w_post (fun m' H w' => ∃ bb : Bool, m' = [(2, .slice (some ⟨b2, off, .none⟩) L2.length c2), (3, .int .u64 (raw : Int)), (9, .pointer (some ⟨b0_0, 0, .none⟩)), (12, .pointer (some ⟨t, 0, .none⟩)), (14, .pointer (some ⟨q, 0, .none⟩)), (16, .pointer (some ⟨bd, 0, .none⟩)), (17, .int .i64 i), (18, .int .i64 s), (19, .string key), (117, .bool bb)] ∧ H = [r, rq, deck bd (.slice A1 L1.length c1) p2, blk b0_0 [.string xk, .int .u64 (xo : Int), .int .u64 (xs : Int)] 25]) ?_ ?_
            · skip
              refine w_ifd rfl (fun hc7 => ?_) (fun hc7 => ?_)
              · skip
                refine w_sub [(2, _), (3, _), (9, _), (12, _), (14, _), (16, _), (17, _), (18, _), (19, _), (117, _)] ⟨rfl, rfl, rfl, rfl, rfl, rfl, rfl, rfl, rfl, rfl, trivial⟩ (w_skip ?_)
                exact ⟨_, rfl, rfl⟩
              · skip
                refine w_seq ?_
                refine w_reg ?_
                refine wl_f (f_eql rfl rfl) ?_
                refine wl_f (f_assign rfl) ?_
                refine wl_end [(2, _), (3, _), (9, _), (12, _), (14, _), (16, _), (17, _), (18, _), (19, _), (80, _), (117, _)] ⟨rfl, rfl, rfl, rfl, rfl, rfl, rfl, rfl, rfl, rfl, rfl, trivial⟩ ?_
                refine w_ifd rfl (fun hc8 => ?_) (fun hc8 => ?_)
                · skip
                  refine w_sub [(2, _), (3, _), (9, _), (12, _), (14, _), (16, _), (17, _), (18, _), (19, _), (117, _)] ⟨rfl, rfl, rfl, rfl, rfl, rfl, rfl, rfl, rfl, rfl, trivial⟩ (w_skip ?_)
                  exact ⟨_, rfl, rfl⟩
                · skip
                  refine w_reg ?_
                  refine wl_f (f_eql rfl rfl) ?_
                  refine wl_f (f_assign rfl) ?_
                  refine wl_end [(2, _), (3, _), (9, _), (12, _), (14, _), (16, _), (17, _), (18, _), (19, _), (117, _)] ⟨rfl, rfl, rfl, rfl, rfl, rfl, rfl, rfl, rfl, rfl, trivial⟩ ?_
                  exact ⟨_, rfl, rfl⟩
            · rintro _ _ w10 ⟨bb, rfl, rfl⟩
              refine w_ifb rfl (fun hc9 => ?_) (fun hc9 => ?_)
              · skip
                refine w_seq ?_
                refine w_reg ?_
                refine wl_f (f_move rfl) ?_
                refine wl_e (e_call1 (deck bd (.slice A1 L1.length c1) p2) [_, _, _] rfl Tryz.func13 (by kernel_rfl) (pk1 2 rfl) (fun w hh hs' => entry_spec bd _ L1 p2 w ⟨h1.old1 hh (pk1 2 rfl), hL1, hp2⟩ hs')) ?_
                rintro _ _ w5 ⟨_, rfl, yk0, yo0, ys0, p3, rfl, hy3, hyo0, hys0, rfl, hp3⟩
                refine wl_e (e_allocs [.string ByteArray.empty, .int .u64 0, .int .u64 0] (by kernel_rfl)) ?_
                rintro _ _ w26_2 ⟨b26_2, rfl, rfl⟩
                (first | refine wl_e0 (e_store0 (us := [_, _, _]) rfl rfl rfl (by kernel_rfl) (by simp [Value.oneCell']) rfl rfl) ?_ | refine wl_e0 (e_store1 (us := [_, _, _]) rfl rfl rfl (by kernel_rfl) (by simp [Value.oneCell']) rfl rfl) ?_ | refine wl_e0 (e_store2 (us := [_, _, _]) rfl rfl rfl (by kernel_rfl) (by simp [Value.oneCell']) rfl rfl) ?_ | refine wl_e0 (e_store3 (us := [_, _, _]) rfl rfl rfl (by kernel_rfl) (by simp [Value.oneCell']) rfl rfl) ?_)
                rintro _ _ w26_3 rfl
                refine wl_end [(2, _), (3, _), (9, _), (12, _), (14, _), (16, _), (17, _), (18, _), (19, _), (24, _)] ⟨rfl, rfl, rfl, rfl, rfl, rfl, rfl, rfl, rfl, rfl, trivial⟩ ?_
                refine w_seq ?_
                refine w_seq ?_
                refine w_reg ?_
                refine wl_f (f_move rfl) ?_
                refine wl_f (f_shr rfl rfl (by omega) rfl) ?_
                refine wl_f (f_and rfl rfl rfl) ?_
                refine wl_f (f_eql rfl rfl) ?_
                refine wl_end [(2, _), (3, _), (9, _), (12, _), (14, _), (16, _), (17, _), (19, _), (24, _), (126, _)] ⟨rfl, rfl, rfl, rfl, rfl, rfl, rfl, rfl, rfl, rfl, trivial⟩ ?_
                refine w_post (fun m' H w' => ∃ (yk : ByteArray) (yo ys : Nat), m' = [(2, .slice (some ⟨b2, off, .none⟩) L2.length c2), (3, .int .u64 (raw : Int)), (9, .pointer (some ⟨b0_0, 0, .none⟩)), (12, .pointer (some ⟨t, 0, .none⟩)), (14, .pointer (some ⟨q, 0, .none⟩)), (16, .pointer (some ⟨bd, 0, .none⟩)), (17, .int .i64 i), (19, .string key), (24, .pointer (some ⟨b26_2, 0, .none⟩))] ∧ H = [blk b26_2 [.string yk, .int .u64 (yo : Int), .int .u64 (ys : Int)] 25, deck bd (.slice A1 L1.length c1) p3, r, rq, blk b0_0 [.string xk, .int .u64 (xo : Int), .int .u64 (xs : Int)] 25] ∧ small yk ∧ yo < 18446744073709551616 ∧ ys < 18446744073709551616) ?_ ?_
                · skip
                  refine w_ifd rfl (fun hc10 => ?_) (fun hc10 => ?_)
                  · skip
                    refine w_reg ?_
                    (first | refine wl_f (f_loadsb (cs := [_, _, _]) 0 rfl Tryz.underlying25 rfl (by kernel_rfl) rfl rfl) ?_ | refine wl_f (f_loadsb (cs := [_, _, _]) 1 rfl Tryz.underlying25 rfl (by kernel_rfl) rfl rfl) ?_ | refine wl_f (f_loadsb (cs := [_, _, _]) 2 rfl Tryz.underlying25 rfl (by kernel_rfl) rfl rfl) ?_ | refine wl_f (f_loadsb (cs := [_, _, _]) 3 rfl Tryz.underlying25 rfl (by kernel_rfl) rfl rfl) ?_ | refine wl_f (f_loadsb (cs := [_, _, _]) 4 rfl Tryz.underlying25 rfl (by kernel_rfl) rfl rfl) ?_ | refine wl_f (f_loadsb (cs := [_, _, _]) 5 rfl Tryz.underlying25 rfl (by kernel_rfl) rfl rfl) ?_ | refine wl_f (f_loadsb (cs := [_, _, _]) 6 rfl Tryz.underlying25 rfl (by kernel_rfl) rfl rfl) ?_)
                    (first | refine wl_e0 (e_store0 (us := [_, _, _]) rfl rfl rfl (by kernel_rfl) (by simp [Value.oneCell']) rfl rfl) ?_ | refine wl_e0 (e_store1 (us := [_, _, _]) rfl rfl rfl (by kernel_rfl) (by simp [Value.oneCell']) rfl rfl) ?_ | refine wl_e0 (e_store2 (us := [_, _, _]) rfl rfl rfl (by kernel_rfl) (by simp [Value.oneCell']) rfl rfl) ?_ | refine wl_e0 (e_store3 (us := [_, _, _]) rfl rfl rfl (by kernel_rfl) (by simp [Value.oneCell']) rfl rfl) ?_)
                    rintro _ _ w28_1 rfl
                    refine wl_end [(2, _), (3, _), (9, _), (12, _), (14, _), (16, _), (17, _), (19, _), (24, _)] ⟨rfl, rfl, rfl, rfl, rfl, rfl, rfl, rfl, rfl, trivial⟩ ?_
                    exact ⟨xk, xo, xs, rfl, rfl, hxk, hxo, hxs⟩
                  · skip
                    refine w_sub [(2, _), (3, _), (9, _), (12, _), (14, _), (16, _), (17, _), (19, _), (24, _)] ⟨rfl, rfl, rfl, rfl, rfl, rfl, rfl, rfl, rfl, trivial⟩ (w_skip ?_)
                    exact ⟨yk0, yo0, ys0, rfl, rfl, small_of (by omega), by omega, by omega⟩
                · rintro _ _ w11 ⟨yk, yo, ys, rfl, rfl, hyk, hyo, hys⟩
                  refine w_seq ?_
                  refine w_reg ?_
                  refine wl_f (f_move rfl) ?_
                  refine wl_f (f_move rfl) ?_
                  (first | refine wl_f (f_loadsb (cs := [_, _, _]) 0 rfl Tryz.underlying25 rfl (by kernel_rfl) rfl rfl) ?_ | refine wl_f (f_loadsb (cs := [_, _, _]) 1 rfl Tryz.underlying25 rfl (by kernel_rfl) rfl rfl) ?_ | refine wl_f (f_loadsb (cs := [_, _, _]) 2 rfl Tryz.underlying25 rfl (by kernel_rfl) rfl rfl) ?_ | refine wl_f (f_loadsb (cs := [_, _, _]) 3 rfl Tryz.underlying25 rfl (by kernel_rfl) rfl rfl) ?_ | refine wl_f (f_loadsb (cs := [_, _, _]) 4 rfl Tryz.underlying25 rfl (by kernel_rfl) rfl rfl) ?_ | refine wl_f (f_loadsb (cs := [_, _, _]) 5 rfl Tryz.underlying25 rfl (by kernel_rfl) rfl rfl) ?_ | refine wl_f (f_loadsb (cs := [_, _, _]) 6 rfl Tryz.underlying25 rfl (by kernel_rfl) rfl rfl) ?_)
                  refine wl_e (e_call1 r [_, _, _, _] rfl Tryz.func14 (by kernel_rfl) (pk1 2 rfl) (fun w hh hs => svswap_spec t m E ded total key yk yo ys r w hks hyk hyo hys hT hI.1.ge hr hs)) ?_
                  rintro _ _ w12 ⟨_, rfl, r1, E1, o1, rfl, hr1, hS, hSL⟩
                  obtain ⟨k', o', s', e', rfl⟩ := hS.form
                  refine wl_f (f_move rfl) ?_
                  refine wl_f (f_extract rfl rfl) ?_
                  refine wl_f (f_extract rfl rfl) ?_
                  refine wl_e (e_allocs [.string ByteArray.empty, .int .u64 0, .int .u64 0] (by kernel_rfl)) ?_
                  rintro _ _ w29_7 ⟨b29_7, rfl, rfl⟩
                  (first | refine wl_e0 (e_store0 (us := [_, _, _]) rfl rfl rfl (by kernel_rfl) (by simp [Value.oneCell']) rfl rfl) ?_ | refine wl_e0 (e_store1 (us := [_, _, _]) rfl rfl rfl (by kernel_rfl) (by simp [Value.oneCell']) rfl rfl) ?_ | refine wl_e0 (e_store2 (us := [_, _, _]) rfl rfl rfl (by kernel_rfl) (by simp [Value.oneCell']) rfl rfl) ?_ | refine wl_e0 (e_store3 (us := [_, _, _]) rfl rfl rfl (by kernel_rfl) (by simp [Value.oneCell']) rfl rfl) ?_)
                  rintro _ _ w29_8 rfl
                  refine wl_f (f_assign rfl) ?_
                  refine wl_end [(2, _), (3, _), (9, _), (12, _), (14, _), (16, _), (17, _), (19, _), (24, _), (25, _), (26, _)] ⟨rfl, rfl, rfl, rfl, rfl, rfl, rfl, rfl, rfl, rfl, rfl, trivial⟩ ?_
                  refine w_seq ?_
                  refine w_reg ?_
                  refine wl_f (f_move rfl) ?_
                  refine wl_f (f_move rfl) ?_
                  (first | refine wl_f (f_loadsb (cs := [_, _, _]) 0 rfl Tryz.underlying25 rfl (by kernel_rfl) rfl rfl) ?_ | refine wl_f (f_loadsb (cs := [_, _, _]) 1 rfl Tryz.underlying25 rfl (by kernel_rfl) rfl rfl) ?_ | refine wl_f (f_loadsb (cs := [_, _, _]) 2 rfl Tryz.underlying25 rfl (by kernel_rfl) rfl rfl) ?_ | refine wl_f (f_loadsb (cs := [_, _, _]) 3 rfl Tryz.underlying25 rfl (by kernel_rfl) rfl rfl) ?_ | refine wl_f (f_loadsb (cs := [_, _, _]) 4 rfl Tryz.underlying25 rfl (by kernel_rfl) rfl rfl) ?_ | refine wl_f (f_loadsb (cs := [_, _, _]) 5 rfl Tryz.underlying25 rfl (by kernel_rfl) rfl rfl) ?_ | refine wl_f (f_loadsb (cs := [_, _, _]) 6 rfl Tryz.underlying25 rfl (by kernel_rfl) rfl rfl) ?_)
                  refine wl_e (e_call1 rq [_, _, _, _, _] rfl Tryz.func15 (by kernel_rfl) (pk1 4 rfl) (fun w hh hs => rsswap_spec q m l ded total rq key yk yo ys w (by omega) hyo (by omega) (fun z hz => by have := hlt z hz; omega) hq hs)) ?_
                  rintro _ _ w13 ⟨_, rfl, l1, rq1, rfl, hq1, hS2⟩
                  obtain ⟨k2, o2, s2, e2, rfl⟩ := hS2.form
                  obtain ⟨heq, hF1⟩ := hF.swap hf hS hSL hS2
                  obtain ⟨rfl, rfl, rfl, rfl⟩ := tupe_inj heq
                  refine wl_f (f_move rfl) ?_
                  refine wl_f (f_extract rfl rfl) ?_
                  refine wl_f (f_extract rfl rfl) ?_
                  refine wl_e (e_allocs [.string ByteArray.empty, .int .u64 0, .int .u64 0] (by kernel_rfl)) ?_
                  rintro _ _ w30_7 ⟨b30_7, rfl, rfl⟩
                  (first | refine wl_e0 (e_store0 (us := [_, _, _]) rfl rfl rfl (by kernel_rfl) (by simp [Value.oneCell']) rfl rfl) ?_ | refine wl_e0 (e_store1 (us := [_, _, _]) rfl rfl rfl (by kernel_rfl) (by simp [Value.oneCell']) rfl rfl) ?_ | refine wl_e0 (e_store2 (us := [_, _, _]) rfl rfl rfl (by kernel_rfl) (by simp [Value.oneCell']) rfl rfl) ?_ | refine wl_e0 (e_store3 (us := [_, _, _]) rfl rfl rfl (by kernel_rfl) (by simp [Value.oneCell']) rfl rfl) ?_)
                  rintro _ _ w30_8 rfl
                  refine wl_f (f_assign rfl) ?_
                  refine wl_end [(2, _), (3, _), (9, _), (12, _), (14, _), (16, _), (17, _), (19, _), (25, _), (26, _), (27, _), (28, _)] ⟨rfl, rfl, rfl, rfl, rfl, rfl, rfl, rfl, rfl, rfl, rfl, rfl, trivial⟩ ?_
                  refine w_seq ?_
                  refine w_reg ?_
                  (first | refine wl_f (f_loadsb (cs := [_, _, _]) 0 rfl Tryz.underlying25 rfl (by kernel_rfl) rfl rfl) ?_ | refine wl_f (f_loadsb (cs := [_, _, _]) 1 rfl Tryz.underlying25 rfl (by kernel_rfl) rfl rfl) ?_ | refine wl_f (f_loadsb (cs := [_, _, _]) 2 rfl Tryz.underlying25 rfl (by kernel_rfl) rfl rfl) ?_ | refine wl_f (f_loadsb (cs := [_, _, _]) 3 rfl Tryz.underlying25 rfl (by kernel_rfl) rfl rfl) ?_ | refine wl_f (f_loadsb (cs := [_, _, _]) 4 rfl Tryz.underlying25 rfl (by kernel_rfl) rfl rfl) ?_ | refine wl_f (f_loadsb (cs := [_, _, _]) 5 rfl Tryz.underlying25 rfl (by kernel_rfl) rfl rfl) ?_ | refine wl_f (f_loadsb (cs := [_, _, _]) 6 rfl Tryz.underlying25 rfl (by kernel_rfl) rfl rfl) ?_)
                  (first | refine wl_f (f_loadsb (cs := [_, _, _]) 0 rfl Tryz.underlying25 rfl (by kernel_rfl) rfl rfl) ?_ | refine wl_f (f_loadsb (cs := [_, _, _]) 1 rfl Tryz.underlying25 rfl (by kernel_rfl) rfl rfl) ?_ | refine wl_f (f_loadsb (cs := [_, _, _]) 2 rfl Tryz.underlying25 rfl (by kernel_rfl) rfl rfl) ?_ | refine wl_f (f_loadsb (cs := [_, _, _]) 3 rfl Tryz.underlying25 rfl (by kernel_rfl) rfl rfl) ?_ | refine wl_f (f_loadsb (cs := [_, _, _]) 4 rfl Tryz.underlying25 rfl (by kernel_rfl) rfl rfl) ?_ | refine wl_f (f_loadsb (cs := [_, _, _]) 5 rfl Tryz.underlying25 rfl (by kernel_rfl) rfl rfl) ?_ | refine wl_f (f_loadsb (cs := [_, _, _]) 6 rfl Tryz.underlying25 rfl (by kernel_rfl) rfl rfl) ?_)
                  refine wl_f (f_eqv (v' := .bool false) (f_bin rfl rfl (fun w => run_eqGuard_agg w _ _ _ _ _ _ (by kernel_rfl)) (fun w => neqEn _ _ _ _ _ _ w)) (by simp)) ?_
                  refine wl_f (f_move rfl) ?_
                  refine wl_or (j := 3) (c := false) 3 [(2, _), (3, _), (9, _), (12, _), (14, _), (16, _), (17, _), (19, _)] ⟨rfl, rfl, rfl, rfl, rfl, rfl, rfl, rfl, trivial⟩ rfl rfl rfl rfl rfl (fun hg31_7 => ?_) (fun w31_7 => ?_)
                  · skip
                    refine wl_gf rfl rfl (f_move rfl) ?_
                    refine wl_gf rfl rfl (f_move rfl) ?_
                    refine wl_gf rfl rfl (f_eqv (v' := .bool false) (f_neq rfl rfl) (by simp)) ?_
                    exact wl_pend rfl rfl ⟨rfl, rfl, rfl, rfl, rfl, rfl, rfl, rfl, trivial⟩ (List.Sublist.refl _)
                  refine wl_pick [3, 1, 3, 3] rfl ?_
                  refine wl_end [(2, _), (3, _), (9, _), (12, _), (14, _), (16, _), (17, _), (19, _), (149, _)] ⟨rfl, rfl, rfl, rfl, rfl, rfl, rfl, rfl, rfl, trivial⟩ ?_
                  refine w_iff rfl ?_
                  refine w_sub [(2, _), (3, _), (9, _), (12, _), (14, _), (16, _), (17, _), (19, _)] ⟨rfl, rfl, rfl, rfl, rfl, rfl, rfl, rfl, trivial⟩ (w_skip ?_)
                  exact ⟨E1, o1, ded, total, r1, l1, rq1, p3, rfl, rfl, hr1, hq1, ⟨(hI.1.swap hS).1, hI.2⟩, hF1, hp3⟩
              · skip
                refine w_seq ?_
                refine w_reg ?_
                refine wl_f (f_move rfl) ?_
                refine wl_f (f_move rfl) ?_
                refine wl_f (f_move rfl) ?_
                refine wl_f (f_move rfl) ?_
                refine wl_e (e_call0 rfl Tryz.func9 (by kernel_rfl) (fun w hh => weight_spec s raw w)) ?_
                rintro _ _ w5 ⟨_, rfl, rfl, rfl⟩
                refine wl_e (e_call1 r [_, _, _] rfl Tryz.func8 (by kernel_rfl) (List.Perm.refl _) (fun w hh hs => svadd_spec t m E ded total key (wgt s raw) r w hks (wgt_lt s hraw) hT hr hs)) ?_
                rintro _ _ w6 ⟨_, rfl, e1, E1, o1, ded1, total1, r1, rfl, rfl, hr1, hA, hAL⟩
                refine wl_f (f_move rfl) ?_
                refine wl_f (f_move rfl) ?_
                refine wl_f (f_move rfl) ?_
                refine wl_f (f_move rfl) ?_
                refine wl_e (e_call0 rfl Tryz.func9 (by kernel_rfl) (fun w hh => weight_spec s raw w)) ?_
                rintro _ _ w7 ⟨_, rfl, rfl, rfl⟩
                refine wl_e (e_call1 rq [_, _, _] rfl Tryz.func10 (by kernel_rfl) (pk1 1 rfl) (fun w hh hs => rsadd_spec q m l ded total rq key (wgt s raw) w (by omega) hll hm1 hdt htt hlt hq hs)) ?_
                rintro _ _ w8 ⟨_, rfl, e2, l1, ded2, total2, rq1, rfl, rfl, hq1, hA2⟩
                have hEl := hf.len
                have htt1 : total1 ≤ 9223372036854775808 := by
                  rcases hA with ⟨_, _, _, rfl, _⟩ | ⟨_, _, _, h5, rfl, _⟩
                  · exact htt
                  · exact h5
                have hB1 := hI.1.add hEl hA
                obtain ⟨rfl, rfl, rfl, hF1⟩ := hF.add hf hA hAL hA2
                refine wl_f (f_neq rfl rfl) ?_
                refine wl_pick [1, 0, 0, 0] rfl ?_
                refine wl_end [(2, _), (3, _), (9, _), (12, _), (14, _), (16, _), (17, _), (19, _), (93, _)] ⟨rfl, rfl, rfl, rfl, rfl, rfl, rfl, rfl, rfl, trivial⟩ ?_
                refine w_ifd rfl (fun h => absurd rfl h) (fun _ => ?_)
                refine w_sub [(2, _), (3, _), (9, _), (12, _), (14, _), (16, _), (17, _), (19, _)] ⟨rfl, rfl, rfl, rfl, rfl, rfl, rfl, rfl, trivial⟩ (w_skip ?_)
                exact ⟨E1, o1, _, _, r1, l1, rq1, p2, rfl, rfl, hr1, hq1, ⟨hB1, htt1⟩, hF1, hp2⟩
      · clear hr hq hI hF hp2
        rintro _ _ w9 ⟨E, o, ded, total, r, l, rq, p, rfl, rfl, hr, hq, hI, hF, hp⟩
        have hf := hr.fact
        obtain ⟨hll, hdt, hlt, hT⟩ := hF.rdy hf hI.1 hm1 hI.2
        have htt := hI.2
        refine w_seq ?_
        refine w_reg ?_
        refine wl_f (f_move rfl) ?_
        refine wl_f (f_move rfl) ?_
        refine wl_e (e_call1 r [_, _, _] rfl Tryz.func16 (by kernel_rfl) (List.Perm.refl _) (fun w hh hs => svget_spec t m E ded total key r w hks hr hs)) ?_
        rintro _ _ w5 ⟨_, rfl, hGt, rfl⟩
        obtain ⟨k', o', s', is, rfl, _, _⟩ := hGt.form
        refine wl_f (f_move rfl) ?_
        refine wl_f (f_extract rfl rfl) ?_
        refine wl_f (f_extract rfl rfl) ?_
        refine wl_e (e_allocs [.string ByteArray.empty, .int .u64 0, .int .u64 0] (by kernel_rfl)) ?_
        rintro _ _ w33_6 ⟨b33_6, rfl, rfl⟩
        (first | refine wl_e0 (e_store0 (us := [_, _, _]) rfl rfl rfl (by kernel_rfl) (by simp [Value.oneCell']) rfl rfl) ?_ | refine wl_e0 (e_store1 (us := [_, _, _]) rfl rfl rfl (by kernel_rfl) (by simp [Value.oneCell']) rfl rfl) ?_ | refine wl_e0 (e_store2 (us := [_, _, _]) rfl rfl rfl (by kernel_rfl) (by simp [Value.oneCell']) rfl rfl) ?_ | refine wl_e0 (e_store3 (us := [_, _, _]) rfl rfl rfl (by kernel_rfl) (by simp [Value.oneCell']) rfl rfl) ?_)
        rintro _ _ w33_7 rfl
        refine wl_f (f_assign rfl) ?_
        refine wl_end [(2, _), (3, _), (9, _), (12, _), (14, _), (16, _), (17, _), (19, _), (29, _), (30, _)] ⟨rfl, rfl, rfl, rfl, rfl, rfl, rfl, rfl, rfl, rfl, trivial⟩ ?_
        refine w_seq ?_
        refine w_reg ?_
        refine wl_f (f_move rfl) ?_
        refine wl_f (f_move rfl) ?_
        refine wl_e (e_call1 rq [_, _, _, _] rfl Tryz.func17 (by kernel_rfl) (pk1 2 rfl) (fun w hh hs => rget_spec q 1 m l ded total rq key w (by omega) hq hs)) ?_
        rintro _ _ w6 ⟨_, rfl, rfl, k2, o2, s2, is2, rfl, hG⟩
        obtain ⟨rfl, rfl, rfl, rfl⟩ := tup_inj (hF.get hf hGt hG)
        refine wl_f (f_move rfl) ?_
        refine wl_f (f_extract rfl rfl) ?_
        refine wl_f (f_extract rfl rfl) ?_
        refine wl_e (e_allocs [.string ByteArray.empty, .int .u64 0, .int .u64 0] (by kernel_rfl)) ?_
        rintro _ _ w34_6 ⟨b34_6, rfl, rfl⟩
        (first | refine wl_e0 (e_store0 (us := [_, _, _]) rfl rfl rfl (by kernel_rfl) (by simp [Value.oneCell']) rfl rfl) ?_ | refine wl_e0 (e_store1 (us := [_, _, _]) rfl rfl rfl (by kernel_rfl) (by simp [Value.oneCell']) rfl rfl) ?_ | refine wl_e0 (e_store2 (us := [_, _, _]) rfl rfl rfl (by kernel_rfl) (by simp [Value.oneCell']) rfl rfl) ?_ | refine wl_e0 (e_store3 (us := [_, _, _]) rfl rfl rfl (by kernel_rfl) (by simp [Value.oneCell']) rfl rfl) ?_)
        rintro _ _ w34_7 rfl
        refine wl_f (f_assign rfl) ?_
        refine wl_end [(2, _), (3, _), (9, _), (12, _), (14, _), (16, _), (17, _), (29, _), (30, _), (31, _), (32, _)] ⟨rfl, rfl, rfl, rfl, rfl, rfl, rfl, rfl, rfl, rfl, rfl, trivial⟩ ?_
        refine w_seq ?_
        have hq0 := hq
        obtain ⟨LV, rfl⟩ := hq
        refine w_with fun hh => ?_
        obtain ⟨LA, cl, rfl⟩ := rowB_slice hh (i := 1) (j := 1) rfl rfl
        clear hh
        refine w_draw [(0, true), (1, true), (2, true), (3, true), (4, true), (5, true), (6, true), (7, true), (8, true), (9, true), (11, true), (10, false), (12, false), (13, false), (14, true), (15, true), (16, true), (17, true), (19, true), (18, false), (20, false), (21, true), (22, true), (23, true), (24, true), (26, true), (25, false), (27, false), (28, true), (29, true), (30, true), (31, true), (33, true), (34, true), (35, true), (36, true), (37, true), (32, false), (38, true), (39, true)] (_) ([]) mixed (by kernel_rfl) (by kernel_rfl) rfl (perm_all _) (fun w35_ => ?_)
        (first | refine wd_f rfl (f_loadsb (cs := [_, _, _]) 0 rfl Tryz.underlying25 rfl (by kernel_rfl) rfl rfl) ?_ | refine wd_f rfl (f_loadsb (cs := [_, _, _]) 1 rfl Tryz.underlying25 rfl (by kernel_rfl) rfl rfl) ?_ | refine wd_f rfl (f_loadsb (cs := [_, _, _]) 2 rfl Tryz.underlying25 rfl (by kernel_rfl) rfl rfl) ?_ | refine wd_f rfl (f_loadsb (cs := [_, _, _]) 3 rfl Tryz.underlying25 rfl (by kernel_rfl) rfl rfl) ?_ | refine wd_f rfl (f_loadsb (cs := [_, _, _]) 4 rfl Tryz.underlying25 rfl (by kernel_rfl) rfl rfl) ?_ | refine wd_f rfl (f_loadsb (cs := [_, _, _]) 5 rfl Tryz.underlying25 rfl (by kernel_rfl) rfl rfl) ?_ | refine wd_f rfl (f_loadsb (cs := [_, _, _]) 6 rfl Tryz.underlying25 rfl (by kernel_rfl) rfl rfl) ?_)
        (first | refine wd_f rfl (f_loadsb (cs := [_, _, _]) 0 rfl Tryz.underlying25 rfl (by kernel_rfl) rfl rfl) ?_ | refine wd_f rfl (f_loadsb (cs := [_, _, _]) 1 rfl Tryz.underlying25 rfl (by kernel_rfl) rfl rfl) ?_ | refine wd_f rfl (f_loadsb (cs := [_, _, _]) 2 rfl Tryz.underlying25 rfl (by kernel_rfl) rfl rfl) ?_ | refine wd_f rfl (f_loadsb (cs := [_, _, _]) 3 rfl Tryz.underlying25 rfl (by kernel_rfl) rfl rfl) ?_ | refine wd_f rfl (f_loadsb (cs := [_, _, _]) 4 rfl Tryz.underlying25 rfl (by kernel_rfl) rfl rfl) ?_ | refine wd_f rfl (f_loadsb (cs := [_, _, _]) 5 rfl Tryz.underlying25 rfl (by kernel_rfl) rfl rfl) ?_ | refine wd_f rfl (f_loadsb (cs := [_, _, _]) 6 rfl Tryz.underlying25 rfl (by kernel_rfl) rfl rfl) ?_)
        refine wd_f rfl (f_eqv (v' := .bool false) (f_bin rfl rfl (fun w => run_eqGuard_agg w _ _ _ _ _ _ (by kernel_rfl)) (fun w => neqEn _ _ _ _ _ _ w)) (by simp)) ?_
        refine wd_f rfl (f_move rfl) ?_
        refine wd_gf rfl rfl rfl (f_move rfl) ?_
        refine wd_gf rfl rfl rfl (f_move rfl) ?_
        refine wd_gf rfl rfl rfl (f_eqv (v' := .bool false) (f_neqb rfl rfl Tryz.underlying4) (by simp)) ?_
        refine wd_f rfl (f_pick0 rfl rfl) ?_
        refine wd_f rfl (f_move rfl) ?_
        refine wd_gf rfl rfl rfl (f_move rfl) ?_
        refine wd_gf rfl rfl rfl (f_move rfl) ?_
        refine wd_ge rfl rfl rfl (e_call1 r [_, _, _, _, _] rfl Tryz.func19 (by kernel_rfl) (pk1 3 rfl) (fun w hh hs => sventries_spec t m E ded total r w (by omega) hr hs)) ?_
        rintro ve _ w12 ⟨_, rfl, es0, rfl, hes0, hse0⟩
        refine ⟨_, pick_perm [2, 2, 2, 1, 1, 1] _ rfl, ?_⟩
        refine wd_ge rfl rfl rfl (e_call1 _ [_, _, _, _, _, _] rfl Tryz.func20 (by kernel_rfl) (pk1 1 rfl) (fun w hh hs => rentries_spec q 1 m l ded total _ w (by omega) hF.2 hq0 hs)) ?_
        rintro ve2 _ w13 ⟨_, rfl, es, hes, hse, rfl⟩
        refine ⟨_, pick_perm [2, 1, 1, 1, 1, 1] _ rfl, ?_⟩
        have hen := hF.ents (base := ded) hf hf.len hes0 hse0 hes hse
        have hel : es.length ≤ 64 := by rw [hes.length_eq, List.length_map]; omega
        refine wd_ge rfl rfl rfl (e_call0 rfl Tryz.func18 (by kernel_rfl) (fun w hh => sameEntries_spec _ _ _ es w (Rd.held0 hh (i := 7) rfl) (Rd.held0 hh (i := 6) rfl) (by rw [hen]; omega) (by omega))) ?_
        rintro _ _ w14 ⟨_, rfl, rfl, rfl⟩
        refine ⟨_, List.Perm.refl _, ?_⟩
        rw [decide_eq_true hen]
        refine wd_gf rfl rfl rfl (f_eqv (v' := .bool false) (f_not rfl rfl) rfl) ?_
        refine wd_f rfl (f_pick0 rfl rfl) ?_
        refine wd_f rfl (f_move rfl) ?_
        refine wd_gf rfl rfl rfl (f_move rfl) ?_
        refine wd_gf rfl rfl rfl (f_move rfl) ?_
        refine wd_ge rfl rfl rfl (e_call1 r [_, _, _, _, _, _, _] rfl Tryz.func21 (by kernel_rfl) (pk1 3 rfl) (fun w hh hs => svuntracked_spec t m E ded total r w hr hs)) ?_
        rintro _ _ w15 ⟨_, rfl, rfl, rfl⟩
        refine ⟨_, pick_perm [1, 1, 1, 0, 0, 0] _ rfl, ?_⟩
        refine wd_ge rfl rfl rfl (e_call1 _ [_, _, _, _, _, _, _] rfl Tryz.func22 (by kernel_rfl) (pk1 1 rfl) (fun w hh hs => runtracked_spec q 1 m l ded total _ w hq0 hs)) ?_
        rintro _ _ w16 ⟨_, rfl, rfl, rfl⟩
        refine ⟨_, pick_perm [1, 0, 0, 0, 0, 0] _ rfl, ?_⟩
        refine wd_gf rfl rfl rfl (f_eqv (v' := .bool false) (f_neq rfl rfl) (by simp)) ?_
        refine wd_f rfl (f_pick0 rfl rfl) ?_
        refine wd_f rfl (f_move rfl) ?_
        refine wd_gf rfl rfl rfl (f_move rfl) ?_
        refine wd_gf rfl rfl rfl (f_move rfl) ?_
        refine wd_ge rfl rfl rfl (e_call1 r [_, _, _, _, _, _, _] rfl Tryz.func23 (by kernel_rfl) (pk1 3 rfl) (fun w hh hs => svtotal_spec t m E ded total r w hr hs)) ?_
        rintro _ _ w17 ⟨_, rfl, rfl, rfl⟩
        refine ⟨_, pick_perm [1, 1, 1, 0, 0, 0] _ rfl, ?_⟩
        refine wd_ge rfl rfl rfl (e_call1 _ [_, _, _, _, _, _, _] rfl Tryz.func24 (by kernel_rfl) (pk1 1 rfl) (fun w hh hs => rtotal_spec q 1 m l ded total _ w hq0 hs)) ?_
        rintro _ _ w18 ⟨_, rfl, rfl, rfl⟩
        refine ⟨_, pick_perm [1, 0, 0, 0, 0, 0] _ rfl, ?_⟩
        refine wd_gf rfl rfl rfl (f_eqv (v' := .bool false) (f_neq rfl rfl) (by simp)) ?_
        refine wd_f rfl (f_pick0 rfl rfl) ?_
        refine wd_f rfl (f_move rfl) ?_
        refine wd_gf rfl rfl rfl (f_move rfl) ?_
        refine wd_gf rfl rfl rfl (f_move rfl) ?_
        refine wd_gf rfl rfl rfl (f_nilCheck rfl) ?_
        refine wd_gf rfl rfl rfl (f_fieldAddr 2 rfl Tryz.underlying50 rfl rfl (by kernel_rfl)) ?_
        refine wd_gf rfl rfl rfl (f_loadB 1 0 rfl rfl rfl Tryz.underlying45 rfl rfl) ?_
        refine wd_gf rfl rfl rfl (f_len rfl Tryz.underlying45) ?_
        refine wd_ge rfl rfl rfl (e_call1 r [_, _, _, _, _, _, _] rfl Tryz.func25 (by kernel_rfl) (pk1 3 rfl) (fun w hh hs => svlen_spec t m E ded total r w hr hs)) ?_
        rintro _ _ w19 ⟨_, rfl, rfl, rfl⟩
        refine ⟨_, pick_perm [1, 1, 1, 0, 0, 0] _ rfl, ?_⟩
        refine wd_gf rfl rfl rfl (f_eqv (v' := .bool false) (f_neq rfl rfl) (by rw [hF.len, hf.cnt]; simp)) ?_
        refine wd_f rfl (f_pick0 rfl rfl) ?_
        refine wd_endp [(2, _), (3, _), (9, _), (12, _), (14, _), (16, _), (17, _), (201, _)] [3, 1, 2, 2] ⟨rfl, rfl, rfl, rfl, rfl, rfl, rfl, rfl, trivial⟩ rfl ?_
        refine w_iff rfl ?_
        refine w_skip ?_
        refine w_reg ?_
        refine wl_f (f_move rfl) ?_
        refine wl_f (f_add rfl rfl (by omega)) ?_
        refine wl_f (f_assign rfl) ?_
        refine wl_end [(2, _), (3, _), (9, _), (12, _), (14, _), (16, _), (17, _)] ⟨rfl, rfl, rfl, rfl, rfl, rfl, rfl, trivial⟩ ?_
        exact ⟨kk - 1, by omega, i + 1, E, o, ded, total, r, l, _, p, rfl, rfl, hr, hq0, hI, hF, by omega, by omega, hp⟩
  · skip
    refine w_exit0 ?_
    refine w_seq ?_
    refine w_reg ?_
    refine wl_e (e_call0 rfl Tryz.func26 (by kernel_rfl) (fun w hh => awake13_spec w)) ?_
    rintro _ _ w20 ⟨_, rfl, rfl⟩
    refine wl_f (f_assign rfl) ?_
    refine wl_end [(10, _)] ⟨rfl, trivial⟩ ?_
    refine w_ret ?_
    refine ⟨_, _, fun a ha hh => results_tmps Tryz.results3 rfl a ha _, List.Sublist.refl _, ?_⟩
    rfl
end Go.Proofs.YtbcfdgnpdaaleaaGreat
