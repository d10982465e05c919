/- The law SavingBase: the call returns true. -/
import Derived.Test.YtbcfdgnpdaaleaaS8
import Derived.Test.YtbcfdgnpdaaleaaSB1
namespace Go.Proofs.Ytbcfdgnpdaaleaa
open Go.RowKit

def efr : Option En → Nat
  | none => 1
  | some _ => 0
def fr (E : List (Option En)) : Nat := (E.map efr).sum
theorem fr_set {E : List (Option En)} {n : Nat} {o : Option En} (x : Option En) (h : E[n]? = some o) : fr (E.set n x) + efr o = fr E + efr x := by
  obtain ⟨A, B, rfl, rfl⟩ := split_at h
  rw [set_split]
  simp only [fr, List.map_append, List.map_cons, List.sum_append, List.sum_cons]
  omega
theorem fr_cnt (E : List (Option En)) : fr E + (E.filterMap id).length = E.length := by
  induction E with
  | nil => rfl
  | cons o E ih =>
    cases o with
    | none => simp only [fr, efr, List.map_cons, List.sum_cons, List.filterMap_cons, id, List.length_cons] at ih ⊢; omega
    | some x => simp only [fr, efr, List.map_cons, List.sum_cons, List.filterMap_cons, id, List.length_cons] at ih ⊢; omega
theorem fr_new (m : Nat) : fr (List.replicate m none) = m := by
  induction m with
  | zero => rfl
  | succ m ih => rw [List.replicate_succ, fr, List.map_cons, List.sum_cons]; rw [fr] at ih; rw [ih]; exact Nat.add_comm _ _
theorem fr_full {E : List (Option En)} (h : ∀ i < E.length, ∃ x, E[i]? = some (some x)) : fr E = 0 := by
  have h1 : ∀ o ∈ E, efr o = 0 := fun o ho => by
    obtain ⟨i, hi⟩ := List.mem_iff_getElem?.1 ho
    obtain ⟨x, hx⟩ := h i (List.getElem?_eq_some_iff.1 hi).1
    rw [hi] at hx
    injection hx with hx
    rw [hx]; rfl
  clear h
  induction E with
  | nil => rfl
  | cons o E ih =>
    rw [fr, List.map_cons, List.sum_cons, h1 o (List.mem_cons_self ..), Nat.zero_add]
    exact ih fun o ho => h1 o (List.mem_cons_of_mem _ ho)
theorem esum_fr {E : List (Option En)} {b : Nat} (h : ∀ x, some x ∈ E → b ≤ x.2.1 + x.2.2) : E.length * b ≤ esum E + fr E * b := by
  induction E with
  | nil => simp
  | cons o E ih =>
    have h2 := ih fun x hx => h x (List.mem_cons_of_mem _ hx)
    cases o with
    | none =>
      simp only [esum, fr, efr, ecnt, List.map_cons, List.sum_cons, List.length_cons] at h2 ⊢
      rw [Nat.succ_mul, Nat.add_mul]
      omega
    | some x =>
      have h1 := h x (List.mem_cons_self ..)
      simp only [esum, fr, efr, ecnt, List.map_cons, List.sum_cons, List.length_cons] at h2 ⊢
      rw [Nat.succ_mul, Nat.zero_add]
      omega
structure BInv (E : List (Option En)) (base total : Nat) : Prop where
  sum : esum E + fr E * base ≤ total
  ge : ∀ k i o s, Has E k i o s → base ≤ o + s
theorem BInv.new (m : Nat) : BInv (List.replicate m none) 0 0 := ⟨by rw [esum0]; simp, fun k i o s h => absurd h has0⟩
theorem BInv.mbase {E : List (Option En)} {base total : Nat} (h : BInv E base total) : E.length * base ≤ total :=
  Nat.le_trans (esum_fr fun x hx => by
    obtain ⟨i, hi⟩ := List.mem_iff_getElem?.1 hx
    exact h.ge x.1 i x.2.1 x.2.2 hi) h.sum
theorem BInv.set {E : List (Option En)} {base total n : Nat} {k : ByteArray} {o s o' s' : Nat} {x : ByteArray} (h : BInv E base total) (hi : Has E k n o s) (h1 : base ≤ o' + s') {total' : Nat} (h2 : o' + s' + total ≤ o + s + total') : BInv (E.set n (some (x, o', s'))) base total' := by
  have a := esum_set (some (x, o', s')) hi
  have b := fr_set (some (x, o', s')) hi
  simp only [ecnt, efr] at a b
  have e : fr (E.set n (some (x, o', s'))) = fr E := by omega
  refine ⟨?_, fun q j o2 s2 hj => ?_⟩
  · rw [e]; have := h.sum; omega
  · rcases has_set hi hj with ⟨_, e2⟩ | ⟨_, hj⟩
    · injection e2 with _ e2; injection e2 with e2 e3; omega
    · exact h.ge q j o2 s2 hj
theorem BInv.drop {E : List (Option En)} {base total n : Nat} {k : ByteArray} {o s : Nat} (h : BInv E base total) (hi : Has E k n o s) : BInv (E.set n none) base total := by
  have a := esum_set none hi
  have b := fr_set none hi
  simp only [ecnt, efr] at a b
  have hl : n < E.length := (List.getElem?_eq_some_iff.1 hi).1
  have hb := h.ge k n o s hi
  have e : fr (E.set n none) = fr E + 1 := by omega
  refine ⟨?_, fun q j o2 s2 hj => ?_⟩
  · rw [e, Nat.succ_mul]; have := h.sum; omega
  · have hne : n ≠ j := fun e => by
      subst e
      have hj' : (E.set n none)[n]? = some (some (q, o2, s2)) := hj
      rw [List.getElem?_set_self hl] at hj'; cases hj'
    have hj' : (E.set n none)[j]? = some (some (q, o2, s2)) := hj
    rw [List.getElem?_set_ne hne] at hj'
    exact h.ge q j o2 s2 hj'
theorem BInv.add {m : Nat} {E E' : List (Option En)} {base base' total total' w : Nat} {k : ByteArray} {e : Int} (h : BInv E base total) (hm : E.length = m) (hA : AddG m E base total k w e E' base' total') : BInv E' base' total' := by
  rcases hA with ⟨_, rfl, rfl, rfl, _⟩ | ⟨_, _, _, _, rfl, ⟨i, o, s, hi, rfl, rfl⟩ | ⟨hno, n, E1, ⟨hnm, hn, hc⟩, rfl⟩⟩
  · exact h
  · have := h.ge k i o s hi
    exact h.set hi (by omega) (by omega)
  · have a := esum_set (some (k, w, base')) hn
    have b := fr_set (some (k, w, base')) hn
    simp only [ecnt, efr] at a b
    rcases hc with ⟨rfl, rfl, _⟩ | ⟨hall, k0, o0, s0, hi0, rfl, rfl, hle⟩
    · refine ⟨?_, fun q j o2 s2 hj => ?_⟩
      · have h1 := h.sum
        rw [show fr E1 = fr (E1.set n (some (k, w, base'))) + 1 by omega, Nat.succ_mul] at h1
        omega
      · rcases has_set hn hj with ⟨_, e2⟩ | ⟨_, hj⟩
        · injection e2 with _ e2; injection e2 with e2 e3; omega
        · exact h.ge q j o2 s2 hj
    · have h0 := fr_full (E := E) fun i hi => hall i (by omega)
      have a0 := esum_set none hi0
      have b0 := fr_set none hi0
      simp only [ecnt, efr] at a0 b0
      refine ⟨?_, fun q j o2 s2 hj => ?_⟩
      · rw [show fr ((E.set n none).set n (some (k, w, o0 + s0))) = 0 by omega]
        have h1 := h.sum
        omega
      · rcases has_set hn hj with ⟨_, e2⟩ | ⟨hne, hj⟩
        · injection e2 with _ e2; injection e2 with e2 e3; omega
        · have hj' : (E.set n none)[j]? = some (some (q, o2, s2)) := hj
          rw [List.getElem?_set_ne (fun e => hne e.symm)] at hj'
          exact hle j q o2 s2 hj'
theorem BInv.tok {E : List (Option En)} {base total : Nat} (h : BInv E base total) (hl : 1 ≤ E.length) (ht : total ≤ 9223372036854775808) : TOk E base total := by
  refine ⟨ht, ?_, fun i k o s hi => ?_⟩
  · have h1 := h.mbase
    have h2 : 1 * base ≤ E.length * base := Nat.mul_le_mul_right _ hl
    omega
  · have a := esum_set none hi
    simp only [ecnt] at a
    have := h.sum
    omega
theorem BInv.swap {E E' : List (Option En)} {base total : Nat} {k x : ByteArray} {xo xs : Nat} {v : Value} (h : BInv E base total) (hS : SwapG E base k x xo xs v E') : BInv E' base total ∧ E'.length = E.length := by
  rcases hS with ⟨_, _, rfl, _⟩ | ⟨i, o, s, hi, _, _, hle, _, rfl⟩
  · exact ⟨h, rfl⟩
  · have := h.ge k i o s hi
    exact ⟨h.set hi (by omega) (by omega), List.length_set⟩
theorem AddG.le {m : Nat} {E E' : List (Option En)} {base base' total total' w : Nat} {k : ByteArray} {e : Int} (hA : AddG m E base total k w e E' base' total') (ht : TOk E base total) : total' ≤ 9223372036854775808 := (hA.tok ht).1
theorem and_bound13 (x : Int) (m : Nat) (hm : m < 9223372036854775808) : 0 ≤ bits .and .i64 x m ∧ bits .and .i64 x m ≤ m := by
  have h : bits .and .i64 x m = IntKind.i64.wrap ((BitVec.ofInt 64 x &&& BitVec.ofInt 64 (m : Int)).toNat : Int) := rfl
  have h2 : (BitVec.ofInt 64 (m : Int)).toNat = m := by
    rw [BitVec.toNat_ofInt]; omega
  have h3 : (BitVec.ofInt 64 x &&& BitVec.ofInt 64 (m : Int)).toNat ≤ m := by
    rw [BitVec.toNat_and, h2]; exact Nat.and_le_right
  rw [h, IntKind.wrap_i64]
  omega
theorem mod32 (s : Int) : ∃ n : Nat, bits .and .i64 s 31 = (n : Int) ∧ n < 32 := by
  have h := and_bound13 s 31 (by decide)
  have h1 : bits .and .i64 s ((31 : Nat) : Int) = bits .and .i64 s 31 := rfl
  rw [h1] at h
  exact ⟨(bits .and .i64 s 31).toNat, by omega, by omega⟩

set_option maxHeartbeats 8000000 in
theorem savingBase_spec (z : Nat) (A1 : Option Addr) (c1 : Nat) (L1 : List Int) (A2 : Option Addr) (c2 : Nat) (L2 : List Int) (w : World) (hz : z < 256)
    (h1 : Rd w Nil 1 (.slice A1 L1.length c1) L1.length (iv L1)) (hL1 : L1.length ≤ 140737488355328) (h2 : Rd w Nil 1 (.slice A2 L2.length c2) L2.length (iv L2)) (hL2 : L2.length ≤ 140737488355328) :
    Spec Try.prog 6 [.int .u8 z, .slice A1 L1.length c1, .slice A2 L2.length c2] w Nil fun r _ => r = .bool true := by
  obtain ⟨A', c', e, hxl, hxc, hxA⟩ := id h2
  injection e with e1 _ e3
  subst e1; subst e3
  refine enter (n := 125) Try.func6 rfl rfl [(0, _), (1, _), (2, _)] rfl ⟨rfl, rfl, rfl, trivial⟩ (Holds.start _ _) ?_
  refine w_seq ?_
  refine w_reg ?_
  refine wl_f (f_assign rfl) ?_
  refine wl_end [(0, _), (1, _), (2, _)] ⟨rfl, rfl, rfl, trivial⟩ ?_
  refine w_seq ?_
  refine w_reg ?_
  refine wl_f (f_move rfl) ?_
  refine wl_f (f_convi rfl Try.underlying5 Try.underlying3 (by omega)) ?_
  refine wl_f (f_rem rfl rfl (by omega)) ?_
  refine wl_f (f_eqv (v' := .int .i64 ((1 + z % 6 : Nat) : Int)) (f_add rfl rfl (by omega)) (by congr 1)) ?_
  obtain ⟨m, hm, hm1, hm6⟩ : ∃ m, 1 + z % 6 = m ∧ 1 ≤ m ∧ m ≤ 6 := ⟨_, rfl, by omega, by omega⟩
  rw [hm]
  refine wl_f (f_assign rfl) ?_
  refine wl_end [(1, _), (2, _), (7, _)] ⟨rfl, rfl, rfl, trivial⟩ ?_
  refine w_seq ?_
  refine w_reg ?_
  refine wl_f (f_move rfl) ?_
  refine wl_e (e_call0 rfl Try.func7 (by kernel_rfl) (fun w hh => svnew_ok m w hm1 (by omega))) ?_
  rintro _ _ w1 ⟨_, rfl, t, r0, rfl, rfl, hr0⟩
  refine wl_f (f_move rfl) ?_
  refine wl_f (f_extract rfl rfl) ?_
  refine wl_f (f_extract rfl rfl) ?_
  refine wl_f (f_assign rfl) ?_
  refine wl_f (f_assign rfl) ?_
  refine wl_end [(1, _), (2, _), (7, _), (8, _), (9, _)] ⟨rfl, rfl, rfl, rfl, rfl, trivial⟩ ?_
  refine w_seq ?_
  refine w_seq ?_
  refine w_reg ?_
  refine wl_f (f_move rfl) ?_
  refine wl_f (f_neq rfl rfl) ?_
  refine wl_f (f_move rfl) ?_
  refine wl_or (j := 2) (c := false) 2 [(1, _), (2, _), (7, _), (8, _)] ⟨rfl, rfl, rfl, rfl, trivial⟩ rfl rfl rfl rfl rfl (fun hg3_5 => ?_) (fun w3_5 => ?_)
  · skip
    refine wl_gf rfl rfl (f_move rfl) ?_
    refine wl_gf rfl rfl (f_eqlnil rfl rfl Try.underlying24) ?_
    exact wl_pend rfl rfl ⟨rfl, rfl, rfl, rfl, trivial⟩ (List.Sublist.refl _)
  refine wl_end [(1, _), (2, _), (7, _), (8, _), (30, _)] ⟨rfl, rfl, rfl, rfl, rfl, trivial⟩ ?_
  refine w_iff rfl ?_
  refine w_skip ?_
  refine w_seq ?_
  refine w_reg ?_
  refine wl_f (f_move rfl) ?_
  refine wl_e (e_call0 rfl Try.func8 (by kernel_rfl) (fun w hh => new_spec A1 L1.length c1 w)) ?_
  rintro _ _ w2 ⟨_, rfl, bd, rfl, rfl⟩
  refine wl_f (f_assign rfl) ?_
  refine wl_pick [1, 0] rfl ?_
  refine wl_end [(2, _), (7, _), (8, _), (10, _)] ⟨rfl, rfl, rfl, rfl, trivial⟩ ?_
  refine w_seq ?_
  refine w_seq ?_
  refine w_reg ?_
  refine wl_f (f_assign rfl) ?_
  refine wl_end [(2, _), (7, _), (8, _), (10, _), (11, _)] ⟨rfl, rfl, rfl, rfl, rfl, trivial⟩ ?_
  refine w_block ?_
  refine w_loop (fun kk m' H w' => ∃ (i : Nat) (E : List (Option En)) (base total : Nat) (r : Res) (p : Nat), m' = [(2, .slice A2 L2.length c2), (7, .int .i64 m), (8, .pointer (some ⟨t, 0, .none⟩)), (10, .pointer (some ⟨bd, 0, .none⟩)), (11, .int .i64 i)] ∧
    H = [r, deck bd (.slice A1 L1.length c1) p] ∧ SvR t m E base total r ∧ TOk E base total ∧ BInv E base total ∧ kk + i = 80 ∧ i ≤ L2.length ∧ p ≤ L1.length) 80
    ⟨0, _, 0, 0, r0, 0, rfl, rfl, hr0, tok0 m, BInv.new m, rfl, Nat.zero_le _, Nat.zero_le _⟩ ?_
  rintro kk _ _ w3 ⟨i, E, base, total, r, p, rfl, rfl, hr, ht, hB, hkk, hiL, hp⟩
  have hEl := hr.len
  refine w_seq ?_
  refine w_seq ?_
  refine w_reg ?_
  refine wl_f (f_move rfl) ?_
  refine wl_f (f_move rfl) ?_
  refine wl_f (f_len rfl Try.underlying22) ?_
  refine wl_f (f_lss rfl rfl) ?_
  refine wl_f (f_move rfl) ?_
  refine wl_and (j := 4) (c := decide ((i : Int) < 80)) 2 [(2, _), (7, _), (8, _), (10, _), (11, _)] ⟨rfl, rfl, rfl, rfl, rfl, trivial⟩ rfl rfl rfl rfl rfl (fun hg7_7 => ?_) (fun w7_7 => ?_)
  · skip
    refine wl_gf rfl rfl (f_move rfl) ?_
    refine wl_gf rfl rfl (f_lss rfl rfl) ?_
    exact wl_pend rfl rfl ⟨rfl, rfl, rfl, rfl, rfl, trivial⟩ (List.Sublist.refl _)
  refine wl_end [(2, _), (7, _), (8, _), (10, _), (11, _), (40, _)] ⟨rfl, rfl, rfl, rfl, rfl, rfl, trivial⟩ ?_
  refine w_ifb rfl (fun hc2 => ?_) (fun hc2 => ?_)
  · skip
    simp only [Bool.and_eq_true, decide_eq_true_eq] at hc2
    have hi : i < L2.length := by omega
    obtain ⟨s, hsi⟩ : ∃ s, L2[i]? = some s := ⟨_, List.getElem?_eq_getElem hi⟩
    obtain ⟨b2, off, rfl, _, _, hcell⟩ := hxA.resolve_left (by omega)
    refine w_skip ?_
    refine w_seq ?_
    refine w_block ?_
    refine w_seq ?_
    refine w_seq ?_
    refine w_reg ?_
    refine wl_f (f_move rfl) ?_
    refine wl_f (f_move rfl) ?_
    refine wl_f (f_indexAddr 1 (i := i) rfl rfl Try.underlying22 (by kernel_rfl) rfl hi) ?_
    refine wl_f (f_loado (v := .int .i64 s) rfl Try.underlying3 rfl (hcell _ _ (by simp [iv, hsi])) id) ?_
    refine wl_f (f_assign rfl) ?_
    refine wl_end [(2, _), (7, _), (8, _), (10, _), (11, _), (12, _)] ⟨rfl, rfl, rfl, rfl, rfl, rfl, trivial⟩ ?_
    refine w_seq ?_
    refine w_reg ?_
    refine wl_f (f_move rfl) ?_
    refine wl_f (f_and rfl rfl rfl) ?_
    generalize bits .and .i64 s 7 = s7
    refine wl_end [(2, _), (7, _), (8, _), (10, _), (11, _), (12, _), (48, _)] ⟨rfl, rfl, rfl, rfl, rfl, rfl, rfl, trivial⟩ ?_
    refine w_post (fun m' H w' => ∃ (E : List (Option En)) (base total : Nat) (r : Res) (p : Nat), m' = [(2, .slice (some ⟨b2, off, .none⟩) L2.length c2), (7, .int .i64 m), (8, .pointer (some ⟨t, 0, .none⟩)), (10, .pointer (some ⟨bd, 0, .none⟩)), (11, .int .i64 i)] ∧
      H = [r, deck bd (.slice A1 L1.length c1) p] ∧ SvR t m E base total r ∧ TOk E base total ∧ BInv E base total ∧ p ≤ L1.length) ?_ ?_
    · skip
      refine w_block ?_
      refine w_seq ?_
      refine w_reg ?_
      refine wl_f (f_eql rfl rfl) ?_
      refine wl_f (f_assign rfl) ?_
      refine wl_end [(2, _), (7, _), (8, _), (10, _), (11, _), (12, _), (48, _), (58, _)] ⟨rfl, rfl, rfl, rfl, rfl, rfl, rfl, rfl, trivial⟩ ?_
      refine w_ifd rfl (fun hc3 => ?_) (fun hc3 => ?_)
      · skip
        refine w_reg ?_
        refine wl_f (f_move rfl) ?_
        refine wl_f (f_move rfl) ?_
        refine wl_e (e_call1 (deck bd (.slice A1 L1.length c1) p) [_] rfl Try.func10 (by kernel_rfl) (pk1 1 rfl) (fun w hh hs' => short3_spec bd _ L1 p w ⟨h1.old1 hh (pk1 1 rfl), hL1, hp⟩ hs')) ?_
        rintro _ _ w4 ⟨_, rfl, k, p2, rfl, hk3, rfl, hp2⟩
        have hks : small k := small_of (by omega)
        refine wl_e (e_call1 r [_] rfl Try.func17 (by kernel_rfl) (pk1 1 rfl) (fun w hh hs => svtake_spec t m E base total k r w hks hr hs)) ?_
        rintro _ _ w5 ⟨_, rfl, hG, r1, E1, rfl, hr1, hT⟩
        refine wl_end [(2, _), (7, _), (8, _), (10, _), (11, _)] ⟨rfl, rfl, rfl, rfl, rfl, trivial⟩ ?_
        have hB1 : BInv E1 base total := by
          rcases hT with ⟨i1, o, s1, hi1, rfl, _⟩ | ⟨_, rfl⟩
          · exact hB.drop hi1
          · exact hB
        have hE1 := hr1.len
        exact ⟨E1, base, total, r1, p2, rfl, rfl, hr1, hB1.tok (by omega) ht.1, hB1, hp2⟩
      · skip
        refine w_seq ?_
        refine w_seq ?_
        refine w_reg ?_
        refine wl_f (f_eql rfl rfl) ?_
        refine wl_f (f_assign rfl) ?_
        refine wl_end [(2, _), (7, _), (8, _), (10, _), (11, _), (12, _), (48, _), (64, _)] ⟨rfl, rfl, rfl, rfl, rfl, rfl, rfl, rfl, trivial⟩ ?_
        refine w_post (fun m' H w' => ∃ bb : Bool, m' = [(2, .slice (some ⟨b2, off, .none⟩) L2.length c2), (7, .int .i64 m), (8, .pointer (some ⟨t, 0, .none⟩)), (10, .pointer (some ⟨bd, 0, .none⟩)), (11, .int .i64 i), (12, .int .i64 s), (64, .bool bb)] ∧ H = [r, deck bd (.slice A1 L1.length c1) p]) ?_ ?_
        · skip
          refine w_ifd rfl (fun hc4 => ?_) (fun hc4 => ?_)
          · skip
            refine w_sub [(2, _), (7, _), (8, _), (10, _), (11, _), (12, _), (64, _)] ⟨rfl, rfl, rfl, rfl, rfl, rfl, rfl, trivial⟩ (w_skip ?_)
            exact ⟨_, rfl, rfl⟩
          · skip
            refine w_reg ?_
            refine wl_f (f_eql rfl rfl) ?_
            refine wl_f (f_assign rfl) ?_
            refine wl_end [(2, _), (7, _), (8, _), (10, _), (11, _), (12, _), (64, _)] ⟨rfl, rfl, rfl, rfl, rfl, rfl, rfl, trivial⟩ ?_
            exact ⟨_, rfl, rfl⟩
        · rintro _ _ w10 ⟨bb, rfl, rfl⟩
          refine w_ifb rfl (fun hc5 => ?_) (fun hc5 => ?_)
          · skip
            refine w_reg ?_
            refine wl_f (f_move rfl) ?_
            refine wl_f (f_move rfl) ?_
            refine wl_e (e_call1 (deck bd (.slice A1 L1.length c1) p) [_] rfl Try.func10 (by kernel_rfl) (pk1 1 rfl) (fun w hh hs' => short3_spec bd _ L1 p w ⟨h1.old1 hh (pk1 1 rfl), hL1, hp⟩ hs')) ?_
            rintro _ _ w4 ⟨_, rfl, k, p2, rfl, hk3, rfl, hp2⟩
            have hks : small k := small_of (by omega)
            refine wl_f (f_move rfl) ?_
            refine wl_e (e_call1 (deck bd (.slice A1 L1.length c1) p2) [_] rfl Try.func20 (by kernel_rfl) (List.Perm.refl _) (fun w hh hs' => entry_spec bd _ L1 p2 w ⟨h1.old1 hh (List.Perm.refl _), hL1, hp2⟩ hs')) ?_
            rintro _ _ w5 ⟨_, rfl, x, xo, xs, p3, rfl, hx3, hxo, hxs, rfl, hp3⟩
            have hxsm : small x := small_of (by omega)
            refine wl_e (e_call1 r [_] rfl Try.func18 (by kernel_rfl) (pk1 1 rfl) (fun w hh hs => svswap_spec t m E base total k x xo xs r w hks hxsm (by omega) (by omega) ht hB.ge hr hs)) ?_
            rintro _ _ w6 ⟨_, rfl, r1, E1, rfl, hr1, hS⟩
            refine wl_end [(2, _), (7, _), (8, _), (10, _), (11, _)] ⟨rfl, rfl, rfl, rfl, rfl, trivial⟩ ?_
            have hB1 := (hB.swap hS).1
            have hE1 := hr1.len
            exact ⟨E1, base, total, r1, p3, rfl, rfl, hr1, hB1.tok (by omega) ht.1, hB1, hp3⟩
          · skip
            refine w_reg ?_
            refine wl_f (f_move rfl) ?_
            refine wl_f (f_move rfl) ?_
            refine wl_e (e_call1 (deck bd (.slice A1 L1.length c1) p) [_] rfl Try.func10 (by kernel_rfl) (pk1 1 rfl) (fun w hh hs' => short3_spec bd _ L1 p w ⟨h1.old1 hh (pk1 1 rfl), hL1, hp⟩ hs')) ?_
            rintro _ _ w4 ⟨_, rfl, k, p2, rfl, hk3, rfl, hp2⟩
            have hks : small k := small_of (by omega)
            obtain ⟨wn, hwn, hwn32⟩ := mod32 (s.fdiv (2 ^ min ((3 : Int).toNat) (IntKind.bits .i64)))
            refine wl_f (f_move rfl) ?_
            refine wl_f (f_shr rfl rfl (by omega) rfl) ?_
            refine wl_f (f_and rfl rfl hwn) ?_
            refine wl_f (f_eqv (v' := .int .i64 ((1 + wn : Nat) : Int)) (f_add rfl rfl (by omega)) (by congr 1)) ?_
            refine wl_f (f_convu rfl Try.underlying3 Try.underlying30 (by omega)) ?_
            refine wl_e (e_call1 r [_] rfl Try.func9 (by kernel_rfl) (pk1 1 rfl) (fun w hh hs => svadd_spec t m E base total k (1 + wn) r w hks (by omega) ht hr hs)) ?_
            rintro _ _ w6 ⟨_, rfl, e1, E1, base1, total1, r1, rfl, rfl, hr1, hA⟩
            refine wl_end [(2, _), (7, _), (8, _), (10, _), (11, _)] ⟨rfl, rfl, rfl, rfl, rfl, trivial⟩ ?_
            exact ⟨E1, base1, total1, r1, p2, rfl, rfl, hr1, hA.tok ht, hB.add hEl hA, hp2⟩
    · clear hr ht hB hEl
      rintro _ _ w9 ⟨E, base, total, r, p, rfl, rfl, hr, ht, hB, hp⟩
      have hEl := hr.len
      refine w_seq ?_
      have hfc := fr_cnt E
      have hsumE := hB.sum
      have hmb := hB.mbase
      rw [hEl] at hmb
      obtain ⟨ht1, ht2, ht3⟩ := id ht
      obtain ⟨fb, hfb⟩ : ∃ fb, fr E * base = fb := ⟨_, rfl⟩
      obtain ⟨mb, hmbe⟩ : ∃ mb, m * base = mb := ⟨_, rfl⟩
      rw [hfb] at hsumE
      rw [hmbe] at hmb
      obtain ⟨cn, hcn⟩ : ∃ cn, (E.filterMap id).length = cn := ⟨_, rfl⟩
      rw [hcn] at hfc
      refine w_reg ?_
      refine wl_f (f_move rfl) ?_
      refine wl_f (f_move rfl) ?_
      refine wl_e (e_call1 r [_] rfl Try.func19 (by kernel_rfl) (List.Perm.refl _) (fun w hh hs => svlen_spec t m E base total r w hr hs)) ?_
      rintro _ _ w10 ⟨_, rfl, rfl, rfl⟩
      rw [hcn]
      refine wl_f (f_eqv (v' := .int .i64 ((fr E : Nat) : Int)) (f_sub rfl rfl (by omega)) (by congr 1; omega)) ?_
      refine wl_f (f_convu rfl Try.underlying3 Try.underlying30 (by omega)) ?_
      refine wl_f (f_move rfl) ?_
      refine wl_e (e_call1 r [_] rfl Try.func14 (by kernel_rfl) (List.Perm.refl _) (fun w hh hs => svuntracked_spec t m E base total r w hr hs)) ?_
      rintro _ _ w11 ⟨_, rfl, rfl, rfl⟩
      refine wl_f (f_eqv (v' := .int .u64 (fb : Int)) (f_mulu rfl rfl (by rw [← Int.natCast_mul, hfb]; omega)) (by rw [← Int.natCast_mul, hfb])) ?_
      refine wl_f (f_assign rfl) ?_
      refine wl_end [(2, _), (7, _), (8, _), (10, _), (11, _), (13, _)] ⟨rfl, rfl, rfl, rfl, rfl, rfl, trivial⟩ ?_
      refine w_seq ?_
      refine w_seq ?_
      refine w_reg ?_
      refine wl_f (f_move rfl) ?_
      refine wl_e (e_call1 r [_] rfl Try.func15 (by kernel_rfl) (List.Perm.refl _) (fun w hh hs => sventries_spec t m E base total r w (by omega) hr hs)) ?_
      rintro ve _ w12 ⟨_, rfl, es, rfl, hes⟩
      refine wl_with fun hh => ?_
      obtain ⟨Ae, ce, rfl⟩ := row_slice hh (i := 0) rfl
      clear hh
      have hsum : lsum es = esum E := by rw [esum_fm]; exact (hes.map _).sum_nat
      have hesl : es.length ≤ 6 := by
        have h5 := hes.length_eq
        omega
      refine wl_f (f_len rfl Try.underlying43) ?_
      refine wl_f (f_move rfl) ?_
      refine wl_end [(2, _), (7, _), (8, _), (10, _), (11, _), (13, _), (82, _), (83, _), (84, _)] ⟨rfl, rfl, rfl, rfl, rfl, rfl, rfl, rfl, rfl, trivial⟩ ?_
      refine w_block ?_
      refine w_loop (fun kk m' H w' => ∃ j : Nat, m' = [(2, .slice (some ⟨b2, off, .none⟩) L2.length c2), (7, .int .i64 m), (8, .pointer (some ⟨t, 0, .none⟩)), (10, .pointer (some ⟨bd, 0, .none⟩)), (11, .int .i64 i), (13, .int .u64 ((fb + lsum (es.take j) : Nat) : Int)), (82, .slice Ae es.length ce), (83, .int .i64 es.length), (84, .int .i64 j)] ∧
        H = [row (.slice Ae es.length ce) 34 3 es.length (encs es), r, deck bd (.slice A1 L1.length c1) p] ∧ kk + j = es.length) es.length ⟨0, rfl, rfl, rfl⟩ ?_
      rintro kk4 _ _ w13 ⟨j, rfl, rfl, hkk4⟩
      refine w_seq ?_
      refine w_reg ?_
      refine wl_f (f_lss rfl rfl) ?_
      refine wl_end [(2, _), (7, _), (8, _), (10, _), (11, _), (13, _), (82, _), (83, _), (84, _), (85, _)] ⟨rfl, rfl, rfl, rfl, rfl, rfl, rfl, rfl, rfl, rfl, trivial⟩ ?_
      refine w_seq ?_
      refine w_ifd rfl (fun hc6 => ?_) (fun hc6 => ?_)
      · skip
        have hj : j < es.length := by
          have : (j : Int) < (es.length : Int) := hc6
          omega
        obtain ⟨x, hx⟩ : ∃ x, es[j]? = some x := ⟨_, List.getElem?_eq_getElem hj⟩
        have hxs : (es.map some)[j]? = some (some x) := by rw [List.getElem?_map, hx]; rfl
        have hst := lsum_take hx
        have hle := lsum_take_le es (j + 1)
        obtain ⟨ix, hix⟩ := mem_fm.1 (hes.mem_iff.1 (List.mem_of_getElem? hx))
        have hxb := hB.ge _ _ _ _ hix
        refine w_with fun hh => ?_
        obtain ⟨ge, ce2, e⟩ := row_form hh (i := 0) rfl (by omega)
        cases e
        clear hh
        refine w_skip ?_
        refine w_seq ?_
        refine w_block ?_
        refine w_seq ?_
        refine w_reg ?_
        refine wl_f (f_indexAddr 3 (i := j) rfl rfl Try.underlying43 (by kernel_rfl) rfl hj) ?_
        refine wl_f (f_loadsr (cs := ecell (some x)) 0 rfl Try.underlying34 rfl (by kernel_rfl) rfl (ecells_get hxs)) ?_
        refine wl_e (e_allocs [.string ByteArray.empty, .int .u64 0, .int .u64 0] (by kernel_rfl)) ?_
        rintro _ _ w20_2 ⟨b20_2, rfl, rfl⟩
        (first | refine wl_e0 (e_store0 (us := [_, _, _]) rfl rfl rfl (by kernel_rfl) (by simp [Value.oneCell']) rfl rfl) ?_ | refine wl_e0 (e_store1 (us := [_, _, _]) rfl rfl rfl (by kernel_rfl) (by simp [Value.oneCell']) rfl rfl) ?_ | refine wl_e0 (e_store2 (us := [_, _, _]) rfl rfl rfl (by kernel_rfl) (by simp [Value.oneCell']) rfl rfl) ?_ | refine wl_e0 (e_store3 (us := [_, _, _]) rfl rfl rfl (by kernel_rfl) (by simp [Value.oneCell']) rfl rfl) ?_)
        rintro _ _ w20_3 rfl
        refine wl_end [(2, _), (7, _), (8, _), (10, _), (11, _), (13, _), (15, _), (82, _), (83, _), (84, _)] ⟨rfl, rfl, rfl, rfl, rfl, rfl, rfl, rfl, rfl, rfl, trivial⟩ ?_
        refine w_seq ?_
        refine w_seq ?_
        refine w_pick [0, 0, 1, 0] rfl ?_
        refine w_draw [(0, true), (1, true), (2, true), (3, true), (4, true), (5, true), (6, false), (7, true)] ([_, _, _]) ([_]) mixed (by kernel_rfl) (by kernel_rfl) rfl (List.Perm.refl _) (fun w21_ => ?_)
        refine wd_f rfl (f_fieldAddr 1 rfl Try.underlying34 rfl rfl (by kernel_rfl)) ?_
        (first | refine wd_f rfl (f_loadb 0 rfl Try.underlying30 rfl rfl rfl) ?_ | refine wd_f rfl (f_loadb 1 rfl Try.underlying30 rfl rfl rfl) ?_ | refine wd_f rfl (f_loadb 2 rfl Try.underlying30 rfl rfl rfl) ?_ | refine wd_f rfl (f_loadb 3 rfl Try.underlying30 rfl rfl rfl) ?_ | refine wd_f rfl (f_loadb 4 rfl Try.underlying30 rfl rfl rfl) ?_ | refine wd_f rfl (f_loadb 5 rfl Try.underlying30 rfl rfl rfl) ?_ | refine wd_f rfl (f_loadb 6 rfl Try.underlying30 rfl rfl rfl) ?_)
        refine wd_f rfl (f_fieldAddr 2 rfl Try.underlying34 rfl rfl (by kernel_rfl)) ?_
        (first | refine wd_f rfl (f_loadb 0 rfl Try.underlying30 rfl rfl rfl) ?_ | refine wd_f rfl (f_loadb 1 rfl Try.underlying30 rfl rfl rfl) ?_ | refine wd_f rfl (f_loadb 2 rfl Try.underlying30 rfl rfl rfl) ?_ | refine wd_f rfl (f_loadb 3 rfl Try.underlying30 rfl rfl rfl) ?_ | refine wd_f rfl (f_loadb 4 rfl Try.underlying30 rfl rfl rfl) ?_ | refine wd_f rfl (f_loadb 5 rfl Try.underlying30 rfl rfl rfl) ?_ | refine wd_f rfl (f_loadb 6 rfl Try.underlying30 rfl rfl rfl) ?_)
        refine wd_f rfl (f_eqv (v' := .int .u64 ((x.2.1 + x.2.2 : Nat) : Int)) (f_addu rfl rfl (by omega)) (by rw [Int.natCast_add])) ?_
        refine wd_f rfl (f_move rfl) ?_
        refine wd_e rfl (e_call1 r [_, _, _] rfl Try.func14 (by kernel_rfl) (pk1 3 rfl) (fun w hh hs => svuntracked_spec t m E base total r w hr hs)) ?_
        rintro _ _ w14 ⟨_, rfl, rfl, rfl⟩
        refine ⟨_, List.perm_append_comm, ?_⟩
        refine wd_f rfl (f_lss rfl rfl) ?_
        refine wd_end [(2, _), (7, _), (8, _), (10, _), (11, _), (13, _), (15, _), (82, _), (83, _), (84, _), (95, _)] ⟨rfl, rfl, rfl, rfl, rfl, rfl, rfl, rfl, rfl, rfl, rfl, trivial⟩ ?_
        refine w_ifd rfl (fun h => absurd (show ((x.2.1 + x.2.2 : Nat) : Int) < (base : Int) from h) (by omega)) (fun _ => ?_)
        refine w_skip ?_
        refine w_reg ?_
        refine wl_f (f_move rfl) ?_
        refine wl_f (f_fieldAddr 1 rfl Try.underlying34 rfl rfl (by kernel_rfl)) ?_
        (first | refine wl_f (f_loadb 0 rfl Try.underlying30 rfl rfl rfl) ?_ | refine wl_f (f_loadb 1 rfl Try.underlying30 rfl rfl rfl) ?_ | refine wl_f (f_loadb 2 rfl Try.underlying30 rfl rfl rfl) ?_ | refine wl_f (f_loadb 3 rfl Try.underlying30 rfl rfl rfl) ?_ | refine wl_f (f_loadb 4 rfl Try.underlying30 rfl rfl rfl) ?_ | refine wl_f (f_loadb 5 rfl Try.underlying30 rfl rfl rfl) ?_ | refine wl_f (f_loadb 6 rfl Try.underlying30 rfl rfl rfl) ?_)
        refine wl_f (f_fieldAddr 2 rfl Try.underlying34 rfl rfl (by kernel_rfl)) ?_
        (first | refine wl_f (f_loadb 0 rfl Try.underlying30 rfl rfl rfl) ?_ | refine wl_f (f_loadb 1 rfl Try.underlying30 rfl rfl rfl) ?_ | refine wl_f (f_loadb 2 rfl Try.underlying30 rfl rfl rfl) ?_ | refine wl_f (f_loadb 3 rfl Try.underlying30 rfl rfl rfl) ?_ | refine wl_f (f_loadb 4 rfl Try.underlying30 rfl rfl rfl) ?_ | refine wl_f (f_loadb 5 rfl Try.underlying30 rfl rfl rfl) ?_ | refine wl_f (f_loadb 6 rfl Try.underlying30 rfl rfl rfl) ?_)
        refine wl_f (f_eqv (v' := .int .u64 ((x.2.1 + x.2.2 : Nat) : Int)) (f_addu rfl rfl (by omega)) (by rw [Int.natCast_add])) ?_
        refine wl_f (f_eqv (v' := .int .u64 ((fb + lsum (es.take (j + 1)) : Nat) : Int)) (f_addu rfl rfl (by omega)) (by rw [hst, ← Nat.add_assoc]; exact congrArg (Value.int .u64) (Int.natCast_add _ _).symm)) ?_
        refine wl_f (f_assign rfl) ?_
        refine wl_pick [1, 2, 1] rfl ?_
        refine wl_end [(2, _), (7, _), (8, _), (10, _), (11, _), (13, _), (82, _), (83, _), (84, _)] ⟨rfl, rfl, rfl, rfl, rfl, rfl, rfl, rfl, rfl, trivial⟩ ?_
        refine w_reg ?_
        refine wl_f (f_add rfl rfl (by omega)) ?_
        refine wl_f (f_move rfl) ?_
        refine wl_end [(2, _), (7, _), (8, _), (10, _), (11, _), (13, _), (82, _), (83, _), (84, _)] ⟨rfl, rfl, rfl, rfl, rfl, rfl, rfl, rfl, rfl, trivial⟩ ?_
        exact ⟨kk4 - 1, by omega, j + 1, rfl, rfl, by omega⟩
      · skip
        have hj : j = es.length := by
          have : ¬ (j : Int) < (es.length : Int) := hc6
          omega
        subst hj
        rw [List.take_length, hsum]
        refine w_exit0 ?_
        refine w_seq ?_
        refine w_reg ?_
        refine wl_f (f_move rfl) ?_
        refine wl_e (e_call1 r [_, _] rfl Try.func19 (by kernel_rfl) (pk1 1 rfl) (fun w hh hs => svlen_spec t m E base total r w hr hs)) ?_
        rintro _ _ w15 ⟨_, rfl, rfl, rfl⟩
        rw [hcn]
        refine wl_f (f_move rfl) ?_
        refine wl_f (f_eqv (v' := .bool false) (f_gtr rfl rfl) (by rw [decide_eq_false (by omega)])) ?_
        refine wl_f (f_move rfl) ?_
        refine wl_or (j := 4) (c := false) 4 [(2, _), (7, _), (8, _), (10, _), (11, _)] ⟨rfl, rfl, rfl, rfl, rfl, trivial⟩ rfl rfl rfl rfl rfl (fun hg25_9 => ?_) (fun w25_9 => ?_)
        · skip
          refine wl_gf rfl rfl (f_move rfl) ?_
          refine wl_gf rfl rfl (f_move rfl) ?_
          refine wl_ge rfl rfl (e_call1 r [_, _] rfl Try.func12 (by kernel_rfl) (List.Perm.refl _) (fun w hh hs => svtotal_spec t m E base total r w hr hs)) ?_
          rintro _ _ w16 ⟨_, rfl, rfl, rfl⟩
          refine wl_gf rfl rfl (f_eqv (v' := .bool false) (f_gtr rfl rfl) (by rw [decide_eq_false (by omega)])) ?_
          exact wl_pend rfl rfl ⟨rfl, rfl, rfl, rfl, rfl, trivial⟩ (List.Sublist.refl _)
        refine wl_f (f_move rfl) ?_
        refine wl_or (j := 10) (c := false) 8 [(2, _), (7, _), (8, _), (10, _), (11, _)] ⟨rfl, rfl, rfl, rfl, rfl, trivial⟩ rfl rfl rfl rfl rfl (fun hg25_19 => ?_) (fun w25_19 => ?_)
        · skip
          refine wl_gf rfl rfl (f_move rfl) ?_
          refine wl_gf rfl rfl (f_convu rfl Try.underlying3 Try.underlying30 (by omega)) ?_
          refine wl_gf rfl rfl (f_move rfl) ?_
          refine wl_ge rfl rfl (e_call1 r [_, _] rfl Try.func14 (by kernel_rfl) (List.Perm.refl _) (fun w hh hs => svuntracked_spec t m E base total r w hr hs)) ?_
          rintro _ _ w17 ⟨_, rfl, rfl, rfl⟩
          refine wl_gf rfl rfl (f_eqv (v' := .int .u64 (mb : Int)) (f_mulu rfl rfl (by rw [← Int.natCast_mul, hmbe]; omega)) (by rw [← Int.natCast_mul, hmbe])) ?_
          refine wl_gf rfl rfl (f_move rfl) ?_
          refine wl_ge rfl rfl (e_call1 r [_, _] rfl Try.func12 (by kernel_rfl) (List.Perm.refl _) (fun w hh hs => svtotal_spec t m E base total r w hr hs)) ?_
          rintro _ _ w18 ⟨_, rfl, rfl, rfl⟩
          refine wl_gf rfl rfl (f_eqv (v' := .bool false) (f_gtr rfl rfl) (by rw [decide_eq_false (by omega)])) ?_
          exact wl_pend rfl rfl ⟨rfl, rfl, rfl, rfl, rfl, trivial⟩ (List.Sublist.refl _)
        refine wl_pick [0, 1] rfl ?_
        refine wl_end [(2, _), (7, _), (8, _), (10, _), (11, _), (123, _)] ⟨rfl, rfl, rfl, rfl, rfl, rfl, trivial⟩ ?_
        refine w_iff rfl ?_
        refine w_skip ?_
        refine w_reg ?_
        refine wl_f (f_move rfl) ?_
        refine wl_f (f_add rfl rfl (by omega)) ?_
        refine wl_f (f_assign rfl) ?_
        refine wl_end [(2, _), (7, _), (8, _), (10, _), (11, _)] ⟨rfl, rfl, rfl, rfl, rfl, trivial⟩ ?_
        exact ⟨kk - 1, by omega, i + 1, E, base, total, r, p, rfl, rfl, hr, ht, hB, by omega, by omega, hp⟩
  · skip
    refine w_exit0 ?_
    refine w_seq ?_
    refine w_reg ?_
    refine wl_e (e_call0 rfl Try.func13 (by kernel_rfl) (fun w hh => awake13_spec w)) ?_
    rintro _ _ w20 ⟨_, rfl, rfl⟩
    refine wl_f (f_assign rfl) ?_
    refine wl_end [(6, _)] ⟨rfl, trivial⟩ ?_
    refine w_ret ?_
    refine ⟨_, _, fun a ha hh => results_tmps Try.results6 rfl a ha _, List.Sublist.refl _, ?_⟩
    rfl
end Go.Proofs.Ytbcfdgnpdaaleaa
