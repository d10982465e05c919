/- The helpers of the laws on tags: the made list, short texts, the sanity check. -/
import Derived.Test.YthomfpfjcniknaaD13
import Derived.Test.YthomfpfjcniknaaD7
namespace Go.Proofs.Ythomfpfjcniknaa
open Go.RowKit

theorem short_spec (s : ByteArray) (w : World) (hs : s.size ≤ 140737488355328) : Spec Try.prog 27 [.string s] w Nil fun r H => ∃ s' : ByteArray, r = .string s' ∧ s'.size ≤ 80 ∧ H = [] := by
  refine enter (n := 8) Try.func27 rfl rfl [(0, _)] rfl ⟨rfl, trivial⟩ (Holds.start _ _) ?_
  refine w_seq ?_
  refine w_reg ?_
  refine wl_f (f_assign rfl) ?_
  refine wl_end [(0, _)] ⟨rfl, trivial⟩ ?_
  refine w_seq ?_
  refine w_reg ?_
  refine wl_f (f_move rfl) ?_
  refine wl_f (f_move rfl) ?_
  refine wl_f (f_lens rfl Try.underlying9) ?_
  refine wl_f (f_min (r := ((min s.size 80 : Nat) : Int)) rfl rfl (by split <;> omega)) ?_
  refine wl_f (f_slices (l := 0) (u := min s.size 80) rfl Try.underlying9 rfl ⟨_, rfl⟩ (by omega) (by omega)) ?_
  refine wl_f (f_assign rfl) ?_
  refine wl_end [(2, _)] ⟨rfl, trivial⟩ ?_
  refine w_ret ?_
  refine ⟨_, _, fun a ha hh => results_tmps Try.results27 rfl a ha _, List.Sublist.refl _, ?_⟩
  exact ⟨_, rfl, by rw [ByteArray.size_extract]; omega, rfl⟩

theorem and_bound (x : Int) (m : Nat) (hm : m < 9223372036854775808) : 0 ≤ bits .and .i64 x m ∧ bits .and .i64 x m ≤ m := by
  have h : bits .and .i64 x m = IntKind.i64.wrap ((BitVec.ofInt 64 x &&& BitVec.ofInt 64 (m : Int)).toNat : Int) := rfl
  have h2 : (BitVec.ofInt 64 (m : Int)).toNat = m := by
    rw [BitVec.toNat_ofInt]; omega
  have h3 : (BitVec.ofInt 64 x &&& BitVec.ofInt 64 (m : Int)).toNat ≤ m := by
    rw [BitVec.toNat_and, h2]; exact Nat.and_le_right
  rw [h, IntKind.wrap_i64]
  omega
theorem tc_set0 (a b : List Tg) (x : Tg) (s : ByteArray) {i : Nat} (h : a.length = i) : (tcells (a ++ x :: b)).take (0 + i * 2 + 0) ++ [.string s] ++ (tcells (a ++ x :: b)).drop (0 + i * 2 + 0 + 1) = tcells (a ++ (s, x.2) :: b) := by
  have hA : (tcells a).length = i * 2 := by rw [tcells_len, h]
  rw [tcells_app, tcells_app, tcells_cons, tcells_cons, show 0 + i * 2 + 0 = (tcells a).length by omega, List.take_left, List.drop_append]
  simp
theorem tc_set1 (a b : List Tg) (x : Tg) (s : ByteArray) {i : Nat} (h : a.length = i) : (tcells (a ++ x :: b)).take (0 + i * 2 + 1) ++ [.string s] ++ (tcells (a ++ x :: b)).drop (0 + i * 2 + 1 + 1) = tcells (a ++ (x.1, s) :: b) := by
  have hA : (tcells a).length = i * 2 := by rw [tcells_len, h]
  rw [tcells_app, tcells_app, tcells_cons, tcells_cons, show 0 + i * 2 + 1 = (tcells a).length + 1 by omega, List.take_append, List.drop_append, List.take_of_length_le (i := (tcells a).length + 1) (l := tcells a) (by omega),
    (List.drop_eq_nil_of_le (by omega) : (tcells a).drop ((tcells a).length + 1 + 1) = []), show (tcells a).length + 1 - (tcells a).length = 1 by omega, show (tcells a).length + 1 + 1 - (tcells a).length = 2 by omega]
  simp
theorem tc_set0' {l a b : List Tg} {x : Tg} (s : ByteArray) {i : Nat} (hl : l = a ++ x :: b) (h : a.length = i) : (tcells l).take (0 + i * 2 + 0) ++ [.string s] ++ (tcells l).drop (0 + i * 2 + 0 + 1) = tcells (a ++ (s, x.2) :: b) := by
  subst hl; exact tc_set0 a b x s h
theorem tc_set1' {l a b : List Tg} {x : Tg} (s : ByteArray) {i : Nat} (hl : l = a ++ x :: b) (h : a.length = i) : (tcells l).take (0 + i * 2 + 1) ++ [.string s] ++ (tcells l).drop (0 + i * 2 + 1 + 1) = tcells (a ++ (x.1, s) :: b) := by
  subst hl; exact tc_set1 a b x s h

def good (t : Tg) : Prop := 1 ≤ t.1.size ∧ (sb t.1).all nb = true ∧ t.1.size ≤ 39 ∧ t.2.size ≤ 40
theorem sb_extract (s : ByteArray) (a b : Nat) : ∀ x ∈ sb (s.extract a b), x ∈ sb s := by
  intro x hx
  simp only [sb, ByteArray.data_extract, Array.toList_extract, List.extract_eq_take_drop, List.mem_map] at hx ⊢
  obtain ⟨y, hy, rfl⟩ := hx
  exact ⟨y, List.mem_of_mem_drop (List.mem_of_mem_take hy), rfl⟩
def abc : ByteArray := ⟨#[97, 98, 99, 100, 101, 102, 103, 104, 105, 106, 107, 108, 109, 110, 111, 112, 95, 46, 45, 48, 49, 50, 51, 52, 53, 54, 55, 56, 57, 113, 114, 115, 116, 117, 118, 119, 120, 121, 122]⟩
theorem good_made (a b c : Nat) (v : ByteArray) (ha : a < 20) (hb : b < 20) (hc : c < 41) (hv : v.size = 40) : good (abc.extract a (20 + b), v.extract 0 c) := by
  have hs : abc.size = 39 := rfl
  refine ⟨?_, ?_, ?_, ?_⟩
  · rw [ByteArray.size_extract]; omega
  · rw [List.all_eq_true]
    intro x hx
    have h := sb_extract _ _ _ x hx
    have hall : (sb abc).all nb = true := by decide +kernel
    exact List.all_eq_true.1 hall x h
  · rw [ByteArray.size_extract]; omega
  · rw [ByteArray.size_extract]; omega

set_option maxHeartbeats 1000000 in
theorem list_spec (A : Option Addr) (l c : Nat) (L : List Int) (at_ : Int) (nm vl : ByteArray) (w : World) (hd : Rd w Nil 1 (.slice A l c) L.length (iv L)) (hL : L.length ≤ 140737488355328) :
    Spec Try.prog 31 [.slice A l c, .int .i64 at_, .string nm, .string vl] w Nil fun r H => ∃ tags, H = [row r 35 2 tags.length (tcells tags)] ∧ tags.length ≤ 9 ∧
      (at_ = 0 → ∀ t ∈ tags, good t) ∧ ∀ t ∈ tags, t.1.size ≤ 39 + nm.size := by
  refine enter (n := 63) Try.func31 rfl rfl [(0, _), (1, _), (2, _), (3, _)] rfl ⟨rfl, rfl, rfl, rfl, trivial⟩ (Holds.start _ _) ?_
  refine w_seq ?_
  refine w_reg ?_
  refine wl_f (f_assign rfl) ?_
  refine wl_end [(0, _), (1, _), (2, _), (3, _)] ⟨rfl, rfl, rfl, rfl, trivial⟩ ?_
  refine w_seq ?_
  refine w_reg ?_
  refine wl_f (f_move rfl) ?_
  refine wl_e (e_call0 rfl Try.func17 (by kernel_rfl) (fun w hh => new_spec A l c w)) ?_
  rintro _ _ w1 ⟨_, rfl, b, rfl, rfl⟩
  refine wl_f (f_assign rfl) ?_
  refine wl_end [(1, _), (2, _), (3, _), (9, _)] ⟨rfl, rfl, rfl, rfl, trivial⟩ ?_
  refine w_seq ?_
  refine w_reg ?_
  refine wl_f (f_assign rfl) ?_
  refine wl_end [(1, _), (2, _), (3, _), (9, _), (10, _)] ⟨rfl, rfl, rfl, rfl, rfl, trivial⟩ ?_
  refine w_seq ?_
  refine w_seq ?_
  refine w_reg ?_
  refine wl_f (f_move rfl) ?_
  refine wl_e (e_call1 (deck b (.slice A l c) 0) [] rfl Try.func37 (by kernel_rfl) (List.Perm.refl _) (fun w hh hs' => next_spec b _ L 0 10 w ⟨hd.old1 hh (Hr := []) (List.Perm.refl _), hL, Nat.zero_le _⟩ hs' (by omega))) ?_
  rintro _ _ w2 ⟨_, rfl, k0, p0, rfl, hk0, rfl, hp0⟩
  refine wl_f (f_assign rfl) ?_
  refine wl_end [(1, _), (2, _), (3, _), (9, _), (10, _), (11, _)] ⟨rfl, rfl, rfl, rfl, rfl, rfl, trivial⟩ ?_
  refine w_block ?_
  refine w_nilrow 35 2 ?_
  refine w_loop (fun k m H w => ∃ (u : Value) (tags : List Tg) (p : Nat), m = [(1, .int .i64 at_), (2, .string nm), (3, .string vl), (9, .pointer (some ⟨b, 0, .none⟩)), (10, u), (11, .int .i64 k)] ∧
    H = [row u 35 2 tags.length (tcells tags), deck b (.slice A l c) p] ∧ tags.length + k ≤ 9 ∧ (∀ t ∈ tags, good t) ∧ p ≤ L.length) k0 ⟨_, [], p0, rfl, rfl, by simp; omega, by simp, hp0⟩ ?_
  rintro k _ _ w3 ⟨u, tags, p, rfl, rfl, hk, hgood, hp⟩
  refine w_seq ?_
  refine w_seq ?_
  refine w_reg ?_
  refine wl_f (f_move rfl) ?_
  refine wl_f (f_gtr rfl rfl) ?_
  refine wl_end [(1, _), (2, _), (3, _), (9, _), (10, _), (11, _), (18, _)] ⟨rfl, rfl, rfl, rfl, rfl, rfl, rfl, trivial⟩ ?_
  refine w_ifd rfl (fun hc1 => ?_) (fun hc1 => ?_)
  · skip
    refine w_skip ?_
    refine w_seq ?_
    refine w_block ?_
    refine w_draw [(0, true), (1, true), (3, true), (7, true), (2, false), (4, false), (5, true), (6, true), (8, false), (9, true), (10, true), (11, false), (12, false), (13, true)] ([]) ([_, _]) mixed (by kernel_rfl) (by kernel_rfl) rfl (List.Perm.refl _) (fun w6_ => ?_)
    refine wd_f rfl (f_move rfl) ?_
    refine wd_f rfl (f_move rfl) ?_
    refine wd_f rfl (f_move rfl) ?_
    refine wd_f rfl (f_move rfl) ?_
    refine wd_e rfl (e_call1 (deck b (.slice A l c) p) [_] rfl Try.func37 (by kernel_rfl) (List.Perm.swap ..) (fun w hh hs' => next_spec b _ L p 20 w ⟨hd.old1 hh (List.Perm.swap ..), hL, hp⟩ hs' (by omega))) ?_
    rintro _ _ w4 ⟨_, rfl, z1, p1, rfl, hz1, rfl, hp1⟩
    refine ⟨_, List.Perm.refl _, ?_⟩
    refine wd_e rfl (e_call1 (deck b (.slice A l c) p1) [_] rfl Try.func37 (by kernel_rfl) (List.Perm.refl _) (fun w hh hs' => next_spec b _ L p1 20 w ⟨hd.old1 hh (Hr := [_]) (List.Perm.refl _), hL, hp1⟩ hs' (by omega))) ?_
    rintro _ _ w5 ⟨_, rfl, z2, p2, rfl, hz2, rfl, hp2⟩
    refine ⟨_, List.Perm.refl _, ?_⟩
    refine wd_f rfl (f_add rfl rfl (by omega)) ?_
    refine wd_f rfl (f_slices (l := z1) (u := 20 + z2) rfl Try.underlying9 ⟨_, rfl⟩ ⟨_, rfl⟩ (by omega) (show 20 + z2 ≤ 39 by omega)) ?_
    refine wd_e rfl (e_call1 (deck b (.slice A l c) p2) [_] rfl Try.func37 (by kernel_rfl) (List.Perm.refl _) (fun w hh hs' => next_spec b _ L p2 41 w ⟨hd.old1 hh (Hr := [_]) (List.Perm.refl _), hL, hp2⟩ hs' (by omega))) ?_
    rintro _ _ w6 ⟨_, rfl, z3, p3, rfl, hz3, rfl, hp3⟩
    refine ⟨_, List.Perm.refl _, ?_⟩
    refine wd_f rfl (f_slices (l := 0) (u := z3) rfl Try.underlying9 rfl ⟨_, rfl⟩ (by omega) (show z3 ≤ 40 by omega)) ?_
    refine wd_f rfl (f_build rfl (fun w => build_tag _ _ w)) ?_
    refine wd_e rfl (e_lit1 (cs := [_, _]) t22 rfl rfl rfl (by omega)) ?_
    rintro _ _ w6_11 ⟨b6_11, rfl, rfl⟩
    refine ⟨_, List.perm_middle.symm, ?_⟩
    refine wd_e rfl (e_app2 t22 rfl rfl (fun w hh => Rd.held0 hh (i := 0) rfl) (by simp [Value.oneCell']) (by omega) (by omega)) ?_
    rintro v6_12 _ w6_12 rfl
    refine ⟨_, List.Perm.refl _, ?_⟩
    refine wd_f rfl (f_assign rfl) ?_
    refine wd_endp [(1, _), (2, _), (3, _), (9, _), (10, _), (11, _)] [2, 1] ⟨rfl, rfl, rfl, rfl, rfl, rfl, trivial⟩ rfl ?_
    refine w_reg ?_
    refine wl_f (f_move rfl) ?_
    refine wl_f (f_sub rfl rfl (by omega)) ?_
    refine wl_f (f_assign rfl) ?_
    refine wl_end [(1, _), (2, _), (3, _), (9, _), (10, _), (11, _)] ⟨rfl, rfl, rfl, rfl, rfl, rfl, trivial⟩ ?_
    refine ⟨k - 1, by omega, _, tags ++ [(abc.extract z1 (20 + z2), _)], p3, by rw [show ((k - 1 : Nat) : Int) = (k : Int) - 1 by omega], by rw [tcells_app, List.length_append]; rfl, by simp; omega, ?_, hp3⟩
    intro t ht
    rcases List.mem_append.1 ht with ht | ht
    · exact hgood t ht
    · rw [List.mem_singleton] at ht
      subst ht
      exact good_made z1 z2 z3 _ hz1 hz2 hz3 rfl
  · skip
    refine w_rm1 ?_
    refine w_with fun hh => ?_
    obtain ⟨U, cu, rfl⟩ := row_slice hh (i := 0) rfl
    clear hh
    refine w_exit0 ?_
    refine w_seq ?_
    refine w_seq ?_
    refine w_reg ?_
    refine wl_f (f_move rfl) ?_
    refine wl_f (f_shr rfl rfl (by omega) rfl) ?_
    refine wl_f (f_and rfl rfl rfl) ?_
    generalize hq0 : bits .and .i64 _ 15 = q0
    have hq1 := and_bound (at_.fdiv (2 ^ min (Int.toNat 2) IntKind.i64.bits)) 15 (by omega)
    have hq2 : 0 ≤ q0 ∧ q0 ≤ 15 := hq0 ▸ hq1
    obtain ⟨q, rfl⟩ : ∃ q : Nat, q0 = q := ⟨q0.toNat, by omega⟩
    refine wl_f (f_assign rfl) ?_
    refine wl_end [(1, _), (2, _), (3, _), (10, _), (12, _)] ⟨rfl, rfl, rfl, rfl, rfl, trivial⟩ ?_
    refine w_seq ?_
    refine w_reg ?_
    refine wl_f (f_move rfl) ?_
    refine wl_f (f_move rfl) ?_
    refine wl_f (f_len rfl Try.underlying22) ?_
    refine wl_f (f_lss rfl rfl) ?_
    refine wl_f (f_move rfl) ?_
    refine wl_and (j := 4) (c := decide (0 < bits .and .i64 at_ 3)) 3 [(1, _), (2, _), (3, _), (10, _), (12, _)] ⟨rfl, rfl, rfl, rfl, rfl, trivial⟩ rfl rfl rfl rfl rfl (fun hg8_8 => ?_) (fun w8_8 => ?_)
    · skip
      refine wl_gf rfl rfl (f_move rfl) ?_
      refine wl_gf rfl rfl (f_and rfl rfl rfl) ?_
      refine wl_gf rfl rfl (f_gtr rfl rfl) ?_
      exact wl_pend rfl rfl ⟨rfl, rfl, rfl, rfl, rfl, trivial⟩ (List.Sublist.refl _)
    refine wl_end [(1, _), (2, _), (3, _), (10, _), (12, _), (45, _)] ⟨rfl, rfl, rfl, rfl, rfl, rfl, trivial⟩ ?_
    refine w_post (fun m H w => ∃ (u : Value) (tags : List Tg), m = [(10, u)] ∧ H = [row u 35 2 tags.length (tcells tags)] ∧ tags.length ≤ 9 ∧ (at_ = 0 → ∀ t ∈ tags, good t) ∧ ∀ t ∈ tags, t.1.size ≤ 39 + nm.size) ?_ ?_
    · skip
      refine w_ifb rfl (fun hc2 => ?_) (fun hc2 => ?_)
      · skip
        simp only [Bool.and_eq_true, decide_eq_true_eq] at hc2
        have hat : at_ ≠ 0 := by
          rintro rfl
          have : bits .and .i64 0 3 = 0 := by decide
          omega
        refine w_with fun hh => ?_
        obtain ⟨g, cap, e⟩ := row_form hh (i := 0) rfl (by omega)
        injection e with e1 _ e3
        subst e1; subst e3
        clear hh
        refine w_seq ?_
        refine w_seq ?_
        refine w_reg ?_
        refine wl_f (f_move rfl) ?_
        refine wl_f (f_and rfl rfl rfl) ?_
        refine wl_f (f_neq rfl rfl) ?_
        refine wl_end [(1, _), (2, _), (3, _), (10, _), (12, _), (48, _)] ⟨rfl, rfl, rfl, rfl, rfl, rfl, trivial⟩ ?_
        refine w_post (fun m H w => ∃ tags' : List Tg, m = [(1, .int .i64 at_), (3, .string vl), (10, .slice (some ⟨g, 0, .none⟩) tags.length cu), (12, .int .i64 q)] ∧ H = [row (.slice (some ⟨g, 0, .none⟩) tags.length cu) 35 2 tags.length (tcells tags')] ∧
        tags'.length = tags.length ∧ ∀ t ∈ tags', t.1.size ≤ 39 + nm.size) ?_ ?_
        · skip
          refine w_ifd rfl (fun hc3 => ?_) (fun hc3 => ?_)
          · skip
            obtain ⟨t, ht⟩ : ∃ t, tags[q]? = some t := ⟨tags[q]'(by omega), List.getElem?_eq_getElem (by omega)⟩
            obtain ⟨hlt, het⟩ := List.getElem?_eq_some_iff.1 ht
            have hsp : tags = tags.take q ++ t :: tags.drop (q + 1) := by rw [← het, ← List.drop_eq_getElem_cons hlt, List.take_append_drop]
            have htl : (tags.take q).length = q := by rw [List.length_take]; omega
            refine w_reg ?_
            refine wl_f (f_move rfl) ?_
            refine wl_f (f_move rfl) ?_
            refine wl_f (f_move rfl) ?_
            refine wl_f (f_indexAddr 2 rfl rfl Try.underlying22 (by kernel_rfl) rfl (by omega)) ?_
            refine wl_f (f_fieldAddr 0 rfl Try.underlying35 rfl rfl (by kernel_rfl)) ?_
            refine wl_e0 (e_storer0 (us := [.string nm]) (xs' := tcells (tags.take q ++ (nm, t.2) :: tags.drop (q + 1))) rfl rfl rfl (by kernel_rfl) (by simp [Value.oneCell']) (by rw [tcells_len]; show 0 + q * 2 + 0 + 1 ≤ _; omega) (tc_set0' _ hsp htl)) ?_
            rintro _ _ w10_5 rfl
            refine wl_end [(1, _), (3, _), (10, _), (12, _)] ⟨rfl, rfl, rfl, rfl, trivial⟩ ?_
            refine ⟨_, rfl, rfl, by simp; omega, fun x hx => ?_⟩
            rcases List.mem_append.1 hx with hx | hx
            · have := (hgood x (List.mem_of_mem_take hx)).2.2.1; omega
            · rcases List.mem_cons.1 hx with rfl | hx
              · show nm.size ≤ _; omega
              · have := (hgood x (List.mem_of_mem_drop hx)).2.2.1; omega
          · skip
            refine w_sub [(1, _), (3, _), (10, _), (12, _)] ⟨rfl, rfl, rfl, rfl, trivial⟩ (w_skip ?_)
            exact ⟨tags, rfl, rfl, rfl, fun x hx => by have := (hgood x hx).2.2.1; omega⟩
        · rintro _ _ w7 ⟨tags', rfl, rfl, hl', hn'⟩
          refine w_seq ?_
          refine w_reg ?_
          refine wl_f (f_move rfl) ?_
          refine wl_f (f_and rfl rfl rfl) ?_
          refine wl_f (f_neq rfl rfl) ?_
          refine wl_end [(3, _), (10, _), (12, _), (56, _)] ⟨rfl, rfl, rfl, rfl, trivial⟩ ?_
          refine w_ifd rfl (fun hc4 => ?_) (fun hc4 => ?_)
          · skip
            obtain ⟨t, ht⟩ : ∃ t, tags'[q]? = some t := ⟨tags'[q]'(by omega), List.getElem?_eq_getElem (by omega)⟩
            obtain ⟨hlt, het⟩ := List.getElem?_eq_some_iff.1 ht
            have hsp : tags' = tags'.take q ++ t :: tags'.drop (q + 1) := by rw [← het, ← List.drop_eq_getElem_cons hlt, List.take_append_drop]
            have htl : (tags'.take q).length = q := by rw [List.length_take]; omega
            refine w_reg ?_
            refine wl_f (f_move rfl) ?_
            refine wl_f (f_move rfl) ?_
            refine wl_f (f_move rfl) ?_
            refine wl_f (f_indexAddr 2 rfl rfl Try.underlying22 (by kernel_rfl) rfl (by omega)) ?_
            refine wl_f (f_fieldAddr 1 rfl Try.underlying35 rfl rfl (by kernel_rfl)) ?_
            refine wl_e0 (e_storer0 (us := [.string vl]) (xs' := tcells (tags'.take q ++ (t.1, vl) :: tags'.drop (q + 1))) rfl rfl rfl (by kernel_rfl) (by simp [Value.oneCell']) (by rw [tcells_len]; show 0 + q * 2 + 1 + 1 ≤ _; omega) (tc_set1' _ hsp htl)) ?_
            rintro _ _ w12_5 rfl
            refine wl_end [(10, _)] ⟨rfl, trivial⟩ ?_
            refine ⟨_, tags'.take q ++ (t.1, vl) :: tags'.drop (q + 1), rfl, ?_, by simp; omega, fun h => absurd h hat, fun x hx => ?_⟩
            · have : (tags'.take q ++ (t.1, vl) :: tags'.drop (q + 1)).length = tags.length := by simp; omega
              rw [this]
            · rcases List.mem_append.1 hx with hx | hx
              · exact hn' x (List.mem_of_mem_take hx)
              · rcases List.mem_cons.1 hx with rfl | hx
                · exact hn' t (List.mem_of_getElem? ht)
                · exact hn' x (List.mem_of_mem_drop hx)
          · skip
            refine w_sub [(10, _)] ⟨rfl, trivial⟩ (w_skip ?_)
            exact ⟨_, tags', rfl, by rw [hl'], by omega, fun h => absurd h hat, hn'⟩
      · skip
        refine w_sub [(10, _)] ⟨rfl, trivial⟩ (w_skip ?_)
        exact ⟨_, tags, rfl, rfl, by omega, fun _ => hgood, fun x hx => by have := (hgood x hx).2.2.1; omega⟩
    · rintro _ _ w8 ⟨u, tags8, rfl, rfl, h8, hg8, hn8⟩
      refine w_seq ?_
      refine w_reg ?_
      refine wl_f (f_move rfl) ?_
      refine wl_f (f_assign rfl) ?_
      refine wl_end [(8, _)] ⟨rfl, trivial⟩ ?_
      refine w_ret ?_
      refine ⟨_, _, fun a ha hh => results_tmps Try.results31 rfl a ha _, List.Sublist.refl _, ?_⟩
      exact ⟨tags8, rfl, h8, hg8, hn8⟩
end Go.Proofs.Ythomfpfjcniknaa
