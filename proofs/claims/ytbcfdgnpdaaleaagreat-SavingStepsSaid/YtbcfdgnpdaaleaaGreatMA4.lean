/- Texts of this proof, part MA4: what the code does, step by step. They have no conditions. -/
import Derived.Test.YtbcfdgnpdaaleaaGreatMA3
import Derived.Test.YtbcfdgnpdaaleaaGreatMA1
/- Tables: the example of the chapter. -/
namespace Go.Proofs.YtbcfdgnpdaaleaaGreat
open Go.RowKit

def sv (l : List ByteArray) : List Value := l.map Value.string
theorem sv_get {l : List ByteArray} {i : Nat} {s : ByteArray} (h : l[i]? = some s) : (sv l)[i * 1]? = some (.string s) := by simp [sv, h]
theorem TbR.nd {α : Type} {K : VI α} {b n : Nat} {T : List Nat} {seed : Int} {M : List (ByteArray × α)} {r : Res} (h : TbR K b n T seed M r) : (keys M).Nodup := by
  obtain ⟨N, cs, hC, hI, hM, hle, hsm⟩ := h
  exact (keys_perm hM).nodup_iff.1 hI.nd
theorem TbR.len {α : Type} {K : VI α} {b n : Nat} {T : List Nat} {seed : Int} {M : List (ByteArray × α)} {r : Res} (h : TbR K b n T seed M r) : M.length ≤ n := by
  obtain ⟨N, cs, hC, hI, hM, hle, hsm⟩ := h
  rw [← hM.length_eq]; exact hle
theorem small_of {s : ByteArray} (h : s.size ≤ 100) : small s := by unfold small; omega
end Go.Proofs.YtbcfdgnpdaaleaaGreat

/- The proof kit, twelfth part: the order of texts; sorted lists of texts. -/
namespace Go.Proofs.YtbcfdgnpdaaleaaGreat
open Go.RowKit

/-! ### The order of texts -/
theorem bl_irrefl : ∀ l : List UInt8, Op.bytesLess l l = false
  | [] => rfl
  | a :: l => by simp [Op.bytesLess, bl_irrefl l]
theorem bl_trans : ∀ a b c : List UInt8, Op.bytesLess a b = true → Op.bytesLess b c = true → Op.bytesLess a c = true
  | _, [], _, h, _ => by simp [Op.bytesLess] at h
  | _, _ :: _, [], _, h => by simp [Op.bytesLess] at h
  | [], _ :: _, _ :: _, _, _ => rfl
  | a :: x, b :: y, c :: z, h1, h2 => by
    simp only [Op.bytesLess, Bool.or_eq_true, Bool.and_eq_true, decide_eq_true_eq, beq_iff_eq] at *
    rcases h1 with h1 | ⟨rfl, h1⟩
    · rcases h2 with h2 | ⟨rfl, h2⟩
      · exact .inl (UInt8.lt_trans h1 h2)
      · exact .inl h1
    · rcases h2 with h2 | ⟨rfl, h2⟩
      · exact .inl h2
      · exact .inr ⟨rfl, bl_trans x y z h1 h2⟩
theorem bl_total : ∀ a b : List UInt8, Op.bytesLess a b = false → Op.bytesLess b a = false → a = b
  | [], [], _, _ => rfl
  | [], _ :: _, h, _ => by simp [Op.bytesLess] at h
  | _ :: _, [], _, h => by simp [Op.bytesLess] at h
  | a :: x, b :: y, h1, h2 => by
    simp only [Op.bytesLess, Bool.or_eq_false_iff, Bool.and_eq_false_iff, decide_eq_false_iff_not, beq_eq_false_iff_ne] at *
    have e : a = b := UInt8.le_antisymm (UInt8.not_lt.1 h2.1) (UInt8.not_lt.1 h1.1)
    subst e
    rw [bl_total x y (h1.2.resolve_left (by simp)) (h2.2.resolve_left (by simp))]
def nlt (a b : ByteArray) : Bool := Op.bytesLess a.data.toList b.data.toList
theorem nlt_irrefl (a : ByteArray) : nlt a a = false := bl_irrefl _
theorem nlt_trans {a b c : ByteArray} (h1 : nlt a b = true) (h2 : nlt b c = true) : nlt a c = true := bl_trans _ _ _ h1 h2
theorem nlt_total {a b : ByteArray} (h1 : nlt a b = false) (h2 : nlt b a = false) : a = b := by
  have := bl_total _ _ h1 h2
  cases a; cases b
  exact congrArg ByteArray.mk (Array.ext' this)
theorem nlt_ne {a b : ByteArray} (h : nlt a b = true) : a ≠ b := fun e => by subst e; rw [nlt_irrefl] at h; cases h
theorem nlt_asymm {a b : ByteArray} (h : nlt a b = true) : nlt b a = false := by
  cases h' : nlt b a with
  | false => rfl
  | true => have := nlt_trans h h'; rw [nlt_irrefl] at this; cases this
/-- a is not above b, b not above c: a is not above c. -/
theorem nle_trans {a b c : ByteArray} (h1 : nlt b a = false) (h2 : nlt c b = false) : nlt c a = false := by
  cases h : nlt c a with
  | false => rfl
  | true =>
    cases h3 : nlt a b with
    | true => rw [nlt_trans h h3] at h2; cases h2
    | false => rw [nlt_total h3 h1] at h; rw [h] at h2; cases h2


/-! ### Sorted lists of texts -/
def Srts (l : List ByteArray) : Prop := l.Pairwise fun a b => nlt a b = true
def Wks (l : List ByteArray) : Prop := l.Pairwise fun a b => nlt b a = false
theorem srts_unique : ∀ {a b : List ByteArray}, Srts a → Srts b → a.Perm b → a = b
  | [], b, _, _, p => by rw [List.nil_perm.1 p]
  | x :: a, [], _, _, p => by have := p.length_eq; simp at this
  | x :: a, y :: b, ha, hb, p => by
    obtain ⟨ha1, ha2⟩ := List.pairwise_cons.1 ha
    obtain ⟨hb1, hb2⟩ := List.pairwise_cons.1 hb
    have e : x = y := by
      rcases List.mem_cons.1 (p.mem_iff.1 (List.mem_cons_self ..)) with h | h
      · exact h
      · rcases List.mem_cons.1 (p.mem_iff.2 (List.mem_cons_self ..)) with h' | h'
        · exact h'.symm
        · have := nlt_asymm (hb1 x h)
          rw [ha1 y h'] at this
          cases this
    subst e
    rw [srts_unique ha2 hb2 (List.Perm.cons_inv p)]
theorem wks_srts {l : List ByteArray} (h : Wks l) (hn : l.Nodup) : Srts l := by
  refine (List.Pairwise.and h hn).imp fun {a b} hab => ?_
  cases h' : nlt a b with
  | true => rfl
  | false => exact absurd (nlt_total h' hab.1) hab.2
theorem wks_insert {q r : List ByteArray} {t : ByteArray} (h : Wks (q ++ r)) (hq : ∀ y ∈ q, nlt t y = false) (hr : ∀ y ∈ r, nlt t y = true) : Wks (q ++ t :: r) := by
  unfold Wks at *
  rw [List.pairwise_append] at h ⊢
  refine ⟨h.1, List.pairwise_cons.2 ⟨fun y hy => nlt_asymm (hr y hy), h.2.1⟩, fun a ha b hb => ?_⟩
  rcases List.mem_cons.1 hb with rfl | hb
  · exact hq a ha
  · exact h.2.2 a ha b hb
end Go.Proofs.YtbcfdgnpdaaleaaGreat

/- Sorting at most twelve texts; the keys of a table. -/
namespace Go.Proofs.YtbcfdgnpdaaleaaGreat
open Go.RowKit

set_option maxRecDepth 100000 in
theorem len64_spec (k : Nat) (w : World) (hk : k < 256) : Spec Tryz.prog 95 [.int .u64 k] w Nil fun r H => ∃ n : Int, r = .int .i64 n ∧ H = [] := by
  refine enter (n := 25) Tryz.func95 rfl rfl [(0, _)] rfl ⟨rfl, trivial⟩ (Holds.start _ _) ?_
  refine w_seq ?_
  refine w_reg ?_
  refine wl_f (f_assign rfl) ?_
  refine wl_end [(0, _), (2, _)] ⟨rfl, rfl, trivial⟩ ?_
  refine w_seq ?_
  refine w_seq ?_
  refine w_reg ?_
  refine wl_f (f_move rfl) ?_
  refine wl_f (f_geq rfl rfl) ?_
  refine wl_end [(0, _), (2, _), (4, _)] ⟨rfl, rfl, rfl, trivial⟩ ?_
  refine w_ifd rfl (fun h => absurd h (by omega)) (fun _ => ?_)
  refine w_skip ?_
  refine w_seq ?_
  refine w_seq ?_
  refine w_reg ?_
  refine wl_f (f_move rfl) ?_
  refine wl_f (f_geq rfl rfl) ?_
  refine wl_end [(0, _), (2, _), (8, _)] ⟨rfl, rfl, rfl, trivial⟩ ?_
  refine w_ifd rfl (fun h => absurd h (by omega)) (fun _ => ?_)
  refine w_skip ?_
  refine w_seq ?_
  refine w_seq ?_
  refine w_reg ?_
  refine wl_f (f_move rfl) ?_
  refine wl_f (f_geq rfl rfl) ?_
  refine wl_end [(0, _), (2, _), (14, _)] ⟨rfl, rfl, rfl, trivial⟩ ?_
  refine w_ifd rfl (fun h => absurd h (by omega)) (fun _ => ?_)
  refine w_skip ?_
  refine w_seq ?_
  refine w_reg ?_
  refine wl_f (f_move rfl) ?_
  refine wl_f (f_move rfl) ?_
  refine wl_f (f_convb rfl Tryz.underlying23 Tryz.underlying5 (by omega)) ?_
  refine wl_f (f_indexs rfl rfl Tryz.underlying9 rfl (Array.getElem?_eq_getElem (show k < 256 from hk))) ?_
  generalize hb : UInt8.toNat _ = b
  have hb' : b < 256 := hb ▸ UInt8.toNat_lt _
  clear hb
  refine wl_f (f_convi rfl Tryz.underlying5 Tryz.underlying3 (by omega)) ?_
  refine wl_f (f_addw rfl rfl) ?_
  refine wl_f (f_assign rfl) ?_
  refine wl_end [(2, _)] ⟨rfl, trivial⟩ ?_
  refine w_ret ?_
  refine ⟨_, _, fun a ha hh => results_tmps Tryz.results95 rfl a ha _, List.Sublist.refl _, ?_⟩
  exact ⟨_, rfl, rfl⟩
theorem len_spec (k : Nat) (w : World) (hk : k < 256) : Spec Tryz.prog 78 [.int .u64 k] w Nil fun r H => ∃ n : Int, r = .int .i64 n ∧ H = [] := by
  refine enter (n := 8) Tryz.func78 rfl rfl [(0, _)] rfl ⟨rfl, trivial⟩ (Holds.start _ _) ?_
  refine w_seq ?_
  refine w_reg ?_
  refine wl_f (f_assign rfl) ?_
  refine wl_end [(0, _)] ⟨rfl, trivial⟩ ?_
  refine w_seq ?_
  refine w_iff rfl ?_
  refine w_skip ?_
  refine w_seq ?_
  refine w_reg ?_
  refine wl_f (f_move rfl) ?_
  refine wl_e (e_call0 rfl Tryz.func95 (by kernel_rfl) (fun w hh => len64_spec k w hk)) ?_
  rintro _ _ w1 ⟨_, rfl, n, rfl, rfl⟩
  refine wl_f (f_assign rfl) ?_
  refine wl_end [(2, _)] ⟨rfl, trivial⟩ ?_
  refine w_ret ?_
  refine ⟨_, _, fun a ha hh => results_tmps Tryz.results78 rfl a ha _, List.Sublist.refl _, ?_⟩
  exact ⟨_, rfl, rfl⟩


theorem isnan_spec (a : ByteArray) (w : World) : Spec Tryz.prog 104 [.string a] w Nil fun r H => r = .bool false ∧ H = [] := by
  refine enter (n := 6) Tryz.func104 rfl rfl [(0, _)] rfl ⟨rfl, trivial⟩ (Holds.start _ _) ?_
  refine w_seq ?_
  refine w_reg ?_
  refine wl_f (f_assign rfl) ?_
  refine wl_end [(0, _)] ⟨rfl, trivial⟩ ?_
  refine w_seq ?_
  refine w_reg ?_
  refine wl_f (f_move rfl) ?_
  refine wl_f (f_move rfl) ?_
  refine wl_f (f_neqs rfl rfl) ?_
  refine wl_f (f_assign rfl) ?_
  refine wl_end [(2, _)] ⟨rfl, trivial⟩ ?_
  refine w_ret ?_
  refine ⟨_, _, fun a ha hh => results_tmps Tryz.results104 rfl a ha _, List.Sublist.refl _, ?_⟩
  exact ⟨by show Value.bool _ = _; simp, rfl⟩
theorem less_spec (a b : ByteArray) (w : World) : Spec Tryz.prog 91 [.string a, .string b] w Nil fun r H => r = .bool (nlt a b) ∧ H = [] := by
  refine enter (n := 17) Tryz.func91 rfl rfl [(0, _), (1, _)] rfl ⟨rfl, rfl, trivial⟩ (Holds.start _ _) ?_
  refine w_seq ?_
  refine w_reg ?_
  refine wl_f (f_assign rfl) ?_
  refine wl_end [(0, _), (1, _)] ⟨rfl, rfl, trivial⟩ ?_
  refine w_seq ?_
  refine w_reg ?_
  refine wl_f (f_move rfl) ?_
  refine wl_e (e_call0 rfl Tryz.func104 (by kernel_rfl) (fun w hh => isnan_spec a w)) ?_
  rintro _ _ w1 ⟨_, rfl, rfl, rfl⟩
  refine wl_f (f_move rfl) ?_
  refine wl_gs rfl rfl ?_
  refine wl_gs rfl rfl ?_
  skip
  refine wl_gs rfl rfl ?_
  refine wl_f (f_pick0 rfl rfl) ?_
  refine wl_f (f_move rfl) ?_
  refine wl_gf rfl rfl (f_move rfl) ?_
  refine wl_gf rfl rfl (f_move rfl) ?_
  refine wl_gf rfl rfl (f_lsss rfl rfl) ?_
  refine wl_f (f_pick0 rfl rfl) ?_
  refine wl_f (f_assign rfl) ?_
  refine wl_end [(4, _)] ⟨rfl, trivial⟩ ?_
  refine w_ret ?_
  refine ⟨_, _, fun a ha hh => results_tmps Tryz.results91 rfl a ha _, List.Sublist.refl _, ?_⟩
  exact ⟨rfl, rfl⟩
theorem sv_len (l : List ByteArray) : (sv l).length = l.length := by simp [sv]
theorem sv_app (a b : List ByteArray) : sv (a ++ b) = sv a ++ sv b := by simp [sv]
theorem sc_get (a b : List ByteArray) (x : ByteArray) {i : Nat} (h : a.length = i) : ((sv (a ++ x :: b)).drop (0 + i * 1)).take 1 = [.string x] := by
  rw [sv_app, List.drop_left' (by rw [sv_len]; omega)]
  rfl
theorem sc_set (a b : List ByteArray) (x y : ByteArray) {i : Nat} (h : a.length = i) : (sv (a ++ x :: b)).take (0 + i * 1) ++ [.string y] ++ (sv (a ++ x :: b)).drop (0 + i * 1 + 1) = sv (a ++ y :: b) := by
  rw [sv_app, List.take_left' (by rw [sv_len]; omega), ← List.drop_drop, List.drop_left' (by rw [sv_len]; omega), sv_app]
  simp [sv]
theorem take_snoc {α : Type} (l : List α) (i : Nat) (t : α) (h : l[i]? = some t) : l.take (i + 1) = l.take i ++ [t] := by rw [List.take_add_one, h]; rfl

set_option maxHeartbeats 1000000 in
theorem insertion_spec (g cap : Nat) (l : List ByteArray) (w : World) (h0 : 0 < l.length) (hn : l.length ≤ 1000000)
    (hs : Holds w (row (.slice (some ⟨g, 0, .none⟩) l.length cap) 9 1 l.length (sv l)).foot [row (.slice (some ⟨g, 0, .none⟩) l.length cap) 9 1 l.length (sv l)] w) :
    Spec Tryz.prog 85 [.slice (some ⟨g, 0, .none⟩) l.length cap, .int .i64 0, .int .i64 l.length] w (row (.slice (some ⟨g, 0, .none⟩) l.length cap) 9 1 l.length (sv l)).foot
      fun _ H => ∃ l', H = [row (.slice (some ⟨g, 0, .none⟩) l.length cap) 9 1 l.length (sv l')] ∧ l'.Perm l ∧ Wks l' := by
  refine enter (n := 49) Tryz.func85 rfl rfl [(0, _), (1, _), (2, _)] rfl ⟨rfl, rfl, rfl, trivial⟩ hs ?_
  refine w_seq ?_
  refine w_reg ?_
  refine wl_f (f_move rfl) ?_
  refine wl_f (f_add rfl rfl (by omega)) ?_
  refine wl_f (f_assign rfl) ?_
  refine wl_end [(0, _), (1, _), (2, _), (6, _)] ⟨rfl, rfl, rfl, rfl, trivial⟩ ?_
  refine w_block ?_
  refine w_loop (fun k m H w => ∃ (i : Nat) (p : List ByteArray), m = [(0, .slice (some ⟨g, 0, .none⟩) l.length cap), (1, .int .i64 0), (2, .int .i64 l.length), (6, .int .i64 i)] ∧
    H = [row (.slice (some ⟨g, 0, .none⟩) l.length cap) 9 1 l.length (sv (p ++ l.drop i))] ∧ p.length = i ∧ 1 ≤ i ∧ k + i = l.length ∧ p.Perm (l.take i) ∧ Wks p) (l.length - 1)
    ⟨1, l.take 1, rfl, by rw [List.take_append_drop], by rw [List.length_take]; omega, by omega, by omega, List.Perm.refl _, by
      obtain ⟨x, l', rfl⟩ := List.exists_cons_of_length_pos h0
      exact List.pairwise_singleton _ _⟩ ?_
  rintro k _ _ w1 ⟨i, p, rfl, rfl, hpl, hi1, hk, hperm, hwk⟩
  refine w_seq ?_
  refine w_seq ?_
  refine w_reg ?_
  refine wl_f (f_move rfl) ?_
  refine wl_f (f_move rfl) ?_
  refine wl_f (f_lss rfl rfl) ?_
  refine wl_end [(0, _), (1, _), (2, _), (6, _), (12, _)] ⟨rfl, rfl, rfl, rfl, rfl, trivial⟩ ?_
  refine w_ifd rfl (fun hc1 => ?_) (fun hc1 => ?_)
  · skip
    obtain ⟨t, ht⟩ : ∃ t, l[i]? = some t := ⟨l[i]'(by omega), List.getElem?_eq_getElem (by omega)⟩
    have hdrop : l.drop i = t :: l.drop (i + 1) := by
      obtain ⟨hlt, he⟩ := List.getElem?_eq_some_iff.1 ht
      rw [← he, List.drop_eq_getElem_cons hlt]
    refine w_skip ?_
    refine w_seq ?_
    refine w_block ?_
    refine w_seq ?_
    refine w_reg ?_
    refine wl_f (f_move rfl) ?_
    refine wl_f (f_assign rfl) ?_
    refine wl_end [(0, _), (1, _), (2, _), (6, _), (7, _)] ⟨rfl, rfl, rfl, rfl, rfl, trivial⟩ ?_
    refine w_block ?_
    refine w_loop (fun j m H w => ∃ (q r : List ByteArray), m = [(0, .slice (some ⟨g, 0, .none⟩) l.length cap), (1, .int .i64 0), (2, .int .i64 l.length), (6, .int .i64 i), (7, .int .i64 j)] ∧
      H = [row (.slice (some ⟨g, 0, .none⟩) l.length cap) 9 1 l.length (sv (q ++ t :: (r ++ l.drop (i + 1))))] ∧ q.length = j ∧ q ++ r = p ∧ ∀ x ∈ r, nlt t x = true) i
      ⟨p, [], rfl, by rw [hdrop]; simp, hpl, by simp, by simp⟩ ?_
    rintro j _ _ w2 ⟨q, r, rfl, rfl, hq, hqr, hr⟩
    refine w_seq ?_
    refine w_seq ?_
    refine w_post (fun m H w' => ∃ c : Bool, m = [(0, .slice (some ⟨g, 0, .none⟩) l.length cap), (1, .int .i64 0), (2, .int .i64 l.length), (6, .int .i64 i), (7, .int .i64 j), (30, .bool c)] ∧
      H = [row (.slice (some ⟨g, 0, .none⟩) l.length cap) 9 1 l.length (sv (q ++ t :: (r ++ l.drop (i + 1))))] ∧ (c = true → ∃ q' y, q = q' ++ [y] ∧ nlt t y = true) ∧ (c = false → ∀ y ∈ q, nlt t y = false)) ?_ ?_
    · by_cases hG4 : (0 : Int) < (j : Int)
      · skip
        obtain ⟨q', y, rfl⟩ : ∃ q' y, q = q' ++ [y] := ⟨q.dropLast, q.getLast (by rintro rfl; simp at hq; omega), (List.dropLast_concat_getLast _).symm⟩
        have hq' : q'.length + 1 = j := by simpa using hq
        have hlen : j < l.length := by
          have := congrArg List.length hqr
          simp at this
          omega
        refine w_draw [(0, true), (1, true), (2, true), (3, true), (4, true), (5, true), (6, true), (7, true), (8, true), (9, true), (10, true), (11, true), (12, true), (13, false), (14, true)] (_) ([]) mixed (by kernel_rfl) (by kernel_rfl) rfl (perm_all _) (fun w4_ => ?_)
        refine wd_f rfl (f_move rfl) ?_
        refine wd_f rfl (f_move rfl) ?_
        refine wd_f rfl (f_eqv (f_gtr rfl rfl) (congrArg Value.bool (decide_eq_true hG4))) ?_
        refine wd_f rfl (f_move rfl) ?_
        refine wd_gf rfl rfl rfl (f_move rfl) ?_
        refine wd_gf rfl rfl rfl (f_move rfl) ?_
        refine wd_gf rfl rfl rfl (f_indexAddr 1 (i := j) rfl rfl Tryz.underlying83 (by kernel_rfl) rfl hlen) ?_
        refine wd_gf rfl rfl rfl (f_loadr1 (v := .string t) 0 rfl Tryz.underlying9 rfl rfl (sc_get _ _ _ hq)) ?_
        refine wd_gf rfl rfl rfl (f_move rfl) ?_
        refine wd_gf rfl rfl rfl (f_move rfl) ?_
        refine wd_gf rfl rfl rfl (f_sub rfl rfl (by omega)) ?_
        refine wd_gf rfl rfl rfl (f_indexAddr 1 (i := q'.length) rfl rfl Tryz.underlying83 (by kernel_rfl) (by omega) (by omega)) ?_
        refine wd_gf rfl rfl rfl (f_loadr1 (v := .string y) 0 rfl Tryz.underlying9 rfl rfl (by rw [List.append_assoc, List.singleton_append]; exact sc_get q' _ y rfl)) ?_
        refine wd_ge rfl rfl rfl (e_call0 rfl Tryz.func91 (by kernel_rfl) (fun w hh => less_spec t y w)) ?_
        rintro _ _ w4 ⟨_, rfl, rfl, rfl⟩
        refine ⟨_, List.Perm.refl _, ?_⟩
        refine wd_f rfl (f_pick rfl rfl rfl) ?_
        refine wd_end [(0, _), (1, _), (2, _), (6, _), (7, _), (30, _)] ⟨rfl, rfl, rfl, rfl, rfl, rfl, trivial⟩ ?_
        refine ⟨nlt t y, rfl, rfl, fun h => ⟨q', y, rfl, h⟩, fun h z hz => ?_⟩
        rcases List.mem_append.1 hz with hz | hz
        · rw [← hqr] at hwk
          have := (List.pairwise_append.1 (List.pairwise_append.1 hwk).1).2.2 z hz y (List.mem_singleton.2 rfl)
          exact nle_trans this h
        · rw [List.mem_singleton] at hz; subst hz; exact h
      · skip
        refine w_draw [(0, true), (1, true), (2, true), (3, true), (4, true), (5, true), (6, true), (7, true), (8, true), (9, true), (10, true), (11, true), (12, true), (13, false), (14, true)] (_) ([]) mixed (by kernel_rfl) (by kernel_rfl) rfl (perm_all _) (fun w4_ => ?_)
        refine wd_f rfl (f_move rfl) ?_
        refine wd_f rfl (f_move rfl) ?_
        refine wd_f rfl (f_eqv (f_gtr rfl rfl) (congrArg Value.bool (decide_eq_false hG4))) ?_
        refine wd_f rfl (f_move rfl) ?_
        refine wd_gs rfl rfl rfl ?_
        refine wd_gs rfl rfl rfl ?_
        refine wd_gs rfl rfl rfl ?_
        refine wd_gs rfl rfl rfl ?_
        refine wd_gs rfl rfl rfl ?_
        refine wd_gs rfl rfl rfl ?_
        refine wd_gs rfl rfl rfl ?_
        refine wd_gs rfl rfl rfl ?_
        refine wd_gs rfl rfl rfl ?_
        refine wd_ges rfl rfl rfl ?_
        refine wd_f rfl (f_pick rfl rfl rfl) ?_
        refine wd_end [(0, _), (1, _), (2, _), (6, _), (7, _), (30, _)] ⟨rfl, rfl, rfl, rfl, rfl, rfl, trivial⟩ ?_
        refine ⟨false, rfl, rfl, fun h => (by cases h), fun _ y hy => ?_⟩
        have : q = [] := List.eq_nil_of_length_eq_zero (by omega)
        subst this; cases hy
    rintro _ _ w5 ⟨c, rfl, rfl, hct, hcf⟩
    refine w_ifb rfl (fun hc2 => ?_) (fun hc2 => ?_)
    · skip
      obtain ⟨q', y, rfl, hty⟩ := hct hc2
      have hq' : q'.length + 1 = j := by simpa using hq
      have hlen : j < l.length := by
        have := congrArg List.length hqr
        simp at this
        omega
      rw [List.append_assoc, List.singleton_append]
      refine w_skip ?_
      refine w_seq ?_
      refine w_block ?_
      refine w_drawk [(0, true), (1, true), (2, true), (3, true), (4, true), (5, true), (6, true), (7, true), (8, true), (9, true), (10, true), (11, true), (12, true), (13, true), (14, true), (15, false), (16, true), (17, false)] ([(_, some 15)]) ([]) mixed (by kernel_rfl) (by kernel_rfl) rfl rfl (List.Perm.refl _) (fun w6_ => ?_)
      refine wk_f rfl (f_move rfl) ?_
      refine wk_f rfl (f_move rfl) ?_
      refine wk_f rfl (f_move rfl) ?_
      refine wk_f rfl (f_move rfl) ?_
      refine wk_f rfl (f_sub rfl rfl (by omega)) ?_
      refine wk_f rfl (f_move rfl) ?_
      refine wk_f rfl (f_move rfl) ?_
      refine wk_f rfl (f_sub rfl rfl (by omega)) ?_
      refine wk_f rfl (f_indexAddr 1 (i := q'.length) rfl rfl Tryz.underlying83 (by kernel_rfl) (by omega) (by omega)) ?_
      refine wk_f rfl (f_loadr1 (v := .string y) 0 rfl Tryz.underlying9 rfl rfl (sc_get q' _ y rfl)) ?_
      refine wk_f rfl (f_move rfl) ?_
      refine wk_f rfl (f_move rfl) ?_
      refine wk_f rfl (f_indexAddr 1 (i := j) rfl rfl Tryz.underlying83 (by kernel_rfl) rfl (by omega)) ?_
      refine wk_f rfl (f_loadr1 (v := .string t) 0 rfl Tryz.underlying9 rfl rfl (by have := sc_get (q' ++ [y]) (r ++ l.drop (i + 1)) t hq; rwa [List.append_assoc, List.singleton_append] at this)) ?_
      refine wk_f rfl (f_indexAddr 1 (i := j) rfl rfl Tryz.underlying83 (by kernel_rfl) rfl (by omega)) ?_
      refine wk_e0 rfl (e_storer0 (us := [.string y]) (xs' := sv (q' ++ y :: y :: (r ++ l.drop (i + 1)))) rfl rfl rfl (by kernel_rfl) (by simp [Value.oneCell']) (by rw [sv_len]; simp; omega) (by have := sc_set (q' ++ [y]) (r ++ l.drop (i + 1)) t y hq; simpa using this)) ?_
      rintro _ _ w6_15 rfl
      refine ⟨_, List.Perm.refl _, ?_⟩
      refine wk_f rfl (f_indexAddr 1 (i := q'.length) rfl rfl Tryz.underlying83 (by kernel_rfl) (by omega) (by omega)) ?_
      refine wk_e0 rfl (e_storer0 (us := [.string t]) (xs' := sv (q' ++ t :: y :: (r ++ l.drop (i + 1)))) rfl rfl rfl (by kernel_rfl) (by simp [Value.oneCell']) (by rw [sv_len]; simp; try omega) (sc_set q' _ y t rfl)) ?_
      rintro _ _ w6_17 rfl
      refine ⟨_, List.Perm.refl _, ?_⟩
      refine wk_end [(0, _), (1, _), (2, _), (6, _), (7, _)] ⟨rfl, rfl, rfl, rfl, rfl, trivial⟩ ?_
      refine w_reg ?_
      refine wl_f (f_move rfl) ?_
      refine wl_f (f_sub rfl rfl (by omega)) ?_
      refine wl_f (f_assign rfl) ?_
      refine wl_end [(0, _), (1, _), (2, _), (6, _), (7, _)] ⟨rfl, rfl, rfl, rfl, rfl, trivial⟩ ?_
      refine ⟨j - 1, by omega, q', y :: r, ?_, rfl, by omega, by rw [← hqr]; simp, ?_⟩
      · rw [show ((j - 1 : Nat) : Int) = (j : Int) - 1 by omega]
      · intro x hx
        rcases List.mem_cons.1 hx with rfl | hx
        · exact hty
        · exact hr x hx
    · skip
      have hall := hcf (by simpa using hc2)
      refine w_exit0 ?_
      refine w_reg ?_
      refine wl_f (f_move rfl) ?_
      refine wl_f (f_add rfl rfl (by omega)) ?_
      refine wl_f (f_assign rfl) ?_
      refine wl_end [(0, _), (1, _), (2, _), (6, _)] ⟨rfl, rfl, rfl, rfl, trivial⟩ ?_
      refine ⟨k - 1, by omega, i + 1, q ++ t :: r, rfl, by simp, ?_, by omega, by omega, ?_, ?_⟩
      · have := congrArg List.length hqr
        simp at this ⊢
        omega
      · rw [take_snoc l i t ht]
        refine List.Perm.trans ?_ ((hperm.append_right [t]))
        rw [← hqr, List.append_assoc]
        exact List.Perm.append_left q (List.perm_append_singleton t r).symm
      · rw [← hqr] at hwk
        exact wks_insert hwk hall hr
  · skip
    rw [List.take_of_length_le (by omega)] at hperm
    rw [List.drop_eq_nil_of_le (by omega), List.append_nil]
    refine w_exit0 ?_
    refine ⟨_, _, fun a ha hh => results_tmps (l := []) Tryz.results85 rfl a ha _, List.Sublist.refl _, ?_⟩
    exact ⟨p, rfl, hperm, hwk⟩
theorem insertion0_spec (v : Value) (w : World) : Spec Tryz.prog 85 [v, .int .i64 0, .int .i64 0] w Nil fun _ H => H = [] := by
  refine enter (n := 49) Tryz.func85 rfl rfl [(0, _), (1, _), (2, _)] rfl ⟨rfl, rfl, rfl, trivial⟩ (Holds.start _ _) ?_
  refine w_seq ?_
  refine w_reg ?_
  refine wl_f (f_move rfl) ?_
  refine wl_f (f_add rfl rfl (by omega)) ?_
  refine wl_f (f_assign rfl) ?_
  refine wl_end [(0, _), (1, _), (2, _), (6, _)] ⟨rfl, rfl, rfl, rfl, trivial⟩ ?_
  refine w_block ?_
  refine w_loop (fun k m H w => m = [(0, v), (1, .int .i64 0), (2, .int .i64 0), (6, .int .i64 1)] ∧ H = []) 0 ⟨rfl, rfl⟩ ?_
  rintro k _ _ w1 ⟨rfl, rfl⟩
  refine w_seq ?_
  refine w_seq ?_
  refine w_reg ?_
  refine wl_f (f_move rfl) ?_
  refine wl_f (f_move rfl) ?_
  refine wl_f (f_lss rfl rfl) ?_
  refine wl_end [(0, _), (1, _), (2, _), (6, _), (12, _)] ⟨rfl, rfl, rfl, rfl, rfl, trivial⟩ ?_
  refine w_ifd rfl (fun h => absurd h (by omega)) (fun _ => ?_)
  refine w_exit0 ?_
  refine ⟨_, _, fun a ha hh => results_tmps (l := []) Tryz.results85 rfl a ha _, List.Sublist.refl _, ?_⟩
  rfl
set_option maxHeartbeats 1000000 in
theorem pdq_spec (g cap : Nat) (l : List ByteArray) (lim : Int) (w : World) (h0 : 0 < l.length) (hn : l.length ≤ 12)
    (hs : Holds w (row (.slice (some ⟨g, 0, .none⟩) l.length cap) 9 1 l.length (sv l)).foot [row (.slice (some ⟨g, 0, .none⟩) l.length cap) 9 1 l.length (sv l)] w) :
    Spec Tryz.prog 77 [.slice (some ⟨g, 0, .none⟩) l.length cap, .int .i64 0, .int .i64 l.length, .int .i64 lim] w (row (.slice (some ⟨g, 0, .none⟩) l.length cap) 9 1 l.length (sv l)).foot
      fun _ H => ∃ l', H = [row (.slice (some ⟨g, 0, .none⟩) l.length cap) 9 1 l.length (sv l')] ∧ l'.Perm l ∧ Wks l' := by
  refine enter (n := 134) Tryz.func77 rfl rfl [(0, _), (1, _), (2, _), (3, _)] rfl ⟨rfl, rfl, rfl, rfl, trivial⟩ hs ?_
  refine w_seq ?_
  refine w_reg ?_
  refine wl_f (f_assign rfl) ?_
  refine wl_end [(0, _), (1, _), (2, _), (3, _), (8, _)] ⟨rfl, rfl, rfl, rfl, rfl, trivial⟩ ?_
  refine w_seq ?_
  refine w_reg ?_
  refine wl_f (f_assign rfl) ?_
  refine wl_end [(0, _), (1, _), (2, _), (3, _), (8, _), (9, _)] ⟨rfl, rfl, rfl, rfl, rfl, rfl, trivial⟩ ?_
  refine w_block ?_
  refine w_loop (fun k m H w => m = [(0, .slice (some ⟨g, 0, .none⟩) l.length cap), (1, .int .i64 0), (2, .int .i64 l.length), (3, .int .i64 lim), (8, .bool true), (9, .bool true)] ∧
    H = [row (.slice (some ⟨g, 0, .none⟩) l.length cap) 9 1 l.length (sv l)]) 0 ⟨rfl, rfl⟩ ?_
  rintro k _ _ w1 ⟨rfl, rfl⟩
  refine w_block ?_
  refine w_seq ?_
  refine w_reg ?_
  refine wl_f (f_move rfl) ?_
  refine wl_f (f_move rfl) ?_
  refine wl_f (f_sub rfl rfl (by omega)) ?_
  refine wl_f (f_assign rfl) ?_
  refine wl_end [(0, _), (1, _), (2, _), (3, _), (8, _), (9, _), (10, _)] ⟨rfl, rfl, rfl, rfl, rfl, rfl, rfl, trivial⟩ ?_
  refine w_seq ?_
  refine w_seq ?_
  refine w_reg ?_
  refine wl_f (f_move rfl) ?_
  refine wl_f (f_leq rfl rfl) ?_
  refine wl_end [(0, _), (1, _), (2, _), (3, _), (8, _), (9, _), (10, _), (23, _)] ⟨rfl, rfl, rfl, rfl, rfl, rfl, rfl, rfl, trivial⟩ ?_
  refine w_ifd rfl (fun _ => ?_) (fun h => absurd h (by omega))
  refine w_seq ?_
  refine w_reg ?_
  refine wl_f (f_move rfl) ?_
  refine wl_f (f_move rfl) ?_
  refine wl_f (f_move rfl) ?_
  refine wl_e (e_call1 (row (.slice (some ⟨g, 0, .none⟩) l.length cap) 9 1 l.length (sv l)) [] rfl Tryz.func85 (by kernel_rfl) (List.Perm.refl _) (fun w hh hs' => insertion_spec g cap l w h0 (by omega) hs')) ?_
  rintro _ _ w2 ⟨_, rfl, l', rfl, hp, hw⟩
  refine wl_end [] trivial ?_
  refine w_ret ?_
  refine ⟨_, _, fun a ha hh => results_tmps Tryz.results77 rfl a ha _, List.Sublist.refl _, ?_⟩
  exact ⟨l', rfl, hp, hw⟩
theorem pdq0_spec (v : Value) (lim : Int) (w : World) : Spec Tryz.prog 77 [v, .int .i64 0, .int .i64 0, .int .i64 lim] w Nil fun _ H => H = [] := by
  refine enter (n := 134) Tryz.func77 rfl rfl [(0, _), (1, _), (2, _), (3, _)] rfl ⟨rfl, rfl, rfl, rfl, trivial⟩ (Holds.start _ _) ?_
  refine w_seq ?_
  refine w_reg ?_
  refine wl_f (f_assign rfl) ?_
  refine wl_end [(0, _), (1, _), (2, _), (3, _), (8, _)] ⟨rfl, rfl, rfl, rfl, rfl, trivial⟩ ?_
  refine w_seq ?_
  refine w_reg ?_
  refine wl_f (f_assign rfl) ?_
  refine wl_end [(0, _), (1, _), (2, _), (3, _), (8, _), (9, _)] ⟨rfl, rfl, rfl, rfl, rfl, rfl, trivial⟩ ?_
  refine w_block ?_
  refine w_loop (fun k m H w => m = [(0, v), (1, .int .i64 0), (2, .int .i64 0), (3, .int .i64 lim), (8, .bool true), (9, .bool true)] ∧ H = []) 0 ⟨rfl, rfl⟩ ?_
  rintro k _ _ w1 ⟨rfl, rfl⟩
  refine w_block ?_
  refine w_seq ?_
  refine w_reg ?_
  refine wl_f (f_move rfl) ?_
  refine wl_f (f_move rfl) ?_
  refine wl_f (f_sub rfl rfl (by omega)) ?_
  refine wl_f (f_assign rfl) ?_
  refine wl_end [(0, _), (1, _), (2, _), (3, _), (8, _), (9, _), (10, _)] ⟨rfl, rfl, rfl, rfl, rfl, rfl, rfl, trivial⟩ ?_
  refine w_seq ?_
  refine w_seq ?_
  refine w_reg ?_
  refine wl_f (f_move rfl) ?_
  refine wl_f (f_leq rfl rfl) ?_
  refine wl_end [(0, _), (1, _), (2, _), (3, _), (8, _), (9, _), (10, _), (23, _)] ⟨rfl, rfl, rfl, rfl, rfl, rfl, rfl, rfl, trivial⟩ ?_
  refine w_ifd rfl (fun _ => ?_) (fun h => absurd h (by omega))
  refine w_seq ?_
  refine w_reg ?_
  refine wl_f (f_move rfl) ?_
  refine wl_f (f_move rfl) ?_
  refine wl_f (f_move rfl) ?_
  refine wl_e (e_call0 rfl Tryz.func85 (by kernel_rfl) (fun w hh => insertion0_spec v w)) ?_
  rintro _ _ w2 ⟨_, rfl, rfl⟩
  refine wl_end [] trivial ?_
  refine w_ret ?_
  refine ⟨_, _, fun a ha hh => results_tmps Tryz.results77 rfl a ha _, List.Sublist.refl _, ?_⟩
  rfl
theorem sort_spec (g cap : Nat) (l : List ByteArray) (w : World) (h0 : 0 < l.length) (hn : l.length ≤ 12)
    (hs : Holds w (row (.slice (some ⟨g, 0, .none⟩) l.length cap) 9 1 l.length (sv l)).foot [row (.slice (some ⟨g, 0, .none⟩) l.length cap) 9 1 l.length (sv l)] w) :
    Spec Tryz.prog 62 [.slice (some ⟨g, 0, .none⟩) l.length cap] w (row (.slice (some ⟨g, 0, .none⟩) l.length cap) 9 1 l.length (sv l)).foot
      fun _ H => ∃ l', H = [row (.slice (some ⟨g, 0, .none⟩) l.length cap) 9 1 l.length (sv l')] ∧ l'.Perm l ∧ Wks l' := by
  refine enter (n := 11) Tryz.func62 rfl rfl [(0, _)] rfl ⟨rfl, trivial⟩ hs ?_
  refine w_seq ?_
  refine w_reg ?_
  refine wl_f (f_move rfl) ?_
  refine wl_f (f_len rfl Tryz.underlying83) ?_
  refine wl_f (f_assign rfl) ?_
  refine wl_end [(0, _), (2, _)] ⟨rfl, rfl, trivial⟩ ?_
  refine w_reg ?_
  refine wl_f (f_move rfl) ?_
  refine wl_f (f_move rfl) ?_
  refine wl_f (f_move rfl) ?_
  refine wl_f (f_convu rfl Tryz.underlying3 Tryz.underlying36 (by omega)) ?_
  refine wl_e (e_call0 rfl Tryz.func78 (by kernel_rfl) (fun w hh => len_spec l.length w (by omega))) ?_
  rintro _ _ w1 ⟨_, rfl, lim, rfl, rfl⟩
  refine wl_e (e_call1 (row (.slice (some ⟨g, 0, .none⟩) l.length cap) 9 1 l.length (sv l)) [] rfl Tryz.func77 (by kernel_rfl) (List.Perm.refl _) (fun w hh hs' => pdq_spec g cap l lim w h0 hn hs')) ?_
  rintro _ _ w2 ⟨_, rfl, l', rfl, hp, hw⟩
  refine wl_end [] trivial ?_
  refine ⟨_, _, fun a ha hh => results_tmps (l := []) Tryz.results62 rfl a ha _, List.Sublist.refl _, ?_⟩
  exact ⟨l', rfl, hp, hw⟩
theorem sort0_spec (A : Option Addr) (cap : Nat) (w : World) : Spec Tryz.prog 62 [.slice A 0 cap] w Nil fun _ H => H = [] := by
  refine enter (n := 11) Tryz.func62 rfl rfl [(0, _)] rfl ⟨rfl, trivial⟩ (Holds.start _ _) ?_
  refine w_seq ?_
  refine w_reg ?_
  refine wl_f (f_move rfl) ?_
  refine wl_f (f_len rfl Tryz.underlying83) ?_
  refine wl_f (f_assign rfl) ?_
  refine wl_end [(0, _), (2, _)] ⟨rfl, rfl, trivial⟩ ?_
  refine w_reg ?_
  refine wl_f (f_move rfl) ?_
  refine wl_f (f_move rfl) ?_
  refine wl_f (f_move rfl) ?_
  refine wl_f (f_convu rfl Tryz.underlying3 Tryz.underlying36 (by omega)) ?_
  refine wl_e (e_call0 rfl Tryz.func78 (by kernel_rfl) (fun w hh => len_spec 0 w (by omega))) ?_
  rintro _ _ w1 ⟨_, rfl, lim, rfl, rfl⟩
  refine wl_e (e_call0 rfl Tryz.func77 (by kernel_rfl) (fun w hh => pdq0_spec _ lim w)) ?_
  rintro _ _ w2 ⟨_, rfl, rfl⟩
  refine wl_end [] trivial ?_
  refine ⟨_, _, fun a ha hh => results_tmps (l := []) Tryz.results62 rfl a ha _, List.Sublist.refl _, ?_⟩
  rfl

def okey {α : Type} (o : Option (ByteArray × α)) : ByteArray := match o with
  | none => ByteArray.empty
  | some x => x.1
def oval (o : Option (ByteArray × Int)) : Int := match o with
  | none => 0
  | some x => x.2
def ovalU (o : Option (ByteArray × Nat)) : Nat := match o with
  | none => 0
  | some x => x.2
theorem ents_take_none {α : Type} {cs : Cells α} {i : Nat} (h : cs[i]? = some none) : ents (cs.take (i + 1)) = ents (cs.take i) := by rw [List.take_add_one, h, ents_app]; simp [ents]
theorem ents_take_some {α : Type} {cs : Cells α} {i : Nat} {x : ByteArray × α} (h : cs[i]? = some (some x)) : ents (cs.take (i + 1)) = ents (cs.take i) ++ [x] := by rw [List.take_add_one, h, ents_app]; simp [ents]
theorem ents_take_len {α : Type} (cs : Cells α) (i : Nat) : (ents (cs.take i)).length ≤ (ents cs).length := by
  conv => rhs; rw [← List.take_append_drop i cs, ents_app, List.length_append]
  exact Nat.le_add_right _ _

set_option maxHeartbeats 2000000 in
theorem ikeys_spec (b n : Nat) (T : List Nat) (seed : Int) (M : List (ByteArray × Int)) (r : Res) (w : World) (hn12 : n ≤ 12) (hr : TbR xInt b n T seed M r) (hs : Holds w r.foot [r] w) :
    Spec Tryz.prog 44 [.pointer (some ⟨b, 0, .none⟩)] w r.foot fun u H => ∃ l, H = [row u 9 1 l.length (sv l), r] ∧ l.Perm (keys M) ∧ Srts l := by
  obtain ⟨N, cs, hC, hI, hM, hle, hsm⟩ := hr
  obtain ⟨hn1, hn2, hN, hT, hcl, tV, cV, rfl⟩ := id hC
  refine enter (n := 28) Tryz.func44 rfl rfl [(0, _)] rfl ⟨rfl, trivial⟩ hs ?_
  refine w_seq ?_
  refine w_reg ?_
  refine wl_f (f_assign rfl) ?_
  refine wl_end [(0, _)] ⟨rfl, trivial⟩ ?_
  refine w_seq ?_
  refine w_seq ?_
  refine w_reg ?_
  refine wl_f (f_move rfl) ?_
  refine wl_f (f_eqlnil rfl rfl Tryz.underlying56) ?_
  refine wl_end [(0, _), (7, _)] ⟨rfl, rfl, trivial⟩ ?_
  refine w_iff rfl ?_
  refine w_skip ?_
  refine w_seq ?_
  refine w_reg ?_
  refine wl_f (f_assign rfl) ?_
  refine wl_end [(0, _), (3, _)] ⟨rfl, rfl, trivial⟩ ?_
  refine w_seq ?_
  refine w_seq ?_
  refine w_with fun hh => ?_
  obtain ⟨g, cc, e2⟩ := rowB_form hh (i := 0) (j := 2) rfl rfl (by omega)
  subst e2
  clear hh
  refine w_reg ?_
  refine wl_f (f_move rfl) ?_
  refine wl_f (f_nilCheck rfl) ?_
  refine wl_f (f_fieldAddr 4 rfl Tryz.underlying99 rfl rfl (by kernel_rfl)) ?_
  refine wl_f (f_loadB 0 0 rfl rfl rfl Tryz.underlying97 rfl rfl) ?_
  refine wl_f (f_len rfl Tryz.underlying97) ?_
  refine wl_f (f_move rfl) ?_
  refine wl_end [(3, _), (11, _), (12, _), (13, _)] ⟨rfl, rfl, rfl, rfl, trivial⟩ ?_
  refine w_block ?_
  refine w_nilrow 9 1 ?_
  refine w_loop (fun k m H w => ∃ (v : Value) (i : Nat), m = [(3, v), (11, .slice (some ⟨g, 0, .none⟩) N cc), (12, .int .i64 N), (13, .int .i64 i)] ∧
    H = [row v 9 1 (keys (ents (cs.take i))).length (sv (keys (ents (cs.take i)))), bun (ims xInt b n N (ents cs).length T seed tV (.slice (some ⟨g, 0, .none⟩) N cc) cs)] ∧ k + i = N) N ⟨_, 0, rfl, rfl, rfl⟩ ?_
  rintro k _ _ w5 ⟨v, i, rfl, rfl, hk⟩
  refine w_seq ?_
  refine w_reg ?_
  refine wl_f (f_lss rfl rfl) ?_
  refine wl_end [(3, _), (11, _), (12, _), (13, _), (14, _)] ⟨rfl, rfl, rfl, rfl, rfl, trivial⟩ ?_
  refine w_seq ?_
  refine w_ifd rfl (fun hc2 => ?_) (fun hc2 => ?_)
  · skip
    have hi : i < N := by
      have : (i : Int) < (N : Int) := hc2
      omega
    obtain ⟨o, ho⟩ : ∃ o, cs[i]? = some o := ⟨_, List.getElem?_eq_getElem (by omega)⟩
    have hkl : (keys (ents (cs.take i))).length ≤ 12 := by
      have := ents_take_len cs i
      rw [keys, List.length_map]; omega
    refine w_skip ?_
    refine w_seq ?_
    refine w_post (fun m H w => ∃ v' : Value, m = [(3, v'), (11, .slice (some ⟨g, 0, .none⟩) N cc), (12, .int .i64 N), (13, .int .i64 i)] ∧
      H = [row v' 9 1 (keys (ents (cs.take (i + 1)))).length (sv (keys (ents (cs.take (i + 1))))), bun (ims xInt b n N (ents cs).length T seed tV (.slice (some ⟨g, 0, .none⟩) N cc) cs)]) ?_ ?_
    · skip
      refine w_block ?_
      refine w_seq ?_
      refine w_reg ?_
      refine wl_f (f_indexAddr 3 (i := i) rfl rfl Tryz.underlying97 (by kernel_rfl) rfl hi) ?_
      refine wl_f (f_loadsBr (cs := [.bool o.isSome, .string (okey o), .int .i64 (oval o)]) 1 2 rfl rfl rfl Tryz.underlying102 rfl (by kernel_rfl) (by have := icells_get xInt ho; cases o <;> exact this)) ?_
      refine wl_e (e_allocs [.bool false, .string ByteArray.empty, .int .i64 0] (by kernel_rfl)) ?_
      rintro _ _ w6_2 ⟨b6_2, rfl, rfl⟩
      (first | refine wl_e0 (e_store0 (us := [_, _, _]) rfl rfl rfl (by kernel_rfl) (by simp [Value.oneCell']) rfl rfl) ?_ | refine wl_e0 (e_store1 (us := [_, _, _]) rfl rfl rfl (by kernel_rfl) (by simp [Value.oneCell']) rfl rfl) ?_ | refine wl_e0 (e_store2 (us := [_, _, _]) rfl rfl rfl (by kernel_rfl) (by simp [Value.oneCell']) rfl rfl) ?_ | refine wl_e0 (e_store3 (us := [_, _, _]) rfl rfl rfl (by kernel_rfl) (by simp [Value.oneCell']) rfl rfl) ?_)
      rintro _ _ w6_3 rfl
      refine wl_end [(3, _), (5, _), (11, _), (12, _), (13, _)] ⟨rfl, rfl, rfl, rfl, rfl, trivial⟩ ?_
      refine w_seq ?_
      refine w_reg ?_
      refine wl_f (f_fieldAddr 0 rfl Tryz.underlying102 rfl rfl (by kernel_rfl)) ?_
      (first | refine wl_f (f_loadb 0 rfl Tryz.underlying4 rfl rfl rfl) ?_ | refine wl_f (f_loadb 1 rfl Tryz.underlying4 rfl rfl rfl) ?_ | refine wl_f (f_loadb 2 rfl Tryz.underlying4 rfl rfl rfl) ?_ | refine wl_f (f_loadb 3 rfl Tryz.underlying4 rfl rfl rfl) ?_ | refine wl_f (f_loadb 4 rfl Tryz.underlying4 rfl rfl rfl) ?_ | refine wl_f (f_loadb 5 rfl Tryz.underlying4 rfl rfl rfl) ?_ | refine wl_f (f_loadb 6 rfl Tryz.underlying4 rfl rfl rfl) ?_)
      refine wl_end [(3, _), (5, _), (11, _), (12, _), (13, _), (18, _)] ⟨rfl, rfl, rfl, rfl, rfl, rfl, trivial⟩ ?_
      refine w_ifb rfl (fun hc3 => ?_) (fun hc3 => ?_)
      · skip
        obtain ⟨x, rfl⟩ : ∃ x, o = some x := Option.isSome_iff_exists.1 hc3
        have hks : keys (ents (cs.take (i + 1))) = keys (ents (cs.take i)) ++ [x.1] := by rw [ents_take_some ho]; simp [keys]
        refine w_reg ?_
        refine wl_f (f_move rfl) ?_
        refine wl_f (f_fieldAddr 1 rfl Tryz.underlying102 rfl rfl (by kernel_rfl)) ?_
        (first | refine wl_f (f_loadb 0 rfl Tryz.underlying9 rfl rfl rfl) ?_ | refine wl_f (f_loadb 1 rfl Tryz.underlying9 rfl rfl rfl) ?_ | refine wl_f (f_loadb 2 rfl Tryz.underlying9 rfl rfl rfl) ?_ | refine wl_f (f_loadb 3 rfl Tryz.underlying9 rfl rfl rfl) ?_ | refine wl_f (f_loadb 4 rfl Tryz.underlying9 rfl rfl rfl) ?_ | refine wl_f (f_loadb 5 rfl Tryz.underlying9 rfl rfl rfl) ?_ | refine wl_f (f_loadb 6 rfl Tryz.underlying9 rfl rfl rfl) ?_)
        refine wl_e (e_lit1 (cs := [_]) t83 rfl rfl rfl (by omega)) ?_
        rintro _ _ w8_3 ⟨b8_3, rfl, rfl⟩
        refine wl_e (e_appN 2 t83 rfl rfl rfl (fun w hh => Rd.held0 hh (i := 0) rfl) (by simp [Value.oneCell']) (by omega) (by omega)) ?_
        rintro v2 _ w8 ⟨_, rfl⟩
        refine wl_f (f_assign rfl) ?_
        refine wl_pick [2, 2] rfl ?_
        refine wl_end [(3, _), (11, _), (12, _), (13, _)] ⟨rfl, rfl, rfl, rfl, trivial⟩ ?_
        exact ⟨v2, rfl, by rw [hks, List.length_append, sv_app]; rfl⟩
      · skip
        obtain rfl : o = none := by
          cases o with
          | none => rfl
          | some x => exact absurd rfl hc3
        refine w_rm0 ?_
        refine w_sub [(3, _), (11, _), (12, _), (13, _)] ⟨rfl, rfl, rfl, rfl, trivial⟩ (w_skip ?_)
        exact ⟨v, rfl, by rw [ents_take_none ho]⟩
    · rintro _ _ w9 ⟨v', rfl, rfl⟩
      refine w_reg ?_
      refine wl_f (f_add rfl rfl (by omega)) ?_
      refine wl_f (f_move rfl) ?_
      refine wl_end [(3, _), (11, _), (12, _), (13, _)] ⟨rfl, rfl, rfl, rfl, trivial⟩ ?_
      exact ⟨k - 1, by omega, v', i + 1, rfl, rfl, by omega⟩
  · skip
    have hi : i = N := by
      have : ¬ (i : Int) < (N : Int) := hc2
      omega
    subst hi
    rw [List.take_of_length_le (by omega)]
    have hkl : (keys (ents cs)).length ≤ 12 := by rw [keys, List.length_map]; omega
    have hknd : (keys (ents cs)).Nodup := hI.nd
    have hkp : (keys (ents cs)).Perm (keys M) := keys_perm hM
    generalize hL : keys (ents cs) = L at hkl hknd hkp
    refine w_exit0 ?_
    refine w_seq ?_
    refine w_post (fun m H w => ∃ l, m = [(3, v)] ∧ H = [row v 9 1 l.length (sv l), bun (ims xInt b n i (ents cs).length T seed tV (.slice (some ⟨g, 0, .none⟩) i cc) cs)] ∧ l.Perm L ∧ Wks l) ?_ ?_
    · by_cases h0 : 0 < L.length
      · refine w_with fun hh => ?_
        obtain ⟨g2, cp2, e2⟩ := row_form hh (i := 0) rfl h0
        subst e2
        clear hh
        refine w_reg ?_
        refine wl_f (f_move rfl) ?_
        refine wl_e (e_call1 (row (.slice (some ⟨g2, 0, .none⟩) L.length cp2) 9 1 L.length (sv L)) [_] rfl Tryz.func62 (by kernel_rfl) (List.Perm.refl _) (fun w hh hs' => sort_spec g2 cp2 L w h0 hkl hs')) ?_
        rintro _ _ w10 ⟨_, rfl, l', rfl, hp, hw⟩
        refine wl_end [(3, _)] ⟨rfl, trivial⟩ ?_
        exact ⟨l', rfl, by rw [hp.length_eq]; rfl, hp, hw⟩
      · obtain rfl : L = [] := List.length_eq_zero_iff.1 (by omega)
        refine w_with fun hh => ?_
        obtain ⟨A2, cp2, e2⟩ := row_slice hh (i := 0) rfl
        subst e2
        clear hh
        refine w_reg ?_
        refine wl_f (f_move rfl) ?_
        refine wl_e (e_call0 rfl Tryz.func62 (by kernel_rfl) (fun w hh => sort0_spec A2 cp2 w)) ?_
        rintro _ _ w10 ⟨_, rfl, rfl⟩
        refine wl_end [(3, _)] ⟨rfl, trivial⟩ ?_
        exact ⟨[], rfl, rfl, List.Perm.refl _, List.Pairwise.nil⟩
    rintro _ _ w11 ⟨l, rfl, rfl, hpl, hwl⟩
    refine w_seq ?_
    refine w_reg ?_
    refine wl_f (f_move rfl) ?_
    refine wl_f (f_assign rfl) ?_
    refine wl_end [(2, _)] ⟨rfl, trivial⟩ ?_
    refine w_ret ?_
    refine ⟨_, _, fun a ha hh => results_tmps Tryz.results44 rfl a ha _, List.Sublist.refl _, ?_⟩
    exact ⟨l, rfl, hpl.trans hkp, wks_srts hwl (hpl.nodup_iff.2 hknd)⟩

theorem xkeys_nil (w : World) : Spec Tryz.prog 44 [.pointer .none] w Nil fun r H => r = .slice .none 0 0 ∧ H = [] := by
  refine enter (n := 28) Tryz.func44 rfl rfl [(0, _)] rfl ⟨rfl, trivial⟩ (Holds.start _ _) ?_
  refine w_seq ?_
  refine w_reg ?_
  refine wl_f (f_assign rfl) ?_
  refine wl_end [(0, _)] ⟨rfl, trivial⟩ ?_
  refine w_seq ?_
  refine w_seq ?_
  refine w_reg ?_
  refine wl_f (f_move rfl) ?_
  refine wl_f (f_eqlnil rfl rfl Tryz.underlying56) ?_
  refine wl_end [(0, _), (7, _)] ⟨rfl, rfl, trivial⟩ ?_
  refine w_ift rfl ?_
  refine w_seq ?_
  refine w_reg ?_
  refine wl_f (f_assign rfl) ?_
  refine wl_end [(2, _)] ⟨rfl, trivial⟩ ?_
  refine w_ret ?_
  refine ⟨_, _, fun a ha hh => results_tmps Tryz.results44 rfl a ha _, List.Sublist.refl _, ?_⟩
  exact ⟨rfl, rfl⟩
theorem xput_nil (k : ByteArray) (v : Int) (w : World) : Spec Tryz.prog 58 [.pointer .none, .string k, .int .i64 v] w Nil fun r H => r = .int .i64 8 ∧ H = [] := by
  refine enter (n := 44) Tryz.func58 rfl rfl [(0, _), (1, _), (2, _)] rfl ⟨rfl, rfl, rfl, trivial⟩ (Holds.start _ _) ?_
  refine w_seq ?_
  refine w_reg ?_
  refine wl_f (f_assign rfl) ?_
  refine wl_end [(0, _), (1, _), (2, _)] ⟨rfl, rfl, rfl, trivial⟩ ?_
  refine w_seq ?_
  refine w_seq ?_
  refine w_reg ?_
  refine wl_f (f_move rfl) ?_
  refine wl_f (f_eqlnil rfl rfl Tryz.underlying56) ?_
  refine wl_end [(0, _), (1, _), (2, _), (10, _)] ⟨rfl, rfl, rfl, rfl, trivial⟩ ?_
  refine w_ift rfl ?_
  refine w_seq ?_
  refine w_reg ?_
  refine wl_f (f_assign rfl) ?_
  refine wl_end [(6, _)] ⟨rfl, trivial⟩ ?_
  refine w_ret ?_
  refine ⟨_, _, fun a ha hh => results_tmps Tryz.results58 rfl a ha _, List.Sublist.refl _, ?_⟩
  exact ⟨rfl, rfl⟩
theorem xget_nil (k : ByteArray) (w : World) : Spec Tryz.prog 31 [.pointer .none, .string k] w Nil fun r H => r = .tuple #[.int .i64 0, .bool false] ∧ H = [] := by
  refine enter (n := 29) Tryz.func31 rfl rfl [(0, _), (1, _)] rfl ⟨rfl, rfl, trivial⟩ (Holds.start _ _) ?_
  refine w_seq ?_
  refine w_reg ?_
  refine wl_f (f_assign rfl) ?_
  refine wl_f (f_assign rfl) ?_
  refine wl_end [(0, _), (1, _)] ⟨rfl, rfl, trivial⟩ ?_
  refine w_seq ?_
  refine w_reg ?_
  refine wl_f (f_assign rfl) ?_
  refine wl_end [(0, _), (1, _), (6, _)] ⟨rfl, rfl, rfl, trivial⟩ ?_
  refine w_seq ?_
  refine w_seq ?_
  refine w_reg ?_
  refine wl_f (f_move rfl) ?_
  refine wl_f (f_eqlnil rfl rfl Tryz.underlying56) ?_
  refine wl_end [(0, _), (1, _), (6, _), (10, _)] ⟨rfl, rfl, rfl, rfl, trivial⟩ ?_
  refine w_ift rfl ?_
  refine w_seq ?_
  refine w_reg ?_
  refine wl_f (f_move rfl) ?_
  refine wl_f (f_assign rfl) ?_
  refine wl_f (f_assign rfl) ?_
  refine wl_end [(4, _), (5, _)] ⟨rfl, rfl, trivial⟩ ?_
  refine w_ret ?_
  refine ⟨_, _, fun a ha hh => results_tmps Tryz.results31 rfl a ha _, List.Sublist.refl _, ?_⟩
  exact ⟨rfl, rfl⟩
theorem xdelete_nil (k : ByteArray) (w : World) : Spec Tryz.prog 60 [.pointer .none, .string k] w Nil fun r H => r = .tuple #[.int .i64 0, .bool false] ∧ H = [] := by
  refine enter (n := 106) Tryz.func60 rfl rfl [(0, _), (1, _)] rfl ⟨rfl, rfl, trivial⟩ (Holds.start _ _) ?_
  refine w_seq ?_
  refine w_reg ?_
  refine wl_f (f_assign rfl) ?_
  refine wl_f (f_assign rfl) ?_
  refine wl_end [(0, _), (1, _)] ⟨rfl, rfl, trivial⟩ ?_
  refine w_seq ?_
  refine w_reg ?_
  refine wl_f (f_assign rfl) ?_
  refine wl_end [(0, _), (1, _), (6, _)] ⟨rfl, rfl, rfl, trivial⟩ ?_
  refine w_seq ?_
  refine w_seq ?_
  refine w_reg ?_
  refine wl_f (f_move rfl) ?_
  refine wl_f (f_eqlnil rfl rfl Tryz.underlying56) ?_
  refine wl_end [(0, _), (1, _), (6, _), (13, _)] ⟨rfl, rfl, rfl, rfl, trivial⟩ ?_
  refine w_ift rfl ?_
  refine w_seq ?_
  refine w_reg ?_
  refine wl_f (f_move rfl) ?_
  refine wl_f (f_assign rfl) ?_
  refine wl_f (f_assign rfl) ?_
  refine wl_end [(4, _), (5, _)] ⟨rfl, rfl, trivial⟩ ?_
  refine w_ret ?_
  refine ⟨_, _, fun a ha hh => results_tmps Tryz.results60 rfl a ha _, List.Sublist.refl _, ?_⟩
  exact ⟨rfl, rfl⟩
end Go.Proofs.YtbcfdgnpdaaleaaGreat

/- Entries of tables: as cells, as values; the deck's short texts and entries. -/
namespace Go.Proofs.YtbcfdgnpdaaleaaGreat
open Go.RowKit

abbrev En := ByteArray × Nat × Nat
def ecell : Option En → List Value
  | none => [.string ByteArray.empty, .int .u64 0, .int .u64 0]
  | some x => [.string x.1, .int .u64 (x.2.1 : Int), .int .u64 (x.2.2 : Int)]
def ecells (E : List (Option En)) : List Value := E.flatMap ecell
theorem ecell_len (o : Option En) : (ecell o).length = 3 := by cases o <;> rfl
theorem ecells_len (E : List (Option En)) : (ecells E).length = E.length * 3 := by
  induction E with
  | nil => rfl
  | cons o E ih => simp only [ecells, List.flatMap_cons, List.length_append, ecell_len, List.length_cons] at ih ⊢; omega
theorem ecells_get {E : List (Option En)} {i : Nat} {o : Option En} (h : E[i]? = some o) : ((ecells E).drop (0 + i * 3)).take 3 = ecell o := by
  obtain ⟨hi, rfl⟩ := List.getElem?_eq_some_iff.1 h
  have e : E = E.take i ++ E[i] :: E.drop (i + 1) := by rw [← List.drop_eq_getElem_cons hi, List.take_append_drop]
  have hl : (ecells (E.take i)).length = i * 3 := by rw [ecells_len, List.length_take]; omega
  have e2 : ecells E = ecells (E.take i) ++ (ecell E[i] ++ ecells (E.drop (i + 1))) := by
    conv => lhs; rw [e]
    simp only [ecells, List.flatMap_append, List.flatMap_cons]
  rw [e2, Nat.zero_add, ← hl, List.drop_left, List.take_append_of_le_length (by rw [ecell_len]; exact Nat.le_refl _), List.take_of_length_le (by rw [ecell_len]; exact Nat.le_refl _)]
theorem ecells_set {E : List (Option En)} {i : Nat} (o : Option En) (hi : i < E.length) : (ecells E).take (0 + i * 3) ++ ecell o ++ (ecells E).drop (0 + i * 3 + 3) = ecells (E.set i o) := by
  have e : E = E.take i ++ E[i] :: E.drop (i + 1) := by rw [← List.drop_eq_getElem_cons hi, List.take_append_drop]
  have hl : (ecells (E.take i)).length = i * 3 := by rw [ecells_len, List.length_take]; omega
  have e2 : ecells E = ecells (E.take i) ++ (ecell E[i] ++ ecells (E.drop (i + 1))) := by
    conv => lhs; rw [e]
    simp only [ecells, List.flatMap_append, List.flatMap_cons]
  have e3 : E.set i o = E.take i ++ o :: E.drop (i + 1) := List.set_eq_take_append_cons_drop.trans (if_pos hi)
  have e4 : ecells (E.set i o) = ecells (E.take i) ++ (ecell o ++ ecells (E.drop (i + 1))) := by
    rw [e3]; simp only [ecells, List.flatMap_append, List.flatMap_cons]
  rw [e4, e2, Nat.zero_add, ← hl, List.take_left, List.append_assoc]
  congr 2
  rw [← List.append_assoc, show (ecells (E.take i)).length + 3 = (ecells (E.take i) ++ ecell E[i]).length by rw [List.length_append, ecell_len], List.drop_left]
theorem ecells_j {E : List (Option En)} {i : Nat} {o : Option En} (h : E[i]? = some o) (j : Nat) {v : Value} (hj : (ecell o)[j]? = some v) (hj3 : j < 3) : (ecells E)[0 + i * 3 + j]? = some v := by
  have h1 : (((ecells E).drop (0 + i * 3)).take 3)[j]? = some v := by rw [ecells_get h]; exact hj
  rw [List.getElem?_take, if_pos hj3, List.getElem?_drop] at h1
  exact h1

theorem t45 : SlT Tryz.prog 45 25 3 32 (.agg #[.string ByteArray.empty, .int .u64 0, .int .u64 0]) := .mk' Tryz.underlying45 (by kernel_rfl) rfl (by decide)
theorem build_entry0 (w : World) : (Instr.build 25 #[]).run Tryz.prog w = .ok (.agg [.string ByteArray.empty, .int .u64 0, .int .u64 0].toArray) w := by kernel_rfl
theorem build_entry (k : ByteArray) (o s : Int) (w : World) : (Instr.build 25 [(0, .string k), (1, .int .u64 o), (2, .int .u64 s)].toArray).run Tryz.prog w = .ok (.agg [.string k, .int .u64 o, .int .u64 s].toArray) w := by kernel_rfl
theorem ecells_app (A B : List (Option En)) : ecells (A ++ B) = ecells A ++ ecells B := by simp [ecells]
def enZ : Value := .agg #[.string ByteArray.empty, .int .u64 0, .int .u64 0]
def enV (k : ByteArray) (o s : Nat) : Value := .agg #[.string k, .int .u64 (o : Int), .int .u64 (s : Int)]
def encs (l : List En) : List Value := ecells (l.map some)
def lsum (l : List En) : Nat := (l.map fun x => x.2.1 + x.2.2).sum
theorem encs_snoc (l : List En) (x : En) : encs (l ++ [x]) = encs l ++ [.string x.1, .int .u64 (x.2.1 : Int), .int .u64 (x.2.2 : Int)] := by
  rw [encs, List.map_append, ecells_app]; rfl

set_option maxHeartbeats 1000000 in
theorem short3_spec (b : Nat) (lv : Value) (L : List Int) (p : Nat) (w : World) (hd : DRd w b lv L p) (hs : Holds w (deck b lv p).foot [deck b lv p] w) :
    Spec Tryz.prog 7 [.pointer (some ⟨b, 0, .none⟩)] w (deck b lv p).foot fun r H => ∃ (s : ByteArray) (p' : Nat), r = .string s ∧ (2 ≤ s.size ∧ s.size ≤ 3) ∧ H = [deck b lv p'] ∧ p' ≤ L.length := by
  refine enter (n := 14) Tryz.func7 rfl rfl [(0, _)] rfl ⟨rfl, trivial⟩ hs ?_
  refine w_seq ?_
  refine w_reg ?_
  refine wl_f (f_assign rfl) ?_
  refine wl_end [(0, _)] ⟨rfl, trivial⟩ ?_
  refine w_seq ?_
  refine w_drawk [(0, true), (4, true), (1, false), (2, true), (3, true), (5, false), (6, true), (7, true), (8, false), (9, false), (10, true), (11, true)] ([]) ([_]) mixed (by kernel_rfl) (by kernel_rfl) rfl rfl (List.Perm.refl _) (fun w1_ => ?_)
  refine wk_f rfl (f_move rfl) ?_
  refine wk_f rfl (f_move rfl) ?_
  refine wk_e rfl (e_call1 (deck b lv p) [] rfl Tryz.func29 (by kernel_rfl) (List.Perm.refl _) (fun w hh hs' => next_spec b lv L p 2 w ⟨hd.1.old1 hh (List.Perm.refl _), hd.2⟩ hs' (by omega))) ?_
  rintro _ _ w1 ⟨_, rfl, y1, p1, rfl, hy1, rfl, hp1⟩
  refine ⟨_, List.Perm.refl _, ?_⟩
  refine wk_f rfl (f_eqv (v' := .int .i64 ((1 + y1 : Nat) : Int)) (f_add rfl rfl (by omega)) (by congr 1)) ?_
  refine wk_f rfl (f_slices (l := 0) (u := 1 + y1) rfl Tryz.underlying9 rfl ⟨_, rfl⟩ (by omega) (show 1 + y1 ≤ 8 by omega)) ?_
  refine wk_e rfl (e_call1 (deck b lv p1) [] rfl Tryz.func29 (by kernel_rfl) (List.Perm.refl _) (fun w hh hs' => next_spec b lv L p1 5 w ⟨hd.1.old1 hh (List.Perm.refl _), hd.2.1, hp1⟩ hs' (by omega))) ?_
  rintro _ _ w2 ⟨_, rfl, y2, p2, rfl, hy2, rfl, hp2⟩
  refine ⟨_, List.Perm.refl _, ?_⟩
  refine wk_f rfl (f_eqv (v' := .int .i64 ((97 + y2 : Nat) : Int)) (f_add rfl rfl (by omega)) (by congr 1)) ?_
  refine wk_f rfl (f_convb rfl Tryz.underlying3 Tryz.underlying5 (by omega)) ?_
  refine wk_e rfl (e_lit1 (cs := [_]) t69 rfl rfl rfl (by omega)) ?_
  rintro _ _ w1_8 ⟨b1_8, rfl, rfl⟩
  refine ⟨_, List.perm_middle.symm, ?_⟩
  refine wk_e rfl (f_b2s (xs := [97 + y2]) rfl Tryz.underlying69 Tryz.underlying5 Tryz.underlying9 (fun w hh => Rd.held0 hh (i := 0) rfl)).eff ?_
  rintro _ _ _ ⟨rfl, rfl⟩
  refine ⟨_, List.Perm.refl _, ?_⟩
  refine wk_f rfl (f_adds rfl rfl (by rw [str_size, ByteArray.size_extract]; show min (1 + y1) 8 - 0 + 1 ≤ _; omega)) ?_
  refine wk_f rfl (f_assign rfl) ?_
  refine wk_endp [(2, _)] [1] ⟨rfl, trivial⟩ rfl ?_
  refine w_ret ?_
  refine ⟨_, _, fun a ha hh => results_tmps Tryz.results7 rfl a ha _, List.Sublist.refl _, ?_⟩
  have hsz : ∀ n, n = min (1 + y1) 8 - 0 + 1 → 2 ≤ n ∧ n ≤ 3 := fun n h => by omega
  exact ⟨_, p2, rfl, by rw [ByteArray.size_append, str_size, ByteArray.size_extract]; exact hsz _ rfl, rfl, hp2⟩
theorem ne_of_size {a b : ByteArray} (h : a.size ≠ b.size) : a ≠ b := fun e => h (by rw [e])
set_option maxHeartbeats 1000000 in
theorem entry_spec (b : Nat) (lv : Value) (L : List Int) (p : Nat) (w : World) (hd : DRd w b lv L p) (hs : Holds w (deck b lv p).foot [deck b lv p] w) :
    Spec Tryz.prog 13 [.pointer (some ⟨b, 0, .none⟩)] w (deck b lv p).foot fun r H => ∃ (k : ByteArray) (o s p' : Nat), r = enV k o s ∧ (2 ≤ k.size ∧ k.size ≤ 3) ∧ o < 30 ∧ s < 10 ∧ H = [deck b lv p'] ∧ p' ≤ L.length := by
  refine enter (n := 12) Tryz.func13 rfl rfl [(0, _)] rfl ⟨rfl, trivial⟩ hs ?_
  refine w_seq ?_
  refine w_reg ?_
  refine wl_e (e_allocs [.string ByteArray.empty, .int .u64 0, .int .u64 0] (by kernel_rfl)) ?_
  rintro _ _ w0_0 ⟨b0_0, rfl, rfl⟩
  refine wl_end [(0, _), (2, _)] ⟨rfl, rfl, trivial⟩ ?_
  refine w_seq ?_
  refine w_reg ?_
  refine wl_f (f_move rfl) ?_
  refine wl_e (e_call1 (deck b lv p) [_] rfl Tryz.func7 (by kernel_rfl) (pk1 1 rfl) (fun w hh hs' => short3_spec b lv L p w ⟨hd.1.old1 hh (pk1 1 rfl), hd.2⟩ hs')) ?_
  rintro _ _ w1 ⟨_, rfl, k, p1, rfl, hk3, rfl, hp1⟩
  refine wl_f (f_move rfl) ?_
  refine wl_e (e_call1 (deck b lv p1) [_] rfl Tryz.func29 (by kernel_rfl) (List.Perm.refl _) (fun w hh hs' => next_spec b lv L p1 30 w ⟨hd.1.old1 hh (List.Perm.refl _), hd.2.1, hp1⟩ hs' (by omega))) ?_
  rintro _ _ w2 ⟨_, rfl, o, p2, rfl, ho, rfl, hp2⟩
  refine wl_f (f_convu rfl Tryz.underlying3 Tryz.underlying23 (by omega)) ?_
  refine wl_f (f_move rfl) ?_
  refine wl_e (e_call1 (deck b lv p2) [_] rfl Tryz.func29 (by kernel_rfl) (List.Perm.refl _) (fun w hh hs' => next_spec b lv L p2 10 w ⟨hd.1.old1 hh (List.Perm.refl _), hd.2.1, hp2⟩ hs' (by omega))) ?_
  rintro _ _ w3 ⟨_, rfl, s, p3, rfl, hs1, rfl, hp3⟩
  refine wl_f (f_convu rfl Tryz.underlying3 Tryz.underlying23 (by omega)) ?_
  refine wl_f (f_build rfl (fun w => build_entry _ _ _ w)) ?_
  (first | refine wl_e0 (e_store0 (us := [_, _, _]) rfl rfl rfl (by kernel_rfl) (by simp [Value.oneCell']) rfl rfl) ?_ | refine wl_e0 (e_store1 (us := [_, _, _]) rfl rfl rfl (by kernel_rfl) (by simp [Value.oneCell']) rfl rfl) ?_ | refine wl_e0 (e_store2 (us := [_, _, _]) rfl rfl rfl (by kernel_rfl) (by simp [Value.oneCell']) rfl rfl) ?_ | refine wl_e0 (e_store3 (us := [_, _, _]) rfl rfl rfl (by kernel_rfl) (by simp [Value.oneCell']) rfl rfl) ?_)
  rintro _ _ w1_9 rfl
  refine wl_end [(2, _)] ⟨rfl, trivial⟩ ?_
  refine w_pick [1, 0] rfl ?_
  refine w_ret ?_
  refine ⟨_, _, fun a ha hh => results_cell 0 Tryz.results13 rfl a ha hh Tryz.underlying25 rfl (by kernel_rfl) rfl, List.sublist_cons_self .., ?_⟩
  exact ⟨k, o, s, p3, rfl, hk3, ho, hs1, rfl, hp3⟩
end Go.Proofs.YtbcfdgnpdaaleaaGreat

/- Linked lists: whether a node is there; a free place. -/
namespace Go.Proofs.YtbcfdgnpdaaleaaGreat
open Go.RowKit

def noneAt (node : Int) (N : List Nat) : Prop := ∀ x : Nat, node = x → x ∉ N
def isAt (node : Int) (N : List Nat) : Bool := decide (0 ≤ node) && N.contains node.toNat
theorem isAt_some {node : Int} {N : List Nat} (h : isAt node N = true) : ∃ x : Nat, node = x ∧ x ∈ N := by
  simp only [isAt, Bool.and_eq_true, decide_eq_true_eq, List.contains_iff_mem] at h
  exact ⟨node.toNat, by omega, h.2⟩
theorem isAt_nat {x : Nat} {N : List Nat} : isAt (x : Int) N = N.contains x := by simp [isAt]

set_option maxHeartbeats 1000000 in
theorem ihas_nil (node : Int) (w : World) : Spec Tryz.prog 82 [.pointer .none, .int .i64 node] w Nil fun r H => r = .bool false ∧ H = [] := by
  refine enter (n := 29) Tryz.func82 rfl rfl [(0, _), (1, _)] rfl ⟨rfl, rfl, trivial⟩ (Holds.start _ _) ?_
  refine w_seq ?_
  refine w_reg ?_
  refine wl_f (f_assign rfl) ?_
  refine wl_end [(0, _), (1, _)] ⟨rfl, rfl, trivial⟩ ?_
  refine w_seq ?_
  refine w_reg ?_
  refine wl_f (f_move rfl) ?_
  refine wl_f (f_neqnil rfl rfl Tryz.underlying89) ?_
  refine wl_f (f_move rfl) ?_
  refine wl_gs rfl rfl ?_
  refine wl_gs rfl rfl ?_
  refine wl_f (f_pick0 rfl rfl) ?_
  refine wl_f (f_move rfl) ?_
  refine wl_gs rfl rfl ?_
  refine wl_gs rfl rfl ?_
  refine wl_gs rfl rfl ?_
  refine wl_gs rfl rfl ?_
  refine wl_gs rfl rfl ?_
  refine wl_gs rfl rfl ?_
  refine wl_gs rfl rfl ?_
  refine wl_f (f_pick0 rfl rfl) ?_
  refine wl_f (f_move rfl) ?_
  refine wl_gs rfl rfl ?_
  refine wl_gs rfl rfl ?_
  refine wl_gs rfl rfl ?_
  refine wl_gs rfl rfl ?_
  refine wl_gs rfl rfl ?_
  refine wl_gs rfl rfl ?_
  refine wl_gs rfl rfl ?_
  refine wl_f (f_pick0 rfl rfl) ?_
  refine wl_f (f_assign rfl) ?_
  refine wl_end [(4, _)] ⟨rfl, trivial⟩ ?_
  refine w_ret ?_
  refine ⟨_, _, fun a ha hh => results_tmps Tryz.results82 rfl a ha _, List.Sublist.refl _, ?_⟩
  exact ⟨rfl, rfl⟩
set_option maxHeartbeats 1000000 in
theorem ihas_spec (b n : Nat) (l : List (Nat × _)) (r : Res) (node : Int) (w : World) (hr : ChR kInt b n l r) (hs : Holds w r.foot [r] w) :
    Spec Tryz.prog 82 [.pointer (some ⟨b, 0, .none⟩), .int .i64 node] w r.foot fun v H => v = .bool (isAt node (nodes l)) ∧ H = [r] := by
  obtain ⟨uV, nV, pV, vV, used, nx, pv, vs, rfl, hc⟩ := hr
  refine enter (n := 29) Tryz.func82 rfl rfl [(0, _), (1, _)] rfl ⟨rfl, rfl, trivial⟩ hs ?_
  refine w_unb (chs kInt b n l uV nV pV vV used nx pv vs) ?_
  refine w_with fun hh => ?_
  obtain ⟨U, cu, rfl⟩ := row_slice hh (i := 1) rfl
  clear hh
  refine w_seq ?_
  refine w_reg ?_
  refine wl_f (f_assign rfl) ?_
  refine wl_end [(0, _), (1, _)] ⟨rfl, rfl, trivial⟩ ?_
  refine w_seq ?_
  refine w_reg ?_
  refine wl_f (f_move rfl) ?_
  refine wl_f (f_neqnil rfl rfl Tryz.underlying89) ?_
  refine wl_f (f_move rfl) ?_
  refine wl_and (j := 2) (c := decide (0 ≤ node)) 2 [(0, _), (1, _)] ⟨rfl, rfl, trivial⟩ rfl rfl rfl rfl rfl (fun hg1_5 => ?_) (fun w1_5 => ?_)
  · skip
    refine wl_gf rfl rfl (f_move rfl) ?_
    refine wl_gf rfl rfl (f_geq rfl rfl) ?_
    exact wl_pend rfl rfl ⟨rfl, rfl, trivial⟩ (List.Sublist.refl _)
  refine wl_f (f_move rfl) ?_
  refine wl_and (j := 6) (c := decide (node < (used.length : Int))) 7 [(0, _), (1, _)] ⟨rfl, rfl, trivial⟩ rfl rfl rfl rfl rfl (fun hg1_14 => ?_) (fun w1_14 => ?_)
  · skip
    refine wl_gf rfl rfl (f_move rfl) ?_
    refine wl_gf rfl rfl (f_move rfl) ?_
    refine wl_gf rfl rfl (f_nilCheck rfl) ?_
    refine wl_gf rfl rfl (f_fieldAddr 4 rfl Tryz.underlying136 rfl rfl (by kernel_rfl)) ?_
    (first | refine wl_gf rfl rfl (f_loadb 0 rfl Tryz.underlying118 rfl rfl rfl) ?_ | refine wl_gf rfl rfl (f_loadb 1 rfl Tryz.underlying118 rfl rfl rfl) ?_ | refine wl_gf rfl rfl (f_loadb 2 rfl Tryz.underlying118 rfl rfl rfl) ?_ | refine wl_gf rfl rfl (f_loadb 3 rfl Tryz.underlying118 rfl rfl rfl) ?_ | refine wl_gf rfl rfl (f_loadb 4 rfl Tryz.underlying118 rfl rfl rfl) ?_ | refine wl_gf rfl rfl (f_loadb 5 rfl Tryz.underlying118 rfl rfl rfl) ?_ | refine wl_gf rfl rfl (f_loadb 6 rfl Tryz.underlying118 rfl rfl rfl) ?_)
    refine wl_gf rfl rfl (f_len rfl Tryz.underlying118) ?_
    refine wl_gf rfl rfl (f_lss rfl rfl) ?_
    exact wl_pend rfl rfl ⟨rfl, rfl, trivial⟩ (List.Sublist.refl _)
  refine wl_f (f_move rfl) ?_
  refine wl_and (j := 15) (c := used.getD node.toNat false) 7 [] trivial rfl rfl rfl rfl rfl (fun hg1_23 => ?_) (fun w1_23 => ?_)
  · skip
    refine wl_gf rfl rfl (f_move rfl) ?_
    refine wl_gf rfl rfl (f_nilCheck rfl) ?_
    refine wl_gf rfl rfl (f_fieldAddr 4 rfl Tryz.underlying136 rfl rfl (by kernel_rfl)) ?_
    (first | refine wl_gf rfl rfl (f_loadb 0 rfl Tryz.underlying118 rfl rfl rfl) ?_ | refine wl_gf rfl rfl (f_loadb 1 rfl Tryz.underlying118 rfl rfl rfl) ?_ | refine wl_gf rfl rfl (f_loadb 2 rfl Tryz.underlying118 rfl rfl rfl) ?_ | refine wl_gf rfl rfl (f_loadb 3 rfl Tryz.underlying118 rfl rfl rfl) ?_ | refine wl_gf rfl rfl (f_loadb 4 rfl Tryz.underlying118 rfl rfl rfl) ?_ | refine wl_gf rfl rfl (f_loadb 5 rfl Tryz.underlying118 rfl rfl rfl) ?_ | refine wl_gf rfl rfl (f_loadb 6 rfl Tryz.underlying118 rfl rfl rfl) ?_)
    refine wl_gf rfl rfl (f_move rfl) ?_
    simp only [Bool.and_eq_true, decide_eq_true_eq] at hg1_23
    obtain ⟨x, rfl⟩ : ∃ x : Nat, node = x := ⟨node.toNat, by omega⟩
    refine wl_with fun hh => ?_
    obtain ⟨g, cap, e⟩ := row_form hh (i := 1) rfl (by omega)
    injection e with e1 _ e3
    subst e1; subst e3
    clear hh
    refine wl_gf rfl rfl (f_indexAddr 1 (i := x) rfl rfl Tryz.underlying118 (by kernel_rfl) rfl (by omega)) ?_
    refine wl_gf rfl rfl (f_eqv (v' := .bool (used.getD ((x : Int).toNat) false)) (f_loadr (v := .bool (used.getD x false)) 1 rfl Tryz.underlying4 rfl rfl (map_get Value.bool (by simp [show x < used.length by omega]))) (by simp)) ?_
    exact wl_pend rfl rfl trivial (List.Sublist.refl _)
  refine wl_f (f_assign rfl) ?_
  refine wl_end [(4, _)] ⟨rfl, trivial⟩ ?_
  refine w_bun (H := []) (chs kInt b n l (.slice U used.length cu) nV pV vV used nx pv vs) ?_
  refine w_ret ?_
  refine ⟨_, _, fun a ha hh => results_tmps Tryz.results82 rfl a ha _, List.Sublist.refl _, ?_⟩
  refine ⟨?_, rfl⟩
  have h1 := hc.us node.toNat
  have h2 : (nodes l).contains node.toNat = used.getD node.toNat false := by
    rw [Bool.eq_iff_iff, List.contains_iff_mem, ← h1]
    simp only [List.getD_eq_getElem?_getD]
    cases used[node.toNat]? with
    | none => simp
    | some c => simp
  have h3 : node.toNat < used.length ∨ used.getD node.toNat false = false := by
    rcases Nat.lt_or_ge node.toNat used.length with h | h
    · exact .inl h
    · exact .inr (by simp [List.getElem?_eq_none h])
  show Value.bool _ = _
  simp only [isAt, h2]
  congr 1
  rw [Bool.eq_iff_iff]
  simp only [Bool.and_eq_true, decide_eq_true_eq, Option.isSome]
  rcases h3 with h3 | h3
  · constructor
    · rintro ⟨⟨⟨_, h⟩, _⟩, h4⟩; exact ⟨h, h4⟩
    · rintro ⟨h, h4⟩; exact ⟨⟨⟨trivial, h⟩, by omega⟩, h4⟩
  · rw [h3]; simp
set_option maxHeartbeats 1000000 in
theorem bhas_nil (node : Int) (w : World) : Spec Tryz.prog 81 [.pointer .none, .int .i64 node] w Nil fun r H => r = .bool false ∧ H = [] := by
  refine enter (n := 29) Tryz.func81 rfl rfl [(0, _), (1, _)] rfl ⟨rfl, rfl, trivial⟩ (Holds.start _ _) ?_
  refine w_seq ?_
  refine w_reg ?_
  refine wl_f (f_assign rfl) ?_
  refine wl_end [(0, _), (1, _)] ⟨rfl, rfl, trivial⟩ ?_
  refine w_seq ?_
  refine w_reg ?_
  refine wl_f (f_move rfl) ?_
  refine wl_f (f_neqnil rfl rfl Tryz.underlying86) ?_
  refine wl_f (f_move rfl) ?_
  refine wl_gs rfl rfl ?_
  refine wl_gs rfl rfl ?_
  refine wl_f (f_pick0 rfl rfl) ?_
  refine wl_f (f_move rfl) ?_
  refine wl_gs rfl rfl ?_
  refine wl_gs rfl rfl ?_
  refine wl_gs rfl rfl ?_
  refine wl_gs rfl rfl ?_
  refine wl_gs rfl rfl ?_
  refine wl_gs rfl rfl ?_
  refine wl_gs rfl rfl ?_
  refine wl_f (f_pick0 rfl rfl) ?_
  refine wl_f (f_move rfl) ?_
  refine wl_gs rfl rfl ?_
  refine wl_gs rfl rfl ?_
  refine wl_gs rfl rfl ?_
  refine wl_gs rfl rfl ?_
  refine wl_gs rfl rfl ?_
  refine wl_gs rfl rfl ?_
  refine wl_gs rfl rfl ?_
  refine wl_f (f_pick0 rfl rfl) ?_
  refine wl_f (f_assign rfl) ?_
  refine wl_end [(4, _)] ⟨rfl, trivial⟩ ?_
  refine w_ret ?_
  refine ⟨_, _, fun a ha hh => results_tmps Tryz.results81 rfl a ha _, List.Sublist.refl _, ?_⟩
  exact ⟨rfl, rfl⟩
set_option maxHeartbeats 1000000 in
theorem bhas_spec (b n : Nat) (l : List (Nat × _)) (r : Res) (node : Int) (w : World) (hr : ChR kBuc b n l r) (hs : Holds w r.foot [r] w) :
    Spec Tryz.prog 81 [.pointer (some ⟨b, 0, .none⟩), .int .i64 node] w r.foot fun v H => v = .bool (isAt node (nodes l)) ∧ H = [r] := by
  obtain ⟨uV, nV, pV, vV, used, nx, pv, vs, rfl, hc⟩ := hr
  refine enter (n := 29) Tryz.func81 rfl rfl [(0, _), (1, _)] rfl ⟨rfl, rfl, trivial⟩ hs ?_
  refine w_unb (chs kBuc b n l uV nV pV vV used nx pv vs) ?_
  refine w_with fun hh => ?_
  obtain ⟨U, cu, rfl⟩ := row_slice hh (i := 1) rfl
  clear hh
  refine w_seq ?_
  refine w_reg ?_
  refine wl_f (f_assign rfl) ?_
  refine wl_end [(0, _), (1, _)] ⟨rfl, rfl, trivial⟩ ?_
  refine w_seq ?_
  refine w_reg ?_
  refine wl_f (f_move rfl) ?_
  refine wl_f (f_neqnil rfl rfl Tryz.underlying86) ?_
  refine wl_f (f_move rfl) ?_
  refine wl_and (j := 2) (c := decide (0 ≤ node)) 2 [(0, _), (1, _)] ⟨rfl, rfl, trivial⟩ rfl rfl rfl rfl rfl (fun hg1_5 => ?_) (fun w1_5 => ?_)
  · skip
    refine wl_gf rfl rfl (f_move rfl) ?_
    refine wl_gf rfl rfl (f_geq rfl rfl) ?_
    exact wl_pend rfl rfl ⟨rfl, rfl, trivial⟩ (List.Sublist.refl _)
  refine wl_f (f_move rfl) ?_
  refine wl_and (j := 6) (c := decide (node < (used.length : Int))) 7 [(0, _), (1, _)] ⟨rfl, rfl, trivial⟩ rfl rfl rfl rfl rfl (fun hg1_14 => ?_) (fun w1_14 => ?_)
  · skip
    refine wl_gf rfl rfl (f_move rfl) ?_
    refine wl_gf rfl rfl (f_move rfl) ?_
    refine wl_gf rfl rfl (f_nilCheck rfl) ?_
    refine wl_gf rfl rfl (f_fieldAddr 4 rfl Tryz.underlying121 rfl rfl (by kernel_rfl)) ?_
    (first | refine wl_gf rfl rfl (f_loadb 0 rfl Tryz.underlying118 rfl rfl rfl) ?_ | refine wl_gf rfl rfl (f_loadb 1 rfl Tryz.underlying118 rfl rfl rfl) ?_ | refine wl_gf rfl rfl (f_loadb 2 rfl Tryz.underlying118 rfl rfl rfl) ?_ | refine wl_gf rfl rfl (f_loadb 3 rfl Tryz.underlying118 rfl rfl rfl) ?_ | refine wl_gf rfl rfl (f_loadb 4 rfl Tryz.underlying118 rfl rfl rfl) ?_ | refine wl_gf rfl rfl (f_loadb 5 rfl Tryz.underlying118 rfl rfl rfl) ?_ | refine wl_gf rfl rfl (f_loadb 6 rfl Tryz.underlying118 rfl rfl rfl) ?_)
    refine wl_gf rfl rfl (f_len rfl Tryz.underlying118) ?_
    refine wl_gf rfl rfl (f_lss rfl rfl) ?_
    exact wl_pend rfl rfl ⟨rfl, rfl, trivial⟩ (List.Sublist.refl _)
  refine wl_f (f_move rfl) ?_
  refine wl_and (j := 15) (c := used.getD node.toNat false) 7 [] trivial rfl rfl rfl rfl rfl (fun hg1_23 => ?_) (fun w1_23 => ?_)
  · skip
    refine wl_gf rfl rfl (f_move rfl) ?_
    refine wl_gf rfl rfl (f_nilCheck rfl) ?_
    refine wl_gf rfl rfl (f_fieldAddr 4 rfl Tryz.underlying121 rfl rfl (by kernel_rfl)) ?_
    (first | refine wl_gf rfl rfl (f_loadb 0 rfl Tryz.underlying118 rfl rfl rfl) ?_ | refine wl_gf rfl rfl (f_loadb 1 rfl Tryz.underlying118 rfl rfl rfl) ?_ | refine wl_gf rfl rfl (f_loadb 2 rfl Tryz.underlying118 rfl rfl rfl) ?_ | refine wl_gf rfl rfl (f_loadb 3 rfl Tryz.underlying118 rfl rfl rfl) ?_ | refine wl_gf rfl rfl (f_loadb 4 rfl Tryz.underlying118 rfl rfl rfl) ?_ | refine wl_gf rfl rfl (f_loadb 5 rfl Tryz.underlying118 rfl rfl rfl) ?_ | refine wl_gf rfl rfl (f_loadb 6 rfl Tryz.underlying118 rfl rfl rfl) ?_)
    refine wl_gf rfl rfl (f_move rfl) ?_
    simp only [Bool.and_eq_true, decide_eq_true_eq] at hg1_23
    obtain ⟨x, rfl⟩ : ∃ x : Nat, node = x := ⟨node.toNat, by omega⟩
    refine wl_with fun hh => ?_
    obtain ⟨g, cap, e⟩ := row_form hh (i := 1) rfl (by omega)
    injection e with e1 _ e3
    subst e1; subst e3
    clear hh
    refine wl_gf rfl rfl (f_indexAddr 1 (i := x) rfl rfl Tryz.underlying118 (by kernel_rfl) rfl (by omega)) ?_
    refine wl_gf rfl rfl (f_eqv (v' := .bool (used.getD ((x : Int).toNat) false)) (f_loadr (v := .bool (used.getD x false)) 1 rfl Tryz.underlying4 rfl rfl (map_get Value.bool (by simp [show x < used.length by omega]))) (by simp)) ?_
    exact wl_pend rfl rfl trivial (List.Sublist.refl _)
  refine wl_f (f_assign rfl) ?_
  refine wl_end [(4, _)] ⟨rfl, trivial⟩ ?_
  refine w_bun (H := []) (chs kBuc b n l (.slice U used.length cu) nV pV vV used nx pv vs) ?_
  refine w_ret ?_
  refine ⟨_, _, fun a ha hh => results_tmps Tryz.results81 rfl a ha _, List.Sublist.refl _, ?_⟩
  refine ⟨?_, rfl⟩
  have h1 := hc.us node.toNat
  have h2 : (nodes l).contains node.toNat = used.getD node.toNat false := by
    rw [Bool.eq_iff_iff, List.contains_iff_mem, ← h1]
    simp only [List.getD_eq_getElem?_getD]
    cases used[node.toNat]? with
    | none => simp
    | some c => simp
  have h3 : node.toNat < used.length ∨ used.getD node.toNat false = false := by
    rcases Nat.lt_or_ge node.toNat used.length with h | h
    · exact .inl h
    · exact .inr (by simp [List.getElem?_eq_none h])
  show Value.bool _ = _
  simp only [isAt, h2]
  congr 1
  rw [Bool.eq_iff_iff]
  simp only [Bool.and_eq_true, decide_eq_true_eq, Option.isSome]
  rcases h3 with h3 | h3
  · constructor
    · rintro ⟨⟨⟨_, h⟩, _⟩, h4⟩; exact ⟨h, h4⟩
    · rintro ⟨h, h4⟩; exact ⟨⟨⟨trivial, h⟩, by omega⟩, h4⟩
  · rw [h3]; simp
end Go.Proofs.YtbcfdgnpdaaleaaGreat
