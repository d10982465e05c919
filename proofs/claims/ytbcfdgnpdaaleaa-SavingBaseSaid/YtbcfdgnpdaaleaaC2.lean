/- Linked lists: the walks. Three kinds of values. -/
import Derived.Test.YtbcfdgnpdaaleaaC1
import Derived.Test.YtbcfdgnpdaaleaaK8
import Derived.Test.YtbcfdgnpdaaleaaK10
import Derived.Test.YtbcfdgnpdaaleaaChecked
namespace Go.Proofs.Ytbcfdgnpdaaleaa
open Go.RowKit

theorem mixed : Try.prog.follows .mixedOrders = true := by kernel_rfl
theorem t115 : SlT Try.prog 115 4 1 1 (.bool false) := .mk' Try.underlying115 (by kernel_rfl) rfl (by decide)
theorem t22 : SlT Try.prog 22 3 1 8 (.int .i64 0) := .mk' Try.underlying22 (by kernel_rfl) rfl (by decide)
theorem t41 : SlT Try.prog 41 9 1 16 (.string ByteArray.empty) := .mk' Try.underlying41 (by kernel_rfl) rfl (by decide)
theorem t116 : SlT Try.prog 116 89 2 16 (.agg #[.int .u64 0, .pointer .none]) := .mk' Try.underlying116 (by kernel_rfl) rfl (by decide)

def iv (l : List Int) : List Value := l.map (Value.int .i64)
def bov (l : List Bool) : List Value := l.map Value.bool
/-- The kinds of values. -/
structure VK (α : Type) where
  list : TypeId
  elem : TypeId
  sz : Nat
  cells : α → List Value
  val : α → Value
  zero : α
def kInt : VK Int := ⟨133, 3, 1, fun z => [.int .i64 z], fun z => .int .i64 z, 0⟩
def kBuc : VK (Nat × Option Nat) := ⟨118, 89, 2, fun b => [.int .u64 (b.1 : Int), .pointer (b.2.map fun k => ⟨k, 0, .none⟩)], fun b => .agg #[.int .u64 (b.1 : Int), .pointer (b.2.map fun k => ⟨k, 0, .none⟩)], (0, .none)⟩

section
variable {α : Type}
def vcells (K : VK α) (l : List α) : List Value := l.flatMap K.cells
theorem vcells_len (K : VK α) (hK : ∀ a, (K.cells a).length = K.sz) (l : List α) : (vcells K l).length = l.length * K.sz := by
  induction l with
  | nil => simp [vcells]
  | cons a l ih => simp only [vcells, List.flatMap_cons, List.length_append, hK, List.length_cons, Nat.succ_mul] at ih ⊢; omega
theorem vcells_app (K : VK α) (l k : List α) : vcells K (l ++ k) = vcells K l ++ vcells K k := by simp [vcells]
theorem vcells_split (K : VK α) (hK : ∀ a, (K.cells a).length = K.sz) (A B : List α) (a : α) : (vcells K (A ++ a :: B)).take (A.length * K.sz) = vcells K A ∧ (vcells K (A ++ a :: B)).drop (A.length * K.sz + K.sz) = vcells K B ∧
    ((vcells K (A ++ a :: B)).drop (A.length * K.sz)).take K.sz = K.cells a := by
  have hl := vcells_len K hK A
  have e : vcells K (A ++ a :: B) = vcells K A ++ (K.cells a ++ vcells K B) := by simp [vcells]
  refine ⟨by rw [e, ← hl, List.take_left], ?_, by rw [e, ← hl, List.drop_left, ← hK a, List.take_left]⟩
  rw [e, ← List.drop_drop, ← hl, List.drop_left, ← hK a, List.drop_left]
theorem vcells_get (K : VK α) (hK : ∀ a, (K.cells a).length = K.sz) {l : List α} {x : Nat} {a : α} (h : l[x]? = some a) : ((vcells K l).drop (0 + x * K.sz)).take K.sz = K.cells a := by
  obtain ⟨hx, rfl⟩ := List.getElem?_eq_some_iff.1 h
  have e : l = l.take x ++ l[x] :: l.drop (x + 1) := by rw [← List.drop_eq_getElem_cons hx, List.take_append_drop]
  have hl : (l.take x).length = x := by rw [List.length_take]; omega
  have := (vcells_split K hK (l.take x) (l.drop (x + 1)) l[x]).2.2
  rw [hl, ← e] at this
  rwa [Nat.zero_add]
theorem vcells_set (K : VK α) (hK : ∀ a, (K.cells a).length = K.sz) {l : List α} {x : Nat} (a : α) (hx : x < l.length) :
    (vcells K l).take (0 + x * K.sz) ++ K.cells a ++ (vcells K l).drop (0 + x * K.sz + K.sz) = vcells K (l.set x a) := by
  have e : l = l.take x ++ l[x] :: l.drop (x + 1) := by rw [← List.drop_eq_getElem_cons hx, List.take_append_drop]
  have hl : (l.take x).length = x := by rw [List.length_take]; omega
  obtain ⟨h1, h2, _⟩ := vcells_split K hK (l.take x) (l.drop (x + 1)) l[x]
  rw [hl, ← e] at h1 h2
  rw [Nat.zero_add, h1, h2, List.set_eq_take_append_cons_drop, if_pos hx]
  simp [vcells]
theorem map_set {β : Type} (f : β → Value) {l : List β} {x : Nat} (a : β) (hx : x < l.length) : (l.map f).take (0 + x * 1) ++ [f a] ++ (l.map f).drop (0 + x * 1 + 1) = (l.set x a).map f := by
  rw [Nat.zero_add, Nat.mul_one, List.set_eq_take_append_cons_drop, if_pos hx]
  simp [List.map_take, List.map_drop]
theorem map_get {β : Type} (f : β → Value) {l : List β} {x : Nat} {a : β} (h : l[x]? = some a) : (l.map f)[0 + x * 1]? = some (f a) := by simp [h]
theorem kInt_len : ∀ a, (kInt.cells a).length = kInt.sz := fun _ => rfl
theorem kBuc_len : ∀ a, (kBuc.cells a).length = kBuc.sz := fun _ => rfl
/-- A list of nodes with values, in a block b. -/
def chs (K : VK α) (b n : Nat) (l : List (Nat × α)) (uV nV pV vV : Value) (used : List Bool) (nx pv : List Int) (vs : List α) : List Res :=
  [blk b [.int .i64 (n : Int), .int .i64 (l.length : Int), .int .i64 (hdE (-1) (nodes l)), .int .i64 (hdE (-1) (nodes l).reverse), uV, nV, pV, vV] K.list,
    row uV 4 1 used.length (bov used), row nV 3 1 used.length (iv nx), row pV 3 1 used.length (iv pv), row vV K.elem K.sz used.length (vcells K vs)]
def ChR (K : VK α) (b n : Nat) (l : List (Nat × α)) (r : Res) : Prop :=
  ∃ uV nV pV vV used nx pv vs, r = bun (chs K b n l uV nV pV vV used nx pv vs) ∧ CInv n l used nx pv vs
end
theorem build_ilist (n : Int) (w : World) : (Instr.build 133 [(0, .int .i64 n), (2, .int .i64 (-1)), (3, .int .i64 (-1))].toArray).run Try.prog w =
    .ok (.agg [.int .i64 n, .int .i64 0, .int .i64 (-1), .int .i64 (-1), .slice .none 0 0, .slice .none 0 0, .slice .none 0 0, .slice .none 0 0].toArray) w := by kernel_rfl
theorem inew_spec (n : Int) (w : World) : Spec Try.prog 59 [.int .i64 n] w Nil fun r H => ((n < 1 ∨ 8192 < n) ∧ r = .tuple #[.pointer .none, .int .i64 1] ∧ H = []) ∨
    ∃ (k b : Nat) (r' : Res), n = k ∧ 1 ≤ k ∧ k ≤ 8192 ∧ r = .tuple #[.pointer (some ⟨b, 0, .none⟩), .int .i64 0] ∧ H = [r'] ∧ ChR kInt b k [] r' := by
  refine enter (n := 13) Try.func59 rfl rfl [(0, _)] rfl ⟨rfl, trivial⟩ (Holds.start _ _) ?_
  refine w_seq ?_
  refine w_reg ?_
  refine wl_f (f_assign rfl) ?_
  refine wl_f (f_assign rfl) ?_
  refine wl_end [(0, _)] ⟨rfl, trivial⟩ ?_
  refine w_seq ?_
  refine w_seq ?_
  refine w_reg ?_
  refine wl_f (f_move rfl) ?_
  refine wl_f (f_lss rfl rfl) ?_
  refine wl_f (f_move rfl) ?_
  refine wl_or (j := 2) (c := decide (8192 < n)) 2 [(0, _)] ⟨rfl, trivial⟩ rfl rfl rfl rfl rfl (fun hg1_5 => ?_) (fun w1_5 => ?_)
  · skip
    refine wl_gf rfl rfl (f_move rfl) ?_
    refine wl_gf rfl rfl (f_gtr rfl rfl) ?_
    exact wl_pend rfl rfl ⟨rfl, trivial⟩ (List.Sublist.refl _)
  refine wl_end [(0, _), (9, _)] ⟨rfl, rfl, trivial⟩ ?_
  refine w_ifb rfl (fun hc1 => ?_) (fun hc1 => ?_)
  · skip
    simp only [Bool.or_eq_true, decide_eq_true_eq] at hc1
    refine w_seq ?_
    refine w_reg ?_
    refine wl_f (f_assign rfl) ?_
    refine wl_f (f_assign rfl) ?_
    refine wl_end [(2, _), (3, _)] ⟨rfl, rfl, trivial⟩ ?_
    refine w_ret ?_
    refine ⟨_, _, fun a ha hh => results_tmps Try.results59 rfl a ha _, List.Sublist.refl _, ?_⟩
    exact .inl ⟨hc1, rfl, rfl⟩
  · skip
    simp only [Bool.or_eq_true, decide_eq_true_eq, not_or] at hc1
    refine w_skip ?_
    refine w_seq ?_
    refine w_reg ?_
    refine wl_f (f_move rfl) ?_
    refine wl_f (f_build rfl (fun w => build_ilist _ w)) ?_
    refine wl_e (e_box (cs := [_, _, _, _, _, _, _, _]) rfl rfl) ?_
    rintro _ _ w3_2 ⟨b3_2, rfl, rfl⟩
    refine wl_f (f_assign rfl) ?_
    refine wl_f (f_assign rfl) ?_
    refine wl_end [(2, _), (3, _)] ⟨rfl, rfl, trivial⟩ ?_
    refine w_nilrow 4 1 ?_
    refine w_nilrow 3 1 ?_
    refine w_nilrow 3 1 ?_
    refine w_nilrow (kInt).elem (kInt).sz ?_
    refine w_pick [4, 3, 2, 1, 0] rfl ?_
    refine w_bun (H := []) [_, _, _, _, _] ?_
    refine w_ret ?_
    refine ⟨_, _, fun a ha hh => results_tmps Try.results59 rfl a ha _, List.Sublist.refl _, ?_⟩
    obtain ⟨k, rfl⟩ : ∃ k : Nat, n = k := ⟨n.toNat, by omega⟩
    exact .inr ⟨k, b3_2, _, rfl, by omega, by omega, rfl, rfl, _, _, _, _, [], [], [], [], rfl, CInv.new k⟩
theorem build_blist (n : Int) (w : World) : (Instr.build 118 [(0, .int .i64 n), (2, .int .i64 (-1)), (3, .int .i64 (-1))].toArray).run Try.prog w =
    .ok (.agg [.int .i64 n, .int .i64 0, .int .i64 (-1), .int .i64 (-1), .slice .none 0 0, .slice .none 0 0, .slice .none 0 0, .slice .none 0 0].toArray) w := by kernel_rfl
theorem bnew_spec (n : Int) (w : World) : Spec Try.prog 35 [.int .i64 n] w Nil fun r H => ((n < 1 ∨ 8192 < n) ∧ r = .tuple #[.pointer .none, .int .i64 1] ∧ H = []) ∨
    ∃ (k b : Nat) (r' : Res), n = k ∧ 1 ≤ k ∧ k ≤ 8192 ∧ r = .tuple #[.pointer (some ⟨b, 0, .none⟩), .int .i64 0] ∧ H = [r'] ∧ ChR kBuc b k [] r' := by
  refine enter (n := 13) Try.func35 rfl rfl [(0, _)] rfl ⟨rfl, trivial⟩ (Holds.start _ _) ?_
  refine w_seq ?_
  refine w_reg ?_
  refine wl_f (f_assign rfl) ?_
  refine wl_f (f_assign rfl) ?_
  refine wl_end [(0, _)] ⟨rfl, trivial⟩ ?_
  refine w_seq ?_
  refine w_seq ?_
  refine w_reg ?_
  refine wl_f (f_move rfl) ?_
  refine wl_f (f_lss rfl rfl) ?_
  refine wl_f (f_move rfl) ?_
  refine wl_or (j := 2) (c := decide (8192 < n)) 2 [(0, _)] ⟨rfl, trivial⟩ rfl rfl rfl rfl rfl (fun hg1_5 => ?_) (fun w1_5 => ?_)
  · skip
    refine wl_gf rfl rfl (f_move rfl) ?_
    refine wl_gf rfl rfl (f_gtr rfl rfl) ?_
    exact wl_pend rfl rfl ⟨rfl, trivial⟩ (List.Sublist.refl _)
  refine wl_end [(0, _), (9, _)] ⟨rfl, rfl, trivial⟩ ?_
  refine w_ifb rfl (fun hc1 => ?_) (fun hc1 => ?_)
  · skip
    simp only [Bool.or_eq_true, decide_eq_true_eq] at hc1
    refine w_seq ?_
    refine w_reg ?_
    refine wl_f (f_assign rfl) ?_
    refine wl_f (f_assign rfl) ?_
    refine wl_end [(2, _), (3, _)] ⟨rfl, rfl, trivial⟩ ?_
    refine w_ret ?_
    refine ⟨_, _, fun a ha hh => results_tmps Try.results35 rfl a ha _, List.Sublist.refl _, ?_⟩
    exact .inl ⟨hc1, rfl, rfl⟩
  · skip
    simp only [Bool.or_eq_true, decide_eq_true_eq, not_or] at hc1
    refine w_skip ?_
    refine w_seq ?_
    refine w_reg ?_
    refine wl_f (f_move rfl) ?_
    refine wl_f (f_build rfl (fun w => build_blist _ w)) ?_
    refine wl_e (e_box (cs := [_, _, _, _, _, _, _, _]) rfl rfl) ?_
    rintro _ _ w3_2 ⟨b3_2, rfl, rfl⟩
    refine wl_f (f_assign rfl) ?_
    refine wl_f (f_assign rfl) ?_
    refine wl_end [(2, _), (3, _)] ⟨rfl, rfl, trivial⟩ ?_
    refine w_nilrow 4 1 ?_
    refine w_nilrow 3 1 ?_
    refine w_nilrow 3 1 ?_
    refine w_nilrow (kBuc).elem (kBuc).sz ?_
    refine w_pick [4, 3, 2, 1, 0] rfl ?_
    refine w_bun (H := []) [_, _, _, _, _] ?_
    refine w_ret ?_
    refine ⟨_, _, fun a ha hh => results_tmps Try.results35 rfl a ha _, List.Sublist.refl _, ?_⟩
    obtain ⟨k, rfl⟩ : ∃ k : Nat, n = k := ⟨n.toNat, by omega⟩
    exact .inr ⟨k, b3_2, _, rfl, by omega, by omega, rfl, rfl, _, _, _, _, [], [], [], [], rfl, CInv.new k⟩
end Go.Proofs.Ytbcfdgnpdaaleaa
