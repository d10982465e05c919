/- The helpers of the laws on tags: the made list, short texts, the sanity check. -/
import Derived.Test.YthbjjfpikfmmnaaD13
import Derived.Test.YthbjjfpikfmmnaaD7
namespace Go.Proofs.Ythbjjfpikfmmnaa
open Go.RowKit


theorem and_bound (x : Int) (m : Nat) (hm : m < 9223372036854775808) : 0 ≤ bits .and .i64 x m ∧ bits .and .i64 x m ≤ m := by
  have h : bits .and .i64 x m = IntKind.i64.wrap ((BitVec.ofInt 64 x &&& BitVec.ofInt 64 (m : Int)).toNat : Int) := rfl
  have h2 : (BitVec.ofInt 64 (m : Int)).toNat = m := by
    rw [BitVec.toNat_ofInt]; omega
  have h3 : (BitVec.ofInt 64 x &&& BitVec.ofInt 64 (m : Int)).toNat ≤ m := by
    rw [BitVec.toNat_and, h2]; exact Nat.and_le_right
  rw [h, IntKind.wrap_i64]
  omega
theorem tc_set0 (a b : List Tg) (x : Tg) (s : ByteArray) {i : Nat} (h : a.length = i) : (tcells (a ++ x :: b)).take (0 + i * 2 + 0) ++ [.string s] ++ (tcells (a ++ x :: b)).drop (0 + i * 2 + 0 + 1) = tcells (a ++ (s, x.2) :: b) := by
  have hA : (tcells a).length = i * 2 := by rw [tcells_len, h]
  rw [tcells_app, tcells_app, tcells_cons, tcells_cons, show 0 + i * 2 + 0 = (tcells a).length by omega, List.take_left, List.drop_append]
  simp
theorem tc_set1 (a b : List Tg) (x : Tg) (s : ByteArray) {i : Nat} (h : a.length = i) : (tcells (a ++ x :: b)).take (0 + i * 2 + 1) ++ [.string s] ++ (tcells (a ++ x :: b)).drop (0 + i * 2 + 1 + 1) = tcells (a ++ (x.1, s) :: b) := by
  have hA : (tcells a).length = i * 2 := by rw [tcells_len, h]
  rw [tcells_app, tcells_app, tcells_cons, tcells_cons, show 0 + i * 2 + 1 = (tcells a).length + 1 by omega, List.take_append, List.drop_append, List.take_of_length_le (i := (tcells a).length + 1) (l := tcells a) (by omega),
    (List.drop_eq_nil_of_le (by omega) : (tcells a).drop ((tcells a).length + 1 + 1) = []), show (tcells a).length + 1 - (tcells a).length = 1 by omega, show (tcells a).length + 1 + 1 - (tcells a).length = 2 by omega]
  simp
theorem tc_set0' {l a b : List Tg} {x : Tg} (s : ByteArray) {i : Nat} (hl : l = a ++ x :: b) (h : a.length = i) : (tcells l).take (0 + i * 2 + 0) ++ [.string s] ++ (tcells l).drop (0 + i * 2 + 0 + 1) = tcells (a ++ (s, x.2) :: b) := by
  subst hl; exact tc_set0 a b x s h
theorem tc_set1' {l a b : List Tg} {x : Tg} (s : ByteArray) {i : Nat} (hl : l = a ++ x :: b) (h : a.length = i) : (tcells l).take (0 + i * 2 + 1) ++ [.string s] ++ (tcells l).drop (0 + i * 2 + 1 + 1) = tcells (a ++ (x.1, s) :: b) := by
  subst hl; exact tc_set1 a b x s h

def good (t : Tg) : Prop := 1 ≤ t.1.size ∧ (sb t.1).all nb = true ∧ t.1.size ≤ 39 ∧ t.2.size ≤ 40
theorem sb_extract (s : ByteArray) (a b : Nat) : ∀ x ∈ sb (s.extract a b), x ∈ sb s := by
  intro x hx
  simp only [sb, ByteArray.data_extract, Array.toList_extract, List.extract_eq_take_drop, List.mem_map] at hx ⊢
  obtain ⟨y, hy, rfl⟩ := hx
  exact ⟨y, List.mem_of_mem_drop (List.mem_of_mem_take hy), rfl⟩
def abc : ByteArray := ⟨#[97, 98, 99, 100, 101, 102, 103, 104, 105, 106, 107, 108, 109, 110, 111, 112, 95, 46, 45, 48, 49, 50, 51, 52, 53, 54, 55, 56, 57, 113, 114, 115, 116, 117, 118, 119, 120, 121, 122]⟩
theorem good_made (a b c : Nat) (v : ByteArray) (ha : a < 20) (hb : b < 20) (hc : c < 41) (hv : v.size = 40) : good (abc.extract a (20 + b), v.extract 0 c) := by
  have hs : abc.size = 39 := rfl
  refine ⟨?_, ?_, ?_, ?_⟩
  · rw [ByteArray.size_extract]; omega
  · rw [List.all_eq_true]
    intro x hx
    have h := sb_extract _ _ _ x hx
    have hall : (sb abc).all nb = true := by decide +kernel
    exact List.all_eq_true.1 hall x h
  · rw [ByteArray.size_extract]; omega
  · rw [ByteArray.size_extract]; omega

end Go.Proofs.Ythbjjfpikfmmnaa
