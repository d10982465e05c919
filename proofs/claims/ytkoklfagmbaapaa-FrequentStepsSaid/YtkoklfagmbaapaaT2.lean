/- Sums of weights by key; small numbers out of steps. -/
import Derived.Test.YtkoklfagmbaapaaT1
namespace Go.Proofs.Ytkoklfagmbaapaa
open Go.RowKit

def fadd (f : ByteArray → Nat) (k : ByteArray) (w : Nat) (q : ByteArray) : Nat := if q = k then f q + w else f q
theorem fadd_self (f : ByteArray → Nat) (k : ByteArray) (w : Nat) : fadd f k w k = f k + w := if_pos rfl
theorem fadd_ne {f : ByteArray → Nat} {k q : ByteArray} {w : Nat} (h : q ≠ k) : fadd f k w q = f q := if_neg h
abbrev KW := List (ByteArray × Nat)
def kfst (P : KW) : List ByteArray := P.map Prod.fst
def wsum : KW → ByteArray → Nat
  | [], _ => 0
  | p :: P, q => (if q = p.1 then p.2 else 0) + wsum P q
theorem wsum_snoc (P : KW) (k : ByteArray) (w : Nat) (q : ByteArray) : wsum (P ++ [(k, w)]) q = fadd (wsum P) k w q := by
  induction P with
  | nil => simp only [List.nil_append, wsum, fadd]; split <;> omega
  | cons p P ih =>
    show (if q = p.1 then p.2 else 0) + wsum (P ++ [(k, w)]) q = _
    rw [ih]
    simp only [fadd, wsum]
    split <;> split <;> omega
theorem wsum_fun (P : KW) (k : ByteArray) (w : Nat) : wsum (P ++ [(k, w)]) = fadd (wsum P) k w := funext fun q => wsum_snoc P k w q
theorem wsum_le {P : KW} {b : Nat} (h : ∀ p ∈ P, p.2 ≤ b) (q : ByteArray) : wsum P q ≤ P.length * b := by
  induction P with
  | nil => simp [wsum]
  | cons p P ih =>
    have h1 := h p (List.mem_cons_self ..)
    have h2 := ih fun x hx => h x (List.mem_cons_of_mem _ hx)
    rw [wsum, List.length_cons, Nat.succ_mul]
    split <;> omega
theorem take_snoc' {α : Type} {l : List α} {i : Nat} {t : α} (h : l[i]? = some t) : l.take (i + 1) = l.take i ++ [t] := by rw [List.take_add_one, h]; rfl
theorem lsum_take {l : List En} {i : Nat} {x : En} (h : l[i]? = some x) : lsum (l.take (i + 1)) = lsum (l.take i) + (x.2.1 + x.2.2) := by
  rw [take_snoc' h]; simp [lsum]
theorem lsum_take_le (l : List En) (i : Nat) : lsum (l.take i) ≤ lsum l := by
  conv => rhs; rw [← List.take_append_drop i l]
  simp only [lsum, List.map_append, List.sum_append]
  omega
theorem bnd_step {total i w total' : Nat} (h : total' = total + w) (ht : total ≤ i * 65536) (hw : w ≤ 65536) : total' ≤ (i + 1) * 65536 := by rw [h, Nat.succ_mul]; exact Nat.add_le_add ht hw
theorem and_bound13 (x : Int) (m : Nat) (hm : m < 9223372036854775808) : 0 ≤ bits .and .i64 x m ∧ bits .and .i64 x m ≤ m := by
  have h : bits .and .i64 x m = IntKind.i64.wrap ((BitVec.ofInt 64 x &&& BitVec.ofInt 64 (m : Int)).toNat : Int) := rfl
  have h2 : (BitVec.ofInt 64 (m : Int)).toNat = m := by
    rw [BitVec.toNat_ofInt]; omega
  have h3 : (BitVec.ofInt 64 x &&& BitVec.ofInt 64 (m : Int)).toNat ≤ m := by
    rw [BitVec.toNat_and, h2]; exact Nat.and_le_right
  rw [h, IntKind.wrap_i64]
  omega
theorem mod32 (s : Int) : ∃ n : Nat, bits .and .i64 s 31 = (n : Int) ∧ n < 32 := by
  have h := and_bound13 s 31 (by decide)
  have h1 : bits .and .i64 s ((31 : Nat) : Int) = bits .and .i64 s 31 := rfl
  rw [h1] at h
  exact ⟨(bits .and .i64 s 31).toNat, by omega, by omega⟩
def hvy : ByteArray := ⟨#[104, 101, 97, 118, 121]⟩
end Go.Proofs.Ytkoklfagmbaapaa
