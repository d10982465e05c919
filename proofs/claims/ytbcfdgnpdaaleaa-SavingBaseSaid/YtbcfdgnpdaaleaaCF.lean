/- Linked lists: what the answers say. -/
import Derived.Test.YtbcfdgnpdaaleaaC9
import Derived.Test.YtbcfdgnpdaaleaaC8
namespace Go.Proofs.Ytbcfdgnpdaaleaa
open Go.RowKit

section
variable {α : Type} {R : List (Nat × α) → Res → Prop} {K : VK α} {n : Nat} {A B : List (Nat × α)} {v a : α} {r : Res} {u : Value} {H : List Res} {y : Nat}
theorem NewG.ok (h : NewG R n A B v r u H) (hn : (A ++ B).length ≠ n) (x : Nat) (hx : Fresh (nodes (A ++ B)) x) : ∃ r', u = .tuple #[.int .i64 x, .int .i64 0] ∧ H = [r'] ∧ R (A ++ (x, v) :: B) r' := by
  rcases h with ⟨h, _⟩ | ⟨_, x', r', hx', rfl, rfl, hr⟩
  · exact absurd h hn
  · obtain rfl := hx.uniq hx'
    exact ⟨r', rfl, rfl, hr⟩
theorem isAt_split (A B : List (Nat × α)) (y : Nat) (a : α) : isAt (y : Int) (nodes (A ++ (y, a) :: B)) = true := by rw [isAt_nat, nodes_split]; simp
theorem BehindG.ok (h : BehindG R n (A ++ (y, a) :: B) y v r u H) (hnd : (nodes (A ++ (y, a) :: B)).Nodup) : NewG R n (A ++ [(y, a)]) B v r u H := by
  rcases h with ⟨h, _⟩ | ⟨A', y', a', B', he, hy, h⟩
  · rw [isAt_split] at h; cases h
  · obtain rfl : y = y' := by omega
    obtain ⟨rfl, rfl, rfl⟩ := node_uniq hnd he
    exact h
theorem RemG.ok (h : RemG K R (A ++ (y, a) :: B) y r u H) (hnd : (nodes (A ++ (y, a) :: B)).Nodup) : ∃ r', u = .tuple #[K.val a, .int .i64 0] ∧ H = [r'] ∧ R (A ++ B) r' := by
  rcases h with ⟨h, _⟩ | ⟨A', y', a', B', r', he, hy, rfl, rfl, hr⟩
  · rw [isAt_split] at h; cases h
  · obtain rfl : y = y' := by omega
    obtain ⟨rfl, rfl, rfl⟩ := node_uniq hnd he
    exact ⟨r', rfl, rfl, hr⟩
end

section
variable {α : Type} {R : List (Nat × α) → Res → Prop} {K : VK α} {n : Nat} {A B l : List (Nat × α)} {v a : α} {r : Res} {u : Value} {H : List Res} {y : Nat} {node : Int}
theorem NewG.some (h : NewG R n A B v r u H) (hr : R (A ++ B) r) : ∃ l' r', H = [r'] ∧ R l' r' := by
  rcases h with ⟨_, _, rfl⟩ | ⟨_, x, r', _, _, rfl, h⟩
  · exact ⟨_, _, rfl, hr⟩
  · exact ⟨_, _, rfl, h⟩
theorem BehindG.some (h : BehindG R n l node v r u H) (hr : R l r) : ∃ l' r', H = [r'] ∧ R l' r' := by
  rcases h with ⟨_, _, rfl⟩ | ⟨A, y, a, B, rfl, _, h⟩
  · exact ⟨_, _, rfl, hr⟩
  · exact h.some (by simpa using hr)
theorem RemG.some (h : RemG K R l node r u H) (hr : R l r) : ∃ l' r', H = [r'] ∧ R l' r' := by
  rcases h with ⟨_, _, rfl⟩ | ⟨A, y, a, B, r', _, _, _, rfl, h⟩
  · exact ⟨_, _, rfl, hr⟩
  · exact ⟨_, _, rfl, h⟩
theorem ValAt.ok (h : ValAt K (A ++ (y, a) :: B) y u) (hnd : (nodes (A ++ (y, a) :: B)).Nodup) : u = .tuple [K.val a, .int .i64 0].toArray := by
  rcases h with ⟨h, _⟩ | ⟨A', y', a', B', he, hy, rfl⟩
  · rw [isAt_split] at h; cases h
  · obtain rfl : y = y' := by omega
    obtain ⟨rfl, rfl, rfl⟩ := node_uniq hnd he
    rfl
theorem ChR.nd {b : Nat} (h : ChR K b n l r) : (nodes l).Nodup := by obtain ⟨_, _, _, _, _, _, _, _, _, hc⟩ := h; exact hc.nd
theorem ChR.len {b : Nat} (h : ChR K b n l r) : l.length ≤ n := by obtain ⟨_, _, _, _, _, _, _, _, _, hc⟩ := h; exact Nat.le_trans hc.len hc.le
end
theorem vcells_int (l : List Int) : vcells kInt l = iv l := flatMap_single _ l
end Go.Proofs.Ytbcfdgnpdaaleaa
