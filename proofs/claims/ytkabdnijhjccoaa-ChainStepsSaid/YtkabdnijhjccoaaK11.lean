/- The proof kit, eleventh part: helpers. -/
import Derived.Test.YtkabdnijhjccoaaK9
namespace Go.Proofs.Ytkabdnijhjccoaa
open Go.RowKit

section
variable {P : Program} {n : Nat} {w0 : World} {F0 : Nat → Prop} {m : Env} {H L : List Res} {w : World} {ty : TypeId} {x : Operand} {v : Value} {t e sz : Nat}
/-- An element of one cell. -/
theorem f_loadBr1 {g cap l off : Nat} {xs : List Value} {d : TypeDesc} (i j : Nat) (hx : ev m x = some (.pointer (some ⟨g, off, .none⟩))) (hi : H[i]? = some (bun L)) (hj : L[j]? = some (row (.slice (some ⟨g, 0, .none⟩) l cap) e sz l xs)) (hd : P.underlying t = some d)
    (hagg : (match d with | .struct _ | .array _ _ => false | _ => true) = true) (hv : (xs.drop off).take 1 = [v]) : Flt P n w0 F0 (.load t x) ty m H v :=
  f_loadBr i j hx hi hj hd hagg (by
    have h : ((xs.drop off).take 1)[0]? = some v := by rw [hv]; rfl
    rw [List.getElem?_take, if_pos (by omega), List.getElem?_drop] at h
    exact h)
theorem f_loadr1 {g cap l off : Nat} {xs : List Value} {d : TypeDesc} (i : Nat) (hx : ev m x = some (.pointer (some ⟨g, off, .none⟩))) (hd : P.underlying t = some d)
    (hagg : (match d with | .struct _ | .array _ _ => false | _ => true) = true) (hi : H[i]? = some (row (.slice (some ⟨g, 0, .none⟩) l cap) e sz l xs)) (hv : (xs.drop off).take 1 = [v]) : Flt P n w0 F0 (.load t x) ty m H v :=
  f_loadr i hx hd hagg hi (by
    have h : ((xs.drop off).take 1)[0]? = some v := by rw [hv]; rfl
    rw [List.getElem?_take, if_pos (by omega), List.getElem?_drop] at h
    exact h)
theorem eq_bool (w : World) (d : Nat) (t : TypeId) (p q : Bool) (h : P.underlying t = some .bool) : (Op.equalIn (d + 1) t (.bool p) (.bool q)).run P w = .ok (p == q) w := by simp [Op.equalIn, run_underlying h]
theorem f_eqlb {xt yt : TypeId} {y : Operand} {p q : Bool} (hx : ev m x = some (.bool p)) (hy : ev m y = some (.bool q)) (ht : P.underlying xt = some .bool) : Flt P n w0 F0 (.binOp .eql xt x y yt) ty m H (.bool (p == q)) :=
  f_bin hx hy guard_bool fun w => by
    have h' : (Op.equal xt (.bool p) (.bool q)).run P w = .ok (p == q) w := eq_bool w 9999 xt p q ht
    simp [binOp, h']
theorem f_neqb {xt yt : TypeId} {y : Operand} {p q : Bool} (hx : ev m x = some (.bool p)) (hy : ev m y = some (.bool q)) (ht : P.underlying xt = some .bool) : Flt P n w0 F0 (.binOp .neq xt x y yt) ty m H (.bool (p != q)) :=
  f_bin hx hy guard_bool fun w => by
    have h' : (Op.equal xt (.bool p) (.bool q)).run P w = .ok (p == q) w := eq_bool w 9999 xt p q ht
    simp [binOp, h', bne]
end
theorem flatMap_single {α β : Type} (f : α → β) (l : List α) : (l.flatMap fun s => [f s]) = l.map f := by
  induction l with
  | nil => rfl
  | cons a l ih => simp [ih]
end Go.Proofs.Ytkabdnijhjccoaa
