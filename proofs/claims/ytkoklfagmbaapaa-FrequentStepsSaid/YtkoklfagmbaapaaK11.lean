/- The proof kit, eleventh part: helpers. -/
import Derived.Test.YtkoklfagmbaapaaK9
import Derived.Scope
namespace Go.Proofs.Ytkoklfagmbaapaa
open Go.RowKit

section
variable {P : Program} {n : Nat} {w0 : World} {F0 : Nat → Prop} {m : Env} {H L : List Res} {w : World} {ty : TypeId} {x : Operand} {v : Value} {t e sz : Nat}
/-- An element of one cell. -/
theorem f_loadBr1 {g cap l off : Nat} {xs : List Value} {d : TypeDesc} (i j : Nat) (hx : ev m x = some (.pointer (some ⟨g, off, .none⟩))) (hi : H[i]? = some (bun L)) (hj : L[j]? = some (row (.slice (some ⟨g, 0, .none⟩) l cap) e sz l xs)) (hd : P.underlying t = some d)
    (hagg : (match d with | .struct _ | .array _ _ => false | _ => true) = true) (hv : (xs.drop off).take 1 = [v]) : Flt P n w0 F0 (.load t x) ty m H v :=
  f_loadBr i j hx hi hj hd hagg (by
    have h : ((xs.drop off).take 1)[0]? = some v := by rw [hv]; rfl
    rw [List.getElem?_take, if_pos (by omega), List.getElem?_drop] at h
    exact h)
theorem f_loadr1 {g cap l off : Nat} {xs : List Value} {d : TypeDesc} (i : Nat) (hx : ev m x = some (.pointer (some ⟨g, off, .none⟩))) (hd : P.underlying t = some d)
    (hagg : (match d with | .struct _ | .array _ _ => false | _ => true) = true) (hi : H[i]? = some (row (.slice (some ⟨g, 0, .none⟩) l cap) e sz l xs)) (hv : (xs.drop off).take 1 = [v]) : Flt P n w0 F0 (.load t x) ty m H v :=
  f_loadr i hx hd hagg hi (by
    have h : ((xs.drop off).take 1)[0]? = some v := by rw [hv]; rfl
    rw [List.getElem?_take, if_pos (by omega), List.getElem?_drop] at h
    exact h)
theorem eq_bool (w : World) (d : Nat) (t : TypeId) (p q : Bool) (h : P.underlying t = some .bool) : (Op.equalIn (d + 1) t (.bool p) (.bool q)).run P w = .ok (p == q) w := by simp [Op.equalIn, run_underlying h]
theorem f_eqlb {xt yt : TypeId} {y : Operand} {p q : Bool} (hx : ev m x = some (.bool p)) (hy : ev m y = some (.bool q)) (ht : P.underlying xt = some .bool) : Flt P n w0 F0 (.binOp .eql xt x y yt) ty m H (.bool (p == q)) :=
  f_bin hx hy guard_bool fun w => by
    have h' : (Op.equal xt (.bool p) (.bool q)).run P w = .ok (p == q) w := eq_bool w 9999 xt p q ht
    simp [binOp, h']
theorem f_neqb {xt yt : TypeId} {y : Operand} {p q : Bool} (hx : ev m x = some (.bool p)) (hy : ev m y = some (.bool q)) (ht : P.underlying xt = some .bool) : Flt P n w0 F0 (.binOp .neq xt x y yt) ty m H (.bool (p != q)) :=
  f_bin hx hy guard_bool fun w => by
    have h' : (Op.equal xt (.bool p) (.bool q)).run P w = .ok (p == q) w := eq_bool w 9999 xt p q ht
    simp [binOp, h', bne]
end
section
variable {P : Program} {n : Nat} {w0 : World} {F0 : Nat → Prop} {N R : Cond} {X : Nat → Cond} {m : Env} {H L : List Res} {r : Res} {w : World}
theorem w_scope {c : Code} (h : W P n w0 F0 c N R X m H w) : W P n w0 F0 (.scope c) N R X m H w := fun a ha hh =>
  wp_scope_straight (wp_mono (h a ha hh) fun e a' w' hq => by cases e <;> exact hq)
theorem w_label {l : Nat} (h : N m H w) : W P n w0 F0 (.label l) N R X m H w := fun _ ha hh => wp_label ⟨m, H, ha, hh, h⟩
theorem Holds.snoc : Holds w0 F0 (Proofs.Ytkoklfagmbaapaa.bun L :: r :: H) w ↔ Holds w0 F0 (Proofs.Ytkoklfagmbaapaa.bun (L ++ [r]) :: H) w := by
  rw [← Holds.bun, ← Holds.bun, List.append_assoc, List.singleton_append]
theorem w_snoc {c : Code} (h : W P n w0 F0 c N R X m (bun (L ++ [r]) :: H) w) : W P n w0 F0 c N R X m (bun L :: r :: H) w := w_eqv Holds.snoc.1 h
theorem wl_snoc {ops : Array Oper} {l : List Oper} (h : WL P n w0 F0 ops N l m (bun (L ++ [r]) :: H) w) : WL P n w0 F0 ops N l m (bun L :: r :: H) w := wl_eqv Holds.snoc.1 h
theorem Holds.bun0 (h : Holds w0 F0 H w) : Holds w0 F0 (Proofs.Ytkoklfagmbaapaa.bun [] :: H) w := Holds.bun.1 h
theorem w_bun0 {c : Code} (h : W P n w0 F0 c N R X m (bun [] :: H) w) : W P n w0 F0 c N R X m H w := w_eqv Holds.bun0 h
end
theorem flatMap_single {α β : Type} (f : α → β) (l : List α) : (l.flatMap fun s => [f s]) = l.map f := by
  induction l with
  | nil => rfl
  | cons a l ih => simp [ih]
end Go.Proofs.Ytkoklfagmbaapaa
