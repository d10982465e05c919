/- The proof kit, ninth part: helpers. -/
import Derived.Test.YthomfpfjcniknaaK5
namespace Go.Proofs.Ythomfpfjcniknaa
open Go.RowKit

/-- One resource comes first. -/
theorem pk1 (i : Nat) {H : List Res} {r : Res} {E : List Res} (hp : pick [i] H = some ([r], E)) : H.Perm (r :: E) := pick_perm [i] H hp
/-- What is left is held in some world. -/
theorem Eff.held {P : Program} {n : Nat} {w0 : World} {F0 : Nat → Prop} {op : Op} {ty : TypeId} {m : Env} {H : List Res} {w : World} {Φ : Value → List Res → Prop} (h : Eff P n w0 F0 op ty m H w Φ) :
    Eff P n w0 F0 op ty m H w (fun v H' => (∃ w', Holds w0 F0 H' w') ∧ Φ v H') := h.with_ fun _ _ w' hp hh => ⟨⟨w', hh⟩, hp⟩
end Go.Proofs.Ythomfpfjcniknaa
