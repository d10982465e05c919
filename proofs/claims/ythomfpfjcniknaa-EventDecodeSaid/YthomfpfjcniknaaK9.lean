/- The proof kit, ninth part: helpers. -/
import Derived.Test.YthomfpfjcniknaaK5
namespace Go.Proofs.Ythomfpfjcniknaa
open Go.RowKit

/-- One resource comes first. -/
theorem pk1 (i : Nat) {H : List Res} {r : Res} {E : List Res} (hp : pick [i] H = some ([r], E)) : H.Perm (r :: E) := pick_perm [i] H hp
end Go.Proofs.Ythomfpfjcniknaa
