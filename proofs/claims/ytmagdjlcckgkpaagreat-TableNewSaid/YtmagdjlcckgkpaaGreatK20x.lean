/- The proof kit, twentieth part: the address of an element of an array. -/
import Derived.Test.YtmagdjlcckgkpaaGreatMB2
namespace Go.Proofs.YtmagdjlcckgkpaaGreat
open Go.RowKit
section
variable {P : Program} {n : Nat} {w0 : World} {F0 : Nat → Prop} {m : Env} {H : List Res} {ty xt : TypeId} {x y : Operand} {k : IntKind} {p : Int}
theorem f_indexArr (sz : Nat) {e i b off len : Nat} (hx : ev m x = some (.pointer (some ⟨b, off, .none⟩))) (hy : ev m y = some (.int k p)) (ht : P.underlying xt = some (.array len e))
    (hs : (P.info? e).map (·.size) = some sz) (hi : p = (i : Nat)) (hlt : i < len) :
    Flt P n w0 F0 (.indexAddr xt x y) ty m H (.pointer (some ⟨b, off + i * sz, .none⟩)) := fun o a w h1 h2 ha hh => by
  subst hi
  obtain ⟨j, hj, hjs⟩ := Option.map_eq_some_iff.1 hs
  have hadd : (⟨b, off, .none⟩ : Addr).add (i * sz) = ⟨b, off + i * sz, .none⟩ := by
    unfold Addr.add; split <;> simp_all
  simp [execOp, h1, ha.eval hx, ha.eval hy, Instr.indexAt, Instr.sureAddr, asIntOf, run_underlying ht, hlt, sizeOf, typeInfo, hj, hjs, hadd]
end
end Go.Proofs.YtmagdjlcckgkpaaGreat
