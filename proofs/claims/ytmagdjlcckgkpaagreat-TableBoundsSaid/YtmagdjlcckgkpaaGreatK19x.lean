/- The proof kit, nineteenth part: an append behind which the slice it began with is still read. -/
import Derived.Test.YtmagdjlcckgkpaaGreatMB3
import Derived.ArgAppend
namespace Go.Proofs.YtmagdjlcckgkpaaGreat
open Go.RowKit
section
variable {P : Program} {n : Nat} {w0 : World} {F0 : Nat → Prop} {m : Env} {w : World} {ty : TypeId} {x y : Operand} {t e sz bytes : Nat} {z : Value}
theorem e_appK {g l cap c : Nat} {xs news : List Value} {xv : Value} (H2 : List Res) (T : SlT P t e sz bytes z) (hc0 : c ≠ 0) (hx : ev m x = some (.slice (some ⟨g, 0, .none⟩) l cap)) (hy : ev m y = some xv)
    (hr : ∀ w, Holds w0 F0 (row (.slice (some ⟨g, 0, .none⟩) l cap) e sz l xs :: H2) w → Rd w Nil sz xv c news) (h1 : ∀ u ∈ news, u.oneCell' = true)
    (hbytes : (l + c) * bytes ≤ 140737488355328) (h63 : l + c ≤ 140737488355328) :
    Eff P n w0 F0 (.call { callee := .builtin .append, args := #[x, y], argTypes := #[t, t] }) ty m (row (.slice (some ⟨g, 0, .none⟩) l cap) e sz l xs :: H2) w (fun u H' => H' = row u e sz (l + c) (xs ++ news) :: row (.slice (some ⟨g, 0, .none⟩) l cap) e sz l xs :: H2 ∨
      (u = .slice (some ⟨g, 0, .none⟩) (l + c) cap ∧ H' = row u e sz (l + c) (xs ++ news) :: H2)) := fun o a K Q ho1 ho2 ha hh hk => by
  have hok : w.ownsRow 0 e sz (.slice (some ⟨g, 0, .none⟩) l cap) l xs := (hh.2.mem (row (.slice (some ⟨g, 0, .none⟩) l cap) e sz l xs) (by simp)).1
  obtain ⟨i, hi, hz, hs, hb⟩ := T.hi
  obtain ⟨A, c', rfl, hl, hc, hA⟩ := hr w hh
  obtain ⟨b, off, rfl, _, _, hcell⟩ := hA.resolve_left hc0
  have hnews : ∀ (j : Nat) u, news[j]? = some u → w.cell? ((⟨b, off, .none⟩ : Addr).add j) = some u := fun j u hu => by rw [add_eq]; exact hcell j u hu
  unfold Oper.wp
  by_cases hroom : l + c ≤ cap
  · obtain ⟨w', hrun, h2, h3⟩ := run_append_fits (P := P) w 0 t o.type e i sz T.ht hi hs g l cap xs hok ⟨b, off, .none⟩ c c' news hl hnews h1 hroom
    have : (execOp a.eval o).run P w = .ok (.value (.slice (some ⟨g, 0, .none⟩) (l + c) cap)) w' := by
      simp only [execOp, ho1, resolve, invoke, builtin, Sem.run_bind, Sem.run_pure, Result.andThen_ok, List.map_toArray, List.map_cons, List.map_nil, ha.eval hx, ha.eval hy, hrun]
    rw [this, Oper.upon_value]
    exact hk _ _ w' (.inr ⟨rfl, rfl⟩) (hh.change (H1 := []) (r' := row (.slice (some ⟨g, 0, .none⟩) (l + c) cap) e sz (l + c) (xs ++ news)) (frm_of_grown h3 (fun k h => h)) h2 (fun k hk => .inl hk))
  · have holds : ∀ (j : Nat) u, xs[j]? = some u → w.cell? ((⟨g, 0, .none⟩ : Addr).add j) = some u := hok.cells (g := g) rfl
    obtain ⟨v', w', hrun, h2, h3⟩ := run_append_arg_grows (P := P) w t o.type e i z sz bytes T.ht hi hz hs hb T.hzs T.hsz ⟨g, 0, .none⟩ l cap xs hok.1 holds ⟨b, off, .none⟩ c c' news hl hnews (by omega) (by simp only [maxLen]; omega) hbytes
    have : (execOp a.eval o).run P w = .ok (.value v') w' := by
      simp only [execOp, ho1, resolve, invoke, builtin, Sem.run_bind, Sem.run_pure, Result.andThen_ok, List.map_toArray, List.map_cons, List.map_nil, ha.eval hx, ha.eval hy, hrun]
    rw [this, Oper.upon_value]
    refine hk v' _ w' (.inl rfl) (hh.more (r := row v' e sz (l + c) (xs ++ news)) (frm_of_grown h3 (fun k h => by cases h)) ?_ ?_)
    · rcases h2.2 with h | ⟨g', cap', cur, e1, _, h4⟩
      · exact ⟨h2.1, .inl h⟩
      · exact ⟨h2.1, .inr ⟨g', cap', cur, e1, Nat.zero_le _, h4⟩⟩
    · intro k hk'
      exact ⟨(h2.lt k hk').1, (h2.lt k hk').2⟩
end
end Go.Proofs.YtmagdjlcckgkpaaGreat
