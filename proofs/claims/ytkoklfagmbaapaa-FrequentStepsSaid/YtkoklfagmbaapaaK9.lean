/- The proof kit, ninth part: helpers. -/
import Derived.Test.YtkoklfagmbaapaaK5
namespace Go.Proofs.Ytkoklfagmbaapaa
open Go.RowKit

/-- One resource comes first. -/
theorem pk1 (i : Nat) {H : List Res} {r : Res} {E : List Res} (hp : pick [i] H = some ([r], E)) : H.Perm (r :: E) := pick_perm [i] H hp
/-- What is left is held in some world. -/
theorem Eff.held {P : Program} {n : Nat} {w0 : World} {F0 : Nat → Prop} {op : Op} {ty : TypeId} {m : Env} {H : List Res} {w : World} {Φ : Value → List Res → Prop} (h : Eff P n w0 F0 op ty m H w Φ) :
    Eff P n w0 F0 op ty m H w (fun v H' => (∃ w', Holds w0 F0 H' w') ∧ Φ v H') := h.with_ fun _ _ w' hp hh => ⟨⟨w', hh⟩, hp⟩

/-! ### Several resources as one -/
def okL : List Res → World → Prop
  | [], _ => True
  | r :: L, w => r.ok w ∧ (∀ s ∈ L, ∀ k, r.foot k → ¬ s.foot k) ∧ okL L w
theorem okL_loc : ∀ (L : List Res) (w w' : World), (∀ k, feet L k → w'.heap[k]? = w.heap[k]?) → okL L w → okL L w'
  | [], _, _, _, _ => trivial
  | r :: L, w, w', h, ⟨h1, h2, h3⟩ => ⟨r.loc w w' (fun k hk => h k ⟨r, List.mem_cons_self .., hk⟩) h1, h2, okL_loc L w w' (fun k ⟨s, hs, hk⟩ => h k ⟨s, List.mem_cons_of_mem _ hs, hk⟩) h3⟩
def bun (L : List Res) : Res where
  foot := feet L
  ok := okL L
  loc := okL_loc L
theorem hs_okL {w0 w : World} {F0 : Nat → Prop} : ∀ {L : List Res}, Hs w0 F0 L w ↔ okL L w ∧ ∀ k, feet L k → k < w.heap.size ∧ (w0.heap.size ≤ k ∨ F0 k)
  | [] => ⟨fun _ => ⟨trivial, by rintro k ⟨r, hr, _⟩; cases hr⟩, fun _ => trivial⟩
  | r :: L => by
    have ih := hs_okL (w0 := w0) (w := w) (F0 := F0) (L := L)
    constructor
    · rintro ⟨⟨h1, h2, h3⟩, h4⟩
      obtain ⟨h5, h6⟩ := ih.1 h4
      refine ⟨⟨h1, h3, h5⟩, ?_⟩
      rintro k ⟨s, hs, hk⟩
      rcases List.mem_cons.1 hs with rfl | hs
      · exact h2 k hk
      · exact h6 k ⟨s, hs, hk⟩
    · rintro ⟨⟨h1, h3, h5⟩, h6⟩
      exact ⟨⟨h1, fun k hk => h6 k ⟨r, List.mem_cons_self .., hk⟩, h3⟩, ih.2 ⟨h5, fun k ⟨s, hs, hk⟩ => h6 k ⟨s, List.mem_cons_of_mem _ hs, hk⟩⟩⟩
theorem Holds.bun {w0 w : World} {F0 : Nat → Prop} {L H : List Res} : Holds w0 F0 (L ++ H) w ↔ Holds w0 F0 (bun L :: H) w := by
  unfold Holds
  refine and_congr_right fun _ => ?_
  rw [Hs.append]
  constructor
  · rintro ⟨h1, h2, h3⟩
    obtain ⟨h4, h5⟩ := hs_okL.1 h1
    refine ⟨⟨h4, h5, ?_⟩, h2⟩
    rintro s hs k ⟨r, hr, hk⟩
    exact h3 r hr s hs k hk
  · rintro ⟨⟨h4, h5, h6⟩, h2⟩
    exact ⟨hs_okL.2 ⟨h4, h5⟩, h2, fun r hr s hs k hk => h6 s hs k ⟨r, hr, hk⟩⟩
section
variable {P : Program} {n : Nat} {w0 : World} {F0 : Nat → Prop} {N R : Cond} {X : Nat → Cond} {m : Env} {H : List Res} {w : World}
theorem w_eqv {c : Code} {H' : List Res} (h : Holds w0 F0 H w → Holds w0 F0 H' w) (hw : W P n w0 F0 c N R X m H' w) : W P n w0 F0 c N R X m H w := fun a ha hh => hw a ha (h hh)
theorem w_bun {c : Code} (L : List Res) (hw : W P n w0 F0 c N R X m (bun L :: H) w) : W P n w0 F0 c N R X m (L ++ H) w := w_eqv Holds.bun.1 hw
theorem w_unb {c : Code} (L : List Res) (hw : W P n w0 F0 c N R X m (L ++ H) w) : W P n w0 F0 c N R X m (bun L :: H) w := w_eqv Holds.bun.2 hw
theorem wl_eqv {ops : Array Oper} {l : List Oper} {H' : List Res} (h : Holds w0 F0 H w → Holds w0 F0 H' w) (hw : WL P n w0 F0 ops N l m H' w) : WL P n w0 F0 ops N l m H w := fun a ha hh => hw a ha (h hh)
theorem wl_bun {ops : Array Oper} {l : List Oper} (L : List Res) (hw : WL P n w0 F0 ops N l m (bun L :: H) w) : WL P n w0 F0 ops N l m (L ++ H) w := wl_eqv Holds.bun.1 hw
theorem wl_unb {ops : Array Oper} {l : List Oper} (L : List Res) (hw : WL P n w0 F0 ops N l m (L ++ H) w) : WL P n w0 F0 ops N l m (bun L :: H) w := wl_eqv Holds.bun.2 hw
end

/-! ### Reading what is in a bundle -/
theorem okL_mem : ∀ {L : List Res} {w : World} {j : Nat} {r : Res}, okL L w → L[j]? = some r → r.ok w
  | [], _, _, _, _, h => by simp at h
  | s :: L, w, 0, r, h, hj => by simp at hj; subst hj; exact h.1
  | s :: L, w, j + 1, r, h, hj => okL_mem h.2.2 (by simpa using hj)
theorem Holds.okB {w0 w : World} {F0 : Nat → Prop} {H L : List Res} (hh : Holds w0 F0 H w) {i j : Nat} {r : Res} (hi : H[i]? = some (Proofs.Ytkoklfagmbaapaa.bun L)) (hj : L[j]? = some r) : r.ok w := okL_mem (hh.ok hi) hj
theorem rowB_form {w0 w : World} {F0 : Nat → Prop} {H L : List Res} {e sz n : Nat} {v : Value} {xs : List Value} (hh : Holds w0 F0 H w) {i j : Nat} (hi : H[i]? = some (bun L)) (hj : L[j]? = some (row v e sz n xs)) (hn : 0 < n) : ∃ g cap, v = .slice (some ⟨g, 0, .none⟩) n cap := by
  have hok : w.ownsRow 0 e sz v n xs := hh.okB hi hj
  rcases hok.2 with ⟨_, h⟩ | ⟨g, cap, cur, h, _⟩
  · omega
  · exact ⟨g, cap, h⟩
theorem rowB_slice {w0 w : World} {F0 : Nat → Prop} {H L : List Res} {e sz n : Nat} {v : Value} {xs : List Value} (hh : Holds w0 F0 H w) {i j : Nat} (hi : H[i]? = some (bun L)) (hj : L[j]? = some (row v e sz n xs)) : ∃ A cap, v = .slice A n cap := by
  have hok : w.ownsRow 0 e sz v n xs := hh.okB hi hj
  rcases hok.2 with ⟨h, rfl⟩ | ⟨g, cap, cur, h, _⟩
  · exact ⟨_, _, h⟩
  · exact ⟨_, _, h⟩
theorem Rd.heldB {w0 w : World} {F0 : Nat → Prop} {H L : List Res} {e sz n : Nat} {v : Value} {xs : List Value} (hh : Holds w0 F0 H w) {i j : Nat} (hi : H[i]? = some (bun L)) (hj : L[j]? = some (row v e sz n xs)) : Rd w Nil sz v n xs := rd_row (hh.okB hi hj)
section
variable {P : Program} {n : Nat} {w0 : World} {F0 : Nat → Prop} {m : Env} {H L : List Res} {w : World} {ty : TypeId} {x : Operand} {v : Value} {t e sz : Nat}
theorem f_loadB {b off tb : Nat} {cs : List Value} {d : TypeDesc} (i j : Nat) (hx : ev m x = some (.pointer (some ⟨b, off, .none⟩))) (hi : H[i]? = some (bun L)) (hj : L[j]? = some (blk b cs tb)) (hd : P.underlying t = some d)
    (hagg : (match d with | .struct _ | .array _ _ => false | _ => true) = true) (hv : cs[off]? = some v) : Flt P n w0 F0 (.load t x) ty m H v :=
  f_load hx hd hagg fun w hh => by
    have hok : w.heap[b]? = some (.cells cs.toArray tb (0, 0)) := hh.okB hi hj
    rw [cell_of_row w b off cs.toArray tb (0, 0) hok]
    simpa using hv
theorem f_loadBr {g cap l off : Nat} {xs : List Value} {d : TypeDesc} (i j : Nat) (hx : ev m x = some (.pointer (some ⟨g, off, .none⟩))) (hi : H[i]? = some (bun L)) (hj : L[j]? = some (row (.slice (some ⟨g, 0, .none⟩) l cap) e sz l xs)) (hd : P.underlying t = some d)
    (hagg : (match d with | .struct _ | .array _ _ => false | _ => true) = true) (hv : xs[off]? = some v) : Flt P n w0 F0 (.load t x) ty m H v :=
  f_load hx hd hagg fun w hh => by
    have := (show w.ownsRow 0 e sz (.slice (some ⟨g, 0, .none⟩) l cap) l xs from hh.okB hi hj).cells (g := g) rfl off v hv
    rw [add_eq] at this
    simpa using this
theorem f_loadsBr {g cap l off : Nat} {cs xs : List Value} {d : TypeDesc} (i j : Nat) (hx : ev m x = some (.pointer (some ⟨g, off, .none⟩))) (hi : H[i]? = some (bun L)) (hj : L[j]? = some (row (.slice (some ⟨g, 0, .none⟩) l cap) e sz l xs)) (hd : P.underlying t = some d)
    (hagg : (match d with | .struct _ | .array _ _ => true | _ => false) = true) (hs : (P.info? t).map (·.size) = some cs.length) (hv : (xs.drop off).take cs.length = cs) : Flt P n w0 F0 (.load t x) ty m H (.agg cs.toArray) :=
  f_loads hx hd hagg hs fun w hh j' u hu => by
    have hj' : j' < cs.length := (List.getElem?_eq_some_iff.1 hu).1
    rw [← hv, List.getElem?_take, if_pos (by omega), List.getElem?_drop] at hu
    have := (show w.ownsRow 0 e sz (.slice (some ⟨g, 0, .none⟩) l cap) l xs from hh.okB hi hj).cells (g := g) rfl (off + j') u hu
    rw [add_eq] at this
    simpa using this
end

/-! ### By any place -/
def splitR : Nat → List Res → Option (List Res × Res × List Res)
  | _, [] => .none
  | 0, r :: l => some ([], r, l)
  | i + 1, r :: l => match splitR i l with
    | some (a, s, b) => some (r :: a, s, b)
    | .none => .none
theorem splitR_eq : ∀ (i : Nat) (H : List Res) {a b : List Res} {r : Res}, splitR i H = some (a, r, b) → H = a ++ r :: b
  | _, [], _, _, _, h => by simp [splitR] at h
  | 0, r :: l, _, _, _, h => by simp only [splitR, Option.some.injEq, Prod.mk.injEq] at h; obtain ⟨rfl, rfl, rfl⟩ := h; rfl
  | i + 1, s :: l, a, b, r, h => by
    simp only [splitR] at h
    split at h
    · rename_i a' r' b' hq
      simp only [Option.some.injEq, Prod.mk.injEq] at h
      obtain ⟨rfl, rfl, rfl⟩ := h
      rw [splitR_eq i l hq]; rfl
    · cases h
section
variable {P : Program} {n : Nat} {w0 : World} {F0 : Nat → Prop} {m : Env} {H H1 H2 : List Res} {w : World} {ty : TypeId}
  {x y : Operand} {v : Value} {t e sz bytes : Nat} {z : Value}
theorem e_appN (i : Nat) {l c : Nat} {xs news : List Value} {xv : Value} (T : SlT P t e sz bytes z) (hx : ev m x = some v) (hy : ev m y = some xv) (hi : splitR i H = some (H1, row v e sz l xs, H2))
    (hr : ∀ w, Holds w0 F0 H w → Rd w Nil sz xv c news) (h1 : ∀ u ∈ news, u.oneCell' = true) (hbytes : (l + c) * bytes ≤ 140737488355328) (h63 : l + c ≤ 140737488355328) :
    Eff P n w0 F0 (.call { callee := .builtin .append, args := #[x, y], argTypes := #[t, t] }) ty m H w (fun u H' => (∃ A cap, u = .slice A (l + c) cap) ∧ H' = H1 ++ row u e sz (l + c) (xs ++ news) :: H2) :=
  (e_app H1 H2 T hx hy (splitR_eq i H hi) hr h1 hbytes h63).with_ fun v H' w' hH hh => ⟨by
    subst hH
    exact row_slice (hh.drop_ (List.sublist_append_right _ _)) (i := 0) rfl, hH⟩
theorem e_storeN (i : Nat) {bb off tb : Nat} {cs cs' us : List Value} (hx : ev m x = some (.pointer (some ⟨bb, off, .none⟩))) (hy : ev m y = some v) (hi : splitR i H = some (H1, blk bb cs tb, H2)) (hv : v.cells = us.toArray) (hs : (P.info? t).map (·.size) = some us.length)
    (h1 : ∀ u ∈ us, u.oneCell' = true) (hl : Nat.ble (off + us.length) cs.length = true) (hcs : cs.take off ++ us ++ cs.drop (off + us.length) = cs') :
    Eff P n w0 F0 (.store t x y) ty m H w (fun _ H' => H' = H1 ++ blk bb cs' tb :: H2) :=
  e_store H1 H2 hx hy hv hs h1 (Nat.le_of_ble_eq_true hl) hcs (splitR_eq i H hi)
theorem e_storerN (i : Nat) {g cap l off : Nat} {xs xs' us : List Value} (hx : ev m x = some (.pointer (some ⟨g, off, .none⟩))) (hy : ev m y = some v) (hi : splitR i H = some (H1, row (.slice (some ⟨g, 0, .none⟩) l cap) e sz l xs, H2)) (hv : v.cells = us.toArray) (hs : (P.info? t).map (·.size) = some us.length)
    (h1 : ∀ u ∈ us, u.oneCell' = true) (hl : off + us.length ≤ xs.length) (hcs : xs.take off ++ us ++ xs.drop (off + us.length) = xs') :
    Eff P n w0 F0 (.store t x y) ty m H w (fun _ H' => H' = H1 ++ row (.slice (some ⟨g, 0, .none⟩) l cap) e sz l xs' :: H2) :=
  e_storer H1 H2 hx hy hv hs h1 hl hcs (splitR_eq i H hi)
end
end Go.Proofs.Ytkoklfagmbaapaa
