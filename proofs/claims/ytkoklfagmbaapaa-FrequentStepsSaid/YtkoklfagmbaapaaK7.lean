/- The proof kit, seventh part: regions that draw their order, where two changes may come in either order. -/
import Derived.Test.YtkoklfagmbaapaaK5
namespace Go.Proofs.Ytkoklfagmbaapaa
open Go.RowKit

inductive Ordt where
  | done
  | fl (i : Nat) (t : Ordt)
  | ef (i : Nat) (t : Ordt)
  | two (i : Nat) (t : Ordt) (j : Nat) (u : Ordt)

def Ordt.height : Ordt → Nat
  | .done => 0
  | .fl _ t => t.height + 1
  | .ef _ t => t.height + 1
  | .two _ t _ u => max t.height u.height + 1

def okT (ops : Array Oper) : Array Bool → Ordt → Bool
  | listed, .done => (Region.ready .any ops listed).isEmpty
  | listed, .fl i t => Region.free .any ops listed i && (Region.ready .any ops listed).contains i && okT ops (listed.setIfInBounds i true) t
  | listed, .ef i t => Region.ready .any ops listed == [i] && okT ops (listed.setIfInBounds i true) t
  | listed, .two i t j u => Region.ready .any ops listed == [i, j] && (okT ops (listed.setIfInBounds i true) t && okT ops (listed.setIfInBounds j true) u)

section
variable {P : Program} {n : Nat} {w0 : World} {F0 : Nat → Prop} {N R : Cond} {X : Nat → Cond} {m : Env} {H : List Res} {w : World}
  {ops : Array Oper} {op : Op} {ty : TypeId} {pos : String} {af : Array Edge} {v : Value} {Φ : Value → List Res → Prop} {d : Nat}

/-- Operation i is carried out, or passed over; then K. -/
def EStep (P : Program) (n : Nat) (w0 : World) (F0 : Nat → Prop) (ops : Array Oper) (Hst : List Res) (i : Nat) (K : Env → List Res → World → Prop) (m : Env) (H : List Res) (w : World) : Prop :=
  ∃ dst op ty pos af g, ops[i]? = some ⟨dst, op, ty, pos, af, g⟩ ∧ (match dst with | some d => Nat.blt d n = true | .none => True) ∧
    ((∃ Φ, (g = .none ∨ ∃ j b t, g = some (j, b) ∧ (ops[j]?).bind (·.dst) = some t ∧ lk m t = some (.bool b)) ∧ Eff P n w0 F0 op ty m (Hst ++ H) w Φ ∧
      ∀ v H' w', Φ v H' → ∃ H'', H'.Perm (Hst ++ H'') ∧ K (match dst with | some d => (d, v) :: m | .none => m) H'' w') ∨
     ((∃ j b t, g = some (j, b) ∧ (ops[j]?).bind (·.dst) = some t ∧ (lk m t = some (.bool !b) ∨ lk m t = some undef)) ∧
      K (match dst with | some d => (d, undef) :: m | .none => m) H w))

def WT (P : Program) (n : Nat) (w0 : World) (F0 : Nat → Prop) (ops : Array Oper) (N : Cond) (Hst : List Res) : Ordt → Env → List Res → World → Prop
  | .done, m, H, w => ∃ m' L, Sub m' m ∧ (∃ E, (Hst ++ H).Perm (L ++ E)) ∧ N m' L w
  | .fl i t, m, H, w => ∃ d op ty pos af g v, ops[i]? = some ⟨some d, op, ty, pos, af, g⟩ ∧ Nat.blt d n = true ∧
      ((Flt P n w0 F0 op ty m Hst v ∧ (g = .none ∨ ∃ j b t, g = some (j, b) ∧ (ops[j]?).bind (·.dst) = some t ∧ lk m t = some (.bool b))) ∨
       (v = undef ∧ ∃ j b t, g = some (j, b) ∧ (ops[j]?).bind (·.dst) = some t ∧ (lk m t = some (.bool !b) ∨ lk m t = some undef))) ∧
      WT P n w0 F0 ops N Hst t ((d, v) :: m) H w
  | .ef i t, m, H, w => EStep P n w0 F0 ops Hst i (fun m H w => WT P n w0 F0 ops N Hst t m H w) m H w
  | .two i t j u, m, H, w => EStep P n w0 F0 ops Hst i (fun m H w => WT P n w0 F0 ops N Hst t m H w) m H w ∧ EStep P n w0 F0 ops Hst j (fun m H w => WT P n w0 F0 ops N Hst u m H w) m H w

theorem estep_sound {Hst : List Res} {i : Nat} {K : Env → List Res → World → Prop} {Q : Exit → Act → World → Prop} {K' : Act → World → Prop} {a : Act}
    (ha : Fr n m a) (hh : Holds w0 F0 (Hst ++ H) w) (h : EStep P n w0 F0 ops Hst i K m H w)
    (hk : ∀ m' H' a' w', Fr n m' a' → Holds w0 F0 (Hst ++ H') w' → K m' H' w' → K' a' w') : wpOp P ops Q i (fun a' w' => (∃ H', Holds w0 F0 (Hst ++ H') w') ∧ K' a' w') a w := by
  obtain ⟨dst, op, ty, pos, af, g, hi, hdn, hv⟩ := h
  have put : ∀ v, Fr n (match dst with | some d => (d, v) :: m | .none => m) (a.put dst v) := by
    intro v
    cases dst with
    | none => exact ha
    | some d => exact ha.put hdn v
  rcases hv with ⟨Φ, hg, he, hk'⟩ | ⟨⟨j, b, t, rfl, hj, hlk⟩, hk'⟩
  · have hw : Region.wanted (⟨dst, op, ty, pos, af, g⟩ : Oper) (yielded ops a.tmps) = true := by
      rcases hg with rfl | ⟨j, b, t, rfl, hj, hlk⟩
      · rfl
      · simp [Region.wanted, yielded_of ha hj hlk]
    unfold wpOp
    simp only [hi, hw, if_true]
    refine .inl (he _ a _ Q rfl rfl ha hh fun v H' w' hp hh' => ?_)
    obtain ⟨H'', hpm, hwd⟩ := hk' v H' w' hp
    exact ⟨⟨H'', hh'.perm hpm⟩, hk _ H'' _ w' (put v) (hh'.perm hpm) hwd⟩
  · have hw : Region.wanted (⟨dst, op, ty, pos, af, some (j, b)⟩ : Oper) (yielded ops a.tmps) = false := by
      rcases hlk with hlk | hlk
      · simp [Region.wanted, yielded_of ha hj hlk]
      · simp [Region.wanted, yielded_undef ha hj hlk]
    unfold wpOp
    simp only [hi, hw, Bool.false_eq_true, if_false]
    exact ⟨⟨H, hh⟩, hk _ H _ w (put undef) hh hk'⟩

theorem wt_sound {Hst : List Res} (hns : Region.noSelect ops = true) (Q : Exit → Act → World → Prop) (hpan : ∀ c a w, ¬ Q (.panic c) a w)
    (hQ : ∀ a' w', (∃ m' H', Fr n m' a' ∧ Holds w0 F0 H' w' ∧ N m' H' w') → Q .normal a' w') :
    ∀ (σ : Ordt) (fuel : Nat) (listed : Array Bool) (m : Env) (H : List Res) (a : Act) (w : World), σ.height ≤ fuel → okT ops listed σ = true →
      Fr n m a → Holds w0 F0 (Hst ++ H) w → WT P n w0 F0 ops N Hst σ m H w →
      wpAnyH P .any ops Q (fun w' => ∃ H', Holds w0 F0 (Hst ++ H') w') fuel listed a w
  | .done, fuel, listed, m, H, a, w, _, hok, ha, hh, hd => by
    obtain ⟨m', L, hs, ⟨E, hE⟩, hN⟩ := hd
    simp only [okT, List.isEmpty_iff] at hok
    exact wpAnyH_done hok (hQ a w ⟨m', L, ha.sub hs, hh.pick hE, hN⟩) fuel
  | .fl i σ, 0, _, _, _, _, _, hl, _, _, _, _ => by simp [Ordt.height] at hl
  | .ef i σ, 0, _, _, _, _, _, hl, _, _, _, _ => by simp [Ordt.height] at hl
  | .two i σ j τ, 0, _, _, _, _, _, hl, _, _, _, _ => by simp [Ordt.height] at hl
  | .fl i σ, fuel + 1, listed, m, H, a, w, hl, hok, ha, hh, hd => by
    obtain ⟨d, op, ty, pos, af, g, v, hi, hdn, hv, hrest⟩ := hd
    simp only [okT, Bool.and_eq_true] at hok
    refine wpAnyH_take hi hns hok.1.1 hok.1.2 (fun c a w h => (hpan _ _ _ h).elim) ?_ ⟨H, hh⟩
      (wt_sound hns Q hpan hQ σ fuel _ ((d, v) :: m) H _ w (by simpa [Ordt.height] using hl) hok.2 (ha.put hdn v) hh hrest)
    rcases hv with ⟨hf, hg⟩ | ⟨rfl, j, b, t, rfl, hj, hlk⟩
    · refine .inl ⟨?_, fun w' ⟨H', hh'⟩ => hf _ a w' rfl rfl ha (hh'.drop_ (List.sublist_append_left _ _))⟩
      rcases hg with rfl | ⟨j, b, t, rfl, hj, hlk⟩
      · rfl
      · simp [Region.wanted, yielded_of ha hj hlk]
    · refine .inr ⟨?_, rfl⟩
      rcases hlk with hlk | hlk
      · simp [Region.wanted, yielded_of ha hj hlk]
      · simp [Region.wanted, yielded_undef ha hj hlk]
  | .ef i σ, fuel + 1, listed, m, H, a, w, hl, hok, ha, hh, hd => by
    simp only [okT, Bool.and_eq_true, beq_iff_eq] at hok
    refine wpAnyH_all hok.1 (by simp) fun k hk => ?_
    obtain rfl : k = i := by simpa using hk
    exact estep_sound ha hh hd fun m' H' a' w' ha' hh' hw => wt_sound hns Q hpan hQ σ fuel _ m' H' a' w' (by simpa [Ordt.height] using hl) hok.2 ha' hh' hw
  | .two i σ j τ, fuel + 1, listed, m, H, a, w, hl, hok, ha, hh, hd => by
    simp only [okT, Bool.and_eq_true, beq_iff_eq] at hok
    refine wpAnyH_all hok.1 (by simp) fun k hk => ?_
    simp only [Ordt.height] at hl
    rcases List.mem_cons.1 hk with rfl | hk
    · exact estep_sound ha hh hd.1 fun m' H' a' w' ha' hh' hw => wt_sound hns Q hpan hQ σ fuel _ m' H' a' w' (by omega) hok.2.1 ha' hh' hw
    · obtain rfl : k = j := by simpa using hk
      exact estep_sound ha hh hd.2 fun m' H' a' w' ha' hh' hw => wt_sound hns Q hpan hQ τ fuel _ m' H' a' w' (by omega) hok.2.2 ha' hh' hw

/-- A region that draws its order: σ tells the orders. -/
theorem w_drawt {id : Nat} (σ : Ordt) (Hst Hm : List Res) (hm : P.follows .mixedOrders = true) (hns : Region.noSelect ops = true)
    (hok : okT ops (Array.replicate ops.size false) σ = true) (hlen : Nat.ble σ.height ops.size = true) (hH : H.Perm (Hst ++ Hm)) (h : ∀ w', WT P n w0 F0 ops N Hst σ m Hm w') :
    W P n w0 F0 (.region id ops true) N R X m H w := fun a ha hh => by
  have hh' := (hh.perm hH).drew
  refine wp_region_held (S := fun w' => ∃ H', Holds w0 F0 (Hst ++ H') w') hm ?_
  exact wt_sound hns _ (fun _ _ _ h => h) (fun _ _ hq => hq) σ _ _ m Hm a _ (Nat.le_of_ble_eq_true hlen) hok ha hh' (h _)

variable {Hst : List Res} {σ τ : Ordt} {i j : Nat} {g : Option (Nat × Bool)} {K : Env → List Res → World → Prop}

theorem wt_f (hi : ops[i]? = some ⟨some d, op, ty, pos, af, .none⟩) (h : Flt P n w0 F0 op ty m Hst v) (hk : WT P n w0 F0 ops N Hst σ ((d, v) :: m) H w)
    (hd : Nat.blt d n = true := by rfl) : WT P n w0 F0 ops N Hst (.fl i σ) m H w :=
  ⟨d, op, ty, pos, af, .none, v, hi, hd, .inl ⟨h, .inl rfl⟩, hk⟩
theorem wt_gf {j t : Nat} {b : Bool} (hi : ops[i]? = some ⟨some d, op, ty, pos, af, some (j, b)⟩) (hj : (ops[j]?).bind (·.dst) = some t) (hl : lk m t = some (.bool b))
    (h : Flt P n w0 F0 op ty m Hst v) (hk : WT P n w0 F0 ops N Hst σ ((d, v) :: m) H w)
    (hd : Nat.blt d n = true := by rfl) : WT P n w0 F0 ops N Hst (.fl i σ) m H w :=
  ⟨d, op, ty, pos, af, _, v, hi, hd, .inl ⟨h, .inr ⟨j, b, t, rfl, hj, hl⟩⟩, hk⟩
theorem wt_ef (h : EStep P n w0 F0 ops Hst i (fun m H w => WT P n w0 F0 ops N Hst σ m H w) m H w) : WT P n w0 F0 ops N Hst (.ef i σ) m H w := h
theorem wt_two (h1 : EStep P n w0 F0 ops Hst i (fun m H w => WT P n w0 F0 ops N Hst σ m H w) m H w) (h2 : EStep P n w0 F0 ops Hst j (fun m H w => WT P n w0 F0 ops N Hst τ m H w) m H w) :
    WT P n w0 F0 ops N Hst (.two i σ j τ) m H w := ⟨h1, h2⟩
theorem es_e (hi : ops[i]? = some ⟨some d, op, ty, pos, af, .none⟩) (h : Eff P n w0 F0 op ty m (Hst ++ H) w Φ)
    (hk : ∀ v H' w', Φ v H' → ∃ H'', H'.Perm (Hst ++ H'') ∧ K ((d, v) :: m) H'' w')
    (hd : Nat.blt d n = true := by rfl) : EStep P n w0 F0 ops Hst i K m H w :=
  ⟨some d, op, ty, pos, af, .none, hi, hd, .inl ⟨Φ, .inl rfl, h, hk⟩⟩
theorem es_e0 (hi : ops[i]? = some ⟨.none, op, ty, pos, af, .none⟩) (h : Eff P n w0 F0 op ty m (Hst ++ H) w Φ)
    (hk : ∀ v H' w', Φ v H' → ∃ H'', H'.Perm (Hst ++ H'') ∧ K m H'' w') : EStep P n w0 F0 ops Hst i K m H w :=
  ⟨.none, op, ty, pos, af, .none, hi, trivial, .inl ⟨Φ, .inl rfl, h, hk⟩⟩
theorem wt_end (m' : Env) (hs : Sub m' m) (h : N m' (Hst ++ H) w) : WT P n w0 F0 ops N Hst .done m H w := ⟨m', _, hs, ⟨[], by simp⟩, h⟩
theorem wt_endp (m' : Env) (is : List Nat) {L E : List Res} (hs : Sub m' m) (hp : pick is (Hst ++ H) = some (L, E)) (h : N m' L w) : WT P n w0 F0 ops N Hst .done m H w := ⟨m', L, hs, ⟨E, pick_perm _ _ hp⟩, h⟩
end
end Go.Proofs.Ytkoklfagmbaapaa
