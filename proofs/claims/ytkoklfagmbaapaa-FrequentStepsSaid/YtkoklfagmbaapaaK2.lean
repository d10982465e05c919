/- The proof kit, second part: operations, and regions that draw their order. -/
import Derived.Test.YtkoklfagmbaapaaK1
namespace Go.Proofs.Ytkoklfagmbaapaa
open Go.RowKit

section
variable (P : Program) (n : Nat) (w0 : World) (F0 : Nat → Prop)

/-- The operation yields v in every world in which H is held, and leaves the world alone. -/
def Flt (op : Op) (ty : TypeId) (m : Env) (H : List Res) (v : Value) : Prop :=
  ∀ (o : Oper) (a : Act) (w : World), o.op = op → o.type = ty → Fr n m a → Holds w0 F0 H w → (execOp a.eval o).run P w = .ok (.value v) w

/-- The operation goes from the resources H to what Φ says. -/
def Eff (op : Op) (ty : TypeId) (m : Env) (H : List Res) (w : World) (Φ : Value → List Res → Prop) : Prop :=
  ∀ (o : Oper) (a : Act) (K : Act → World → Prop) (Q : Exit → Act → World → Prop), o.op = op → o.type = ty → Fr n m a → Holds w0 F0 H w →
    (∀ v H' w', Φ v H' → Holds w0 F0 H' w' → K (a.put o.dst v) w') → o.wp P a w K Q
end

theorem wpList_imp {P : Program} {ops : Array Oper} {Q Q' : Exit → Act → World → Prop} (h : ∀ e a w, Q e a w → Q' e a w) : ∀ (l : List Oper) (a : Act) (w : World), wpList P ops Q l a w → wpList P ops Q' l a w
  | [], a, w, hq => h _ _ _ hq
  | o :: l, a, w, hq => by
    simp only [wpList] at hq ⊢
    split
    · rename_i hw
      simp only [hw, if_true] at hq
      rcases hq with hq | ⟨h1, a', w', h2⟩
      · left
        have := Oper.wp_mono (Q := Q) (wpList_imp h l) hq
        unfold Oper.wp at this ⊢
        generalize (execOp a.eval o).run P w = r at *
        cases r with
        | ok x w' =>
          cases x <;> simp only [Oper.upon] at this ⊢ <;> first
            | exact this
            | exact Calls.mono this (fun e w'' he => by cases e <;> first | exact he | exact h _ _ _ he | exact (let ⟨a0, w0, h0⟩ := he; ⟨a0, w0, h _ _ _ h0⟩))
        | halt x w' => cases x <;> simp only [Oper.upon] at this ⊢ <;> first | exact this | exact h _ _ _ this
      · exact .inr ⟨h1, a', w', h _ _ _ h2⟩
    · rename_i hw
      simp only [hw, if_false, Bool.false_eq_true] at hq
      exact wpList_imp h l _ _ hq

section
variable {P : Program} {n : Nat} {w0 : World} {F0 : Nat → Prop} {N R : Cond} {X : Nat → Cond} {m : Env} {H : List Res} {w : World}
  {ops : Array Oper} {rest : List Oper} {op : Op} {ty : TypeId} {pos : String} {af : Array Edge} {v : Value} {Φ : Value → List Res → Prop} {d : Nat}

theorem Flt.eff (h : Flt P n w0 F0 op ty m H v) : Eff P n w0 F0 op ty m H w (fun u H' => u = v ∧ H' = H) := fun o a K Q h1 h2 ha hh hk => by
  unfold Oper.wp
  rw [h o a w h1 h2 ha hh, Oper.upon_value]
  exact hk v H w ⟨rfl, rfl⟩ hh

theorem wl_f (h : Flt P n w0 F0 op ty m H v) (hk : WL P n w0 F0 ops N rest ((d, v) :: m) H w) (hd : Nat.blt d n = true := by rfl) :
    WL P n w0 F0 ops N (⟨some d, op, ty, pos, af, .none⟩ :: rest) m H w := fun a ha hh Q hQ =>
  wpList_plain rfl fun K hK => by
    unfold Oper.wp
    rw [h _ a w rfl rfl ha hh, Oper.upon_value]
    exact hK _ _ (hk _ (ha.put hd v) hh Q hQ)

theorem wl_e (h : Eff P n w0 F0 op ty m H w Φ) (hk : ∀ v H' w', Φ v H' → WL P n w0 F0 ops N rest ((d, v) :: m) H' w') (hd : Nat.blt d n = true := by rfl) :
    WL P n w0 F0 ops N (⟨some d, op, ty, pos, af, .none⟩ :: rest) m H w := fun a ha hh Q hQ =>
  wpList_plain rfl fun K hK => h _ a K Q rfl rfl ha hh fun v H' w' hp hh' => hK _ _ (hk v H' w' hp _ (ha.put hd v) hh' Q hQ)

theorem wl_e0 (h : Eff P n w0 F0 op ty m H w Φ) (hk : ∀ v H' w', Φ v H' → WL P n w0 F0 ops N rest m H' w') :
    WL P n w0 F0 ops N (⟨.none, op, ty, pos, af, .none⟩ :: rest) m H w := fun a ha hh Q hQ =>
  wpList_plain rfl fun K hK => h _ a K Q rfl rfl ha hh fun v H' w' hp hh' => hK _ _ (hk v H' w' hp _ ha hh' Q hQ)

theorem yielded_of {a : Act} {j t : Nat} {b : Bool} (ha : Fr n m a) (hj : (ops[j]?).bind (·.dst) = some t) (hl : lk m t = some (.bool b)) : yielded ops a.tmps j = some b := by
  unfold yielded
  rw [hj]
  simp [ha.get t _ hl]

theorem yielded_undef {a : Act} {j t : Nat} (ha : Fr n m a) (hj : (ops[j]?).bind (·.dst) = some t) (hl : lk m t = some undef) : yielded ops a.tmps j = .none := by
  unfold yielded
  rw [hj]
  simp [ha.get t _ hl, undef]

/-- A guarded operation that is carried out. -/
theorem wl_gf {j t : Nat} {b : Bool} (hj : (ops[j]?).bind (·.dst) = some t) (hl : lk m t = some (.bool b)) (h : Flt P n w0 F0 op ty m H v)
    (hk : WL P n w0 F0 ops N rest ((d, v) :: m) H w) (hd : Nat.blt d n = true := by rfl) :
    WL P n w0 F0 ops N (⟨some d, op, ty, pos, af, some (j, b)⟩ :: rest) m H w := fun a ha hh Q hQ =>
  wpList_step fun K hK => by
    have hw : Region.wanted (⟨some d, op, ty, pos, af, some (j, b)⟩ : Oper) (yielded ops a.tmps) = true := by
      simp [Region.wanted, yielded_of ha hj hl]
    rw [if_pos hw]
    unfold Oper.wp
    rw [h _ a w rfl rfl ha hh, Oper.upon_value]
    exact hK _ _ (hk _ (ha.put hd v) hh Q hQ)

theorem wl_ge {j t : Nat} {b : Bool} (hj : (ops[j]?).bind (·.dst) = some t) (hl : lk m t = some (.bool b)) (h : Eff P n w0 F0 op ty m H w Φ)
    (hk : ∀ v H' w', Φ v H' → WL P n w0 F0 ops N rest ((d, v) :: m) H' w') (hd : Nat.blt d n = true := by rfl) :
    WL P n w0 F0 ops N (⟨some d, op, ty, pos, af, some (j, b)⟩ :: rest) m H w := fun a ha hh Q hQ =>
  wpList_step fun K hK => by
    have hw : Region.wanted (⟨some d, op, ty, pos, af, some (j, b)⟩ : Oper) (yielded ops a.tmps) = true := by
      simp [Region.wanted, yielded_of ha hj hl]
    rw [if_pos hw]
    exact h _ a K Q rfl rfl ha hh fun v H' w' hp hh' => hK _ _ (hk v H' w' hp _ (ha.put hd v) hh' Q hQ)

/-- A guarded operation that is passed over. -/
theorem wl_gs {j t : Nat} {b : Bool} (hj : (ops[j]?).bind (·.dst) = some t) (hl : lk m t = some (.bool !b))
    (hk : WL P n w0 F0 ops N rest ((d, undef) :: m) H w) (hd : Nat.blt d n = true := by rfl) :
    WL P n w0 F0 ops N (⟨some d, op, ty, pos, af, some (j, b)⟩ :: rest) m H w := fun a ha hh Q hQ =>
  wpList_skip (by simp [Region.wanted, yielded_of ha hj hl]) (hk _ (ha.put hd undef) hh Q hQ)

/-- Passed over because its guard was passed over. -/
theorem wl_gu {j t : Nat} {b : Bool} (hj : (ops[j]?).bind (·.dst) = some t) (hl : lk m t = some undef)
    (hk : WL P n w0 F0 ops N rest ((d, undef) :: m) H w) (hd : Nat.blt d n = true := by rfl) :
    WL P n w0 F0 ops N (⟨some d, op, ty, pos, af, some (j, b)⟩ :: rest) m H w := fun a ha hh Q hQ =>
  wpList_skip (by simp [Region.wanted, yielded_undef ha hj hl]) (hk _ (ha.put hd undef) hh Q hQ)

/-- The end of a region: what is kept of the frame. -/
theorem wl_end (m' : Env) (hs : Sub m' m) (h : N m' H w) : WL P n w0 F0 ops N [] m H w := fun a ha hh _ hQ => wpList_nil (hQ a w ⟨m', H, ha.sub hs, hh, h⟩)

theorem wl_with {l : List Oper} (h : Holds w0 F0 H w → WL P n w0 F0 ops N l m H w) : WL P n w0 F0 ops N l m H w := fun a ha hh => h hh a ha hh
theorem wl_perm {l : List Oper} (H' : List Res) (hp : H.Perm H') (h : WL P n w0 F0 ops N l m H' w) : WL P n w0 F0 ops N l m H w := fun a ha hh => h a ha (hh.perm hp)
theorem wl_drop {l : List Oper} (H' : List Res) (hp : H'.Sublist H) (h : WL P n w0 F0 ops N l m H' w) : WL P n w0 F0 ops N l m H w := fun a ha hh => h a ha (hh.drop_ hp)

theorem wl_pick {l : List Oper} (is : List Nat) {L E : List Res} (hp : pick is H = some (L, E)) (h : WL P n w0 F0 ops N l m L w) : WL P n w0 F0 ops N l m H w := fun a ha hh => h a ha (hh.pick (pick_perm _ _ hp))
theorem wl_rm0 {l : List Oper} {r : Res} (h : WL P n w0 F0 ops N l m H w) : WL P n w0 F0 ops N l m (r :: H) w := fun a ha hh => h a ha (hh.drop_ (List.sublist_cons_self ..))
theorem wl_rm1 {l : List Oper} {r a : Res} (h : WL P n w0 F0 ops N l m (a :: H) w) : WL P n w0 F0 ops N l m (a :: r :: H) w := fun a ha hh => h a ha (hh.drop_ ((List.sublist_cons_self ..).cons_cons _))
theorem wl_rm2 {l : List Oper} {r a b : Res} (h : WL P n w0 F0 ops N l m (a :: b :: H) w) : WL P n w0 F0 ops N l m (a :: b :: r :: H) w := fun a ha hh => h a ha (hh.drop_ (((List.sublist_cons_self ..).cons_cons _).cons_cons _))
theorem wl_sw {l : List Oper} {r a : Res} (h : WL P n w0 F0 ops N l m (r :: a :: H) w) : WL P n w0 F0 ops N l m (a :: r :: H) w := fun x ha hh => h x ha (hh.perm (List.Perm.swap ..))
theorem w_rm0 {c : Code} {r : Res} (h : W P n w0 F0 c N R X m H w) : W P n w0 F0 c N R X m (r :: H) w := fun a ha hh => h a ha (hh.drop_ (List.sublist_cons_self ..))
theorem w_rm1 {c : Code} {r a : Res} (h : W P n w0 F0 c N R X m (a :: H) w) : W P n w0 F0 c N R X m (a :: r :: H) w := fun a ha hh => h a ha (hh.drop_ ((List.sublist_cons_self ..).cons_cons _))
theorem w_rm2 {c : Code} {r a b : Res} (h : W P n w0 F0 c N R X m (a :: b :: H) w) : W P n w0 F0 c N R X m (a :: b :: r :: H) w := fun a ha hh => h a ha (hh.drop_ (((List.sublist_cons_self ..).cons_cons _).cons_cons _))
theorem w_sw {c : Code} {r a : Res} (h : W P n w0 F0 c N R X m (r :: a :: H) w) : W P n w0 F0 c N R X m (a :: r :: H) w := fun x ha hh => h x ha (hh.perm (List.Perm.swap ..))

/-! ### '||' and '&&': a guarded piece whose guard is not decided -/

def cutAt {α : Type} : Nat → List α → List α × List α
  | 0, l => ([], l)
  | _ + 1, [] => ([], [])
  | k + 1, a :: l => (a :: (cutAt k l).1, (cutAt k l).2)
theorem cutAt_eq {α : Type} : ∀ (k : Nat) (l : List α), (cutAt k l).1 ++ (cutAt k l).2 = l
  | 0, l => rfl
  | _ + 1, [] => rfl
  | k + 1, a :: l => by simp [cutAt, cutAt_eq k l]

/-- All operations of the piece are passed over where operation j does not yield 'want'. -/
def skipOk (ops : Array Oper) (m : Env) (j : Nat) (want : Bool) : List Nat → List Oper → Bool
  | _, [] => true
  | U, ⟨some d, _, _, _, _, some (j', w')⟩ :: l =>
    ((Nat.beq j' j && (w' == want)) || (match (ops[j']?).bind (·.dst) with | some d' => U.contains d' | .none => false)) && (lk m d).isNone && skipOk ops m j want (d :: U) l
  | _, _ :: _ => false

def boolAt (a : Act) (u : Nat) : Option Bool := match a.tmps[u]? with | some (.bool b) => some b | _ => .none

theorem wl_skips {Q : Exit → Act → World → Prop} {j t : Nat} {want : Bool} (hj : (ops[j]?).bind (·.dst) = some t) (hl : lk m t = some (.bool !want)) :
    ∀ (l1 : List Oper) (U : List Nat) (a : Act) (rest : List Oper), skipOk ops m j want U l1 = true → Fr n m a → (∀ u ∈ U, boolAt a u = .none) →
      (∀ a', Fr n m a' → wpList P ops Q rest a' w) → wpList P ops Q (l1 ++ rest) a w
  | [], _, a, rest, _, ha, _, h => h a ha
  | ⟨some d, op, ty, pos, af, some (j', w')⟩ :: l, U, a, rest, hs, ha, hU, h => by
    simp only [skipOk, Bool.and_eq_true, Bool.or_eq_true] at hs
    obtain ⟨⟨hg, hd⟩, hrest⟩ := hs
    have hw : Region.wanted (⟨some d, op, ty, pos, af, some (j', w')⟩ : Oper) (yielded ops a.tmps) = false := by
      rcases hg with ⟨h1, h2⟩ | h2
      · have h1' := Nat.eq_of_beq_eq_true h1
        subst h1'
        have h2' : w' = want := by simpa using h2
        subst h2'
        simp [Region.wanted, yielded_of ha hj hl]
      · split at h2
        · rename_i d' hd'
          have := hU d' (by simpa using h2)
          have hy : yielded ops a.tmps j' = .none := by
            unfold yielded
            rw [hd']
            unfold boolAt at this
            simp only [Option.bind_some]
            cases hv : a.tmps[d']? with
            | none => rfl
            | some v => rw [hv] at this; cases v <;> first | rfl | (simp at this)
          simp [Region.wanted, hy]
        · cases h2
    have hkeep : Fr n m (a.put (some d) undef) := by
      refine ⟨by simpa [Act.put] using ha.size, ha.defers, fun t' v hv => ?_⟩
      have hne : d ≠ t' := by
        rintro rfl
        simp [hv] at hd
      simp only [Act.put]
      rw [Array.getElem?_setIfInBounds_ne hne]
      exact ha.get t' v hv
    refine wpList_skip hw (wl_skips hj hl l (d :: U) _ rest hrest hkeep ?_ h)
    intro u hu
    by_cases hud : u = d
    · subst hud
      unfold boolAt
      simp only [Act.put]
      by_cases hlt : u < a.tmps.size
      · rw [Array.getElem?_setIfInBounds_self_of_lt hlt]; rfl
      · rw [Array.getElem?_eq_none (by simp only [Array.size_setIfInBounds]; omega)]
    · have := hU u ((List.mem_cons.1 hu).resolve_left hud)
      unfold boolAt at this ⊢
      simp only [Act.put]
      rw [Array.getElem?_setIfInBounds_ne (fun e => hud e.symm)]
      exact this
  | ⟨.none, _, _, _, _, _⟩ :: _, _, _, _, hs, _, _, _ => by simp [skipOk] at hs
  | ⟨some _, _, _, _, _, .none⟩ :: _, _, _, _, hs, _, _, _ => by simp [skipOk] at hs

theorem wpList_append' {Q : Exit → Act → World → Prop} : ∀ (l1 l2 : List Oper) (a : Act) (w : World),
    (∀ Q' : Exit → Act → World → Prop, (∀ a' w', wpList P ops Q l2 a' w' → Q' .normal a' w') → (∀ e a' w', e ≠ .normal → Q e a' w' → Q' e a' w') → wpList P ops Q' l1 a w) →
    wpList P ops Q (l1 ++ l2) a w := by
  intro l1
  induction l1 with
  | nil =>
    intro l2 a w h
    have := h (fun e a' w' => match e with | .normal => wpList P ops Q l2 a' w' | e => Q e a' w') (fun _ _ h => h) (fun e a' w' hne hq => by cases e <;> first | exact hq | exact absurd rfl hne)
    exact this
  | cons o l1 ih =>
    intro l2 a w h
    have key := h (Exit.then (wpList P ops Q l2) Q) (fun _ _ h => h) (fun e a' w' hne hq => by cases e <;> first | exact hq | exact absurd rfl hne)
    have mono : ∀ a' w', wpList P ops (Exit.then (wpList P ops Q l2) Q) l1 a' w' → wpList P ops Q (l1 ++ l2) a' w' := by
      intro a' w' hk
      refine ih l2 a' w' fun Q' hn he => ?_
      refine wpList_imp ?_ l1 a' w' hk
      intro e a'' w'' hq
      cases e with
      | normal => exact hn _ _ hq
      | exit i => exact he _ _ _ (by simp) hq
      | goto i => exact he _ _ _ (by simp) hq
      | ret => exact he _ _ _ (by simp) hq
      | panic c => exact he _ _ _ (by simp) hq
      | outgrown => exact he _ _ _ (by simp) hq
    simp only [List.cons_append, wpList] at key ⊢
    split
    · rename_i hw
      simp only [hw, if_true] at key
      rcases key with key | ⟨h1, h2⟩
      · left
        have := Oper.wp_mono (o := o) (a := a) (w := w) (Q := Exit.then (wpList P ops Q l2) Q) mono key
        unfold Oper.wp at this ⊢
        generalize (execOp a.eval o).run P w = r at *
        cases r with
        | ok x w' =>
          cases x <;> simp only [Oper.upon] at this ⊢ <;> first
            | exact this
            | exact Calls.mono this (fun e w'' he => by cases e <;> exact he)
        | halt x w' => cases x <;> simp only [Oper.upon] at this ⊢ <;> exact this
      · exact .inr ⟨h1, h2⟩
    · rename_i hw
      simp only [hw, if_false, Bool.false_eq_true] at key
      exact mono _ _ key

/-- 'b || c': the piece of k operations that computes c is guarded by 'b is false'; then comes the pick. -/
theorem wl_or {l l1 : List Oper} {t t2 j : Nat} {b c : Bool} (k : Nat) (m0 : Env) (hs0 : Sub m0 m) (hl : cutAt k l = (l1, ⟨some d, .pick (.tmp t) (.const (.bool true)) (.tmp t2), ty, pos, af, .none⟩ :: rest))
    (hj : (ops[j]?).bind (·.dst) = some t) (hb : lk m t = some (.bool b)) (hs : skipOk ops m j false [] l1 = true) (hd : Nat.blt d n = true)
    (h1 : b = false → WL P n w0 F0 ops (fun m' H' _ => lk m' t2 = some (.bool c) ∧ lk m' t = some (.bool false) ∧ Sub m0 m' ∧ H.Sublist H') l1 ((t, .bool false) :: m) H w)
    (hk : ∀ w', WL P n w0 F0 ops N rest ((d, .bool (b || c)) :: m0) H w') : WL P n w0 F0 ops N l m H w := fun a ha hh Q hQ => by
  have e : l = l1 ++ (⟨some d, .pick (.tmp t) (.const (.bool true)) (.tmp t2), ty, pos, af, .none⟩ :: rest) := by
    have := cutAt_eq k l; rw [hl] at this; exact this.symm
  rw [e]
  cases b with
  | true =>
    refine wl_skips hj hb l1 [] a _ hs ha (by simp) fun a' ha' => ?_
    refine wpList_plain rfl fun K hK => ?_
    unfold Oper.wp
    have hx : a'.eval (.tmp t) = .bool true := ha'.eval (x := .tmp t) hb
    have : (execOp a'.eval ⟨some d, .pick (.tmp t) (.const (.bool true)) (.tmp t2), ty, pos, af, .none⟩).run P w = .ok (.value (.bool true)) w := by
      simp only [execOp, hx, asBool, Sem.run_bind, Sem.run_pure, Result.andThen_ok]; rfl
    rw [this, Oper.upon_value]
    exact hK _ _ (hk _ _ ((ha'.sub hs0).put hd _) hh Q hQ)
  | false =>
    refine wpList_append' _ _ _ _ fun Q' hn he => ?_
    refine h1 rfl a ⟨ha.size, ha.defers, fun t' v hv => ?_⟩ hh Q' ?_
    · simp only [lk] at hv
      by_cases h : t = t'
      · subst h; simp only [Nat.beq_refl, cond_true, Option.some.injEq] at hv; subst hv; exact ha.get t _ hb
      · have hf : Nat.beq t t' = false := by
          cases hq : Nat.beq t t' with
          | false => rfl
          | true => exact absurd (Nat.eq_of_beq_eq_true hq) h
        simp only [hf, cond_false] at hv
        exact ha.get t' v hv
    · rintro a' w' ⟨m', H', ha', hh', hc, ht, hsub, hsl⟩
      refine hn _ _ (wpList_plain rfl fun K hK => ?_)
      unfold Oper.wp
      have hx : a'.eval (.tmp t) = .bool false := ha'.eval (x := .tmp t) ht
      have hy : a'.eval (.tmp t2) = .bool c := ha'.eval (x := .tmp t2) hc
      have : (execOp a'.eval ⟨some d, .pick (.tmp t) (.const (.bool true)) (.tmp t2), ty, pos, af, .none⟩).run P w' = .ok (.value (.bool c)) w' := by
        simp [execOp, hx, hy, asBool]
      rw [this, Oper.upon_value]
      exact hK _ _ (hk _ _ ((ha'.sub hsub).put hd _) (hh'.drop_ hsl) Q hQ)

theorem wl_and {l l1 : List Oper} {t t2 j : Nat} {b c : Bool} (k : Nat) (m0 : Env) (hs0 : Sub m0 m) (hl : cutAt k l = (l1, ⟨some d, .pick (.tmp t) (.tmp t2) (.const (.bool false)), ty, pos, af, .none⟩ :: rest))
    (hj : (ops[j]?).bind (·.dst) = some t) (hb : lk m t = some (.bool b)) (hs : skipOk ops m j true [] l1 = true) (hd : Nat.blt d n = true)
    (h1 : b = true → WL P n w0 F0 ops (fun m' H' _ => lk m' t2 = some (.bool c) ∧ lk m' t = some (.bool true) ∧ Sub m0 m' ∧ H.Sublist H') l1 ((t, .bool true) :: m) H w)
    (hk : ∀ w', WL P n w0 F0 ops N rest ((d, .bool (b && c)) :: m0) H w') : WL P n w0 F0 ops N l m H w := fun a ha hh Q hQ => by
  have e : l = l1 ++ (⟨some d, .pick (.tmp t) (.tmp t2) (.const (.bool false)), ty, pos, af, .none⟩ :: rest) := by
    have := cutAt_eq k l; rw [hl] at this; exact this.symm
  rw [e]
  cases b with
  | false =>
    refine wl_skips hj hb l1 [] a _ hs ha (by simp) fun a' ha' => ?_
    refine wpList_plain rfl fun K hK => ?_
    unfold Oper.wp
    have hx : a'.eval (.tmp t) = .bool false := ha'.eval (x := .tmp t) hb
    have : (execOp a'.eval ⟨some d, .pick (.tmp t) (.tmp t2) (.const (.bool false)), ty, pos, af, .none⟩).run P w = .ok (.value (.bool false)) w := by
      simp only [execOp, hx, asBool, Sem.run_bind, Sem.run_pure, Result.andThen_ok]; rfl
    rw [this, Oper.upon_value]
    exact hK _ _ (hk _ _ ((ha'.sub hs0).put hd _) hh Q hQ)
  | true =>
    refine wpList_append' _ _ _ _ fun Q' hn he => ?_
    refine h1 rfl a ⟨ha.size, ha.defers, fun t' v hv => ?_⟩ hh Q' ?_
    · simp only [lk] at hv
      by_cases h : t = t'
      · subst h; simp only [Nat.beq_refl, cond_true, Option.some.injEq] at hv; subst hv; exact ha.get t _ hb
      · have hf : Nat.beq t t' = false := by
          cases hq : Nat.beq t t' with
          | false => rfl
          | true => exact absurd (Nat.eq_of_beq_eq_true hq) h
        simp only [hf, cond_false] at hv
        exact ha.get t' v hv
    · rintro a' w' ⟨m', H', ha', hh', hc, ht, hsub, hsl⟩
      refine hn _ _ (wpList_plain rfl fun K hK => ?_)
      unfold Oper.wp
      have hx : a'.eval (.tmp t) = .bool true := ha'.eval (x := .tmp t) ht
      have hy : a'.eval (.tmp t2) = .bool c := ha'.eval (x := .tmp t2) hc
      have : (execOp a'.eval ⟨some d, .pick (.tmp t) (.tmp t2) (.const (.bool false)), ty, pos, af, .none⟩).run P w' = .ok (.value (.bool c)) w' := by
        simp [execOp, hx, hy, asBool]
      rw [this, Oper.upon_value]
      exact hK _ _ (hk _ _ ((ha'.sub hsub).put hd _) (hh'.drop_ hsl) Q hQ)

/-- .. where the pick itself is guarded. -/
theorem wl_org {l l1 : List Oper} {t t2 j : Nat} {b c : Bool} {j' t' : Nat} {b' : Bool} (k : Nat) (m0 : Env) (hs0 : Sub m0 m) (hl : cutAt k l = (l1, ⟨some d, .pick (.tmp t) (.const (.bool true)) (.tmp t2), ty, pos, af, some (j', b')⟩ :: rest))
    (hj : (ops[j]?).bind (·.dst) = some t) (hb : lk m t = some (.bool b)) (hs : skipOk ops m j false [] l1 = true) (hd : Nat.blt d n = true) (hj' : (ops[j']?).bind (·.dst) = some t') (hb' : lk m0 t' = some (.bool b'))
    (h1 : b = false → WL P n w0 F0 ops (fun m' H' _ => lk m' t2 = some (.bool c) ∧ lk m' t = some (.bool false) ∧ Sub m0 m' ∧ H.Sublist H') l1 ((t, .bool false) :: m) H w)
    (hk : ∀ w', WL P n w0 F0 ops N rest ((d, .bool (b || c)) :: m0) H w') : WL P n w0 F0 ops N l m H w := fun a ha hh Q hQ => by
  have e : l = l1 ++ (⟨some d, .pick (.tmp t) (.const (.bool true)) (.tmp t2), ty, pos, af, some (j', b')⟩ :: rest) := by
    have := cutAt_eq k l; rw [hl] at this; exact this.symm
  rw [e]
  cases b with
  | true =>
    refine wl_skips hj hb l1 [] a _ hs ha (by simp) fun a' ha' => ?_
    refine wpList_step fun K hK => ?_
    rw [if_pos (by simp [Region.wanted, yielded_of (ha'.sub hs0) hj' hb'])]
    unfold Oper.wp
    have hx : a'.eval (.tmp t) = .bool true := ha'.eval (x := .tmp t) hb
    have : (execOp a'.eval ⟨some d, .pick (.tmp t) (.const (.bool true)) (.tmp t2), ty, pos, af, some (j', b')⟩).run P w = .ok (.value (.bool true)) w := by
      simp only [execOp, hx, asBool, Sem.run_bind, Sem.run_pure, Result.andThen_ok]; rfl
    rw [this, Oper.upon_value]
    exact hK _ _ (hk _ _ ((ha'.sub hs0).put hd _) hh Q hQ)
  | false =>
    refine wpList_append' _ _ _ _ fun Q' hn he => ?_
    refine h1 rfl a ⟨ha.size, ha.defers, fun t9 v hv => ?_⟩ hh Q' ?_
    · simp only [lk] at hv
      by_cases h : t = t9
      · subst h; simp only [Nat.beq_refl, cond_true, Option.some.injEq] at hv; subst hv; exact ha.get t _ hb
      · have hf : Nat.beq t t9 = false := by
          cases hq : Nat.beq t t9 with
          | false => rfl
          | true => exact absurd (Nat.eq_of_beq_eq_true hq) h
        simp only [hf, cond_false] at hv
        exact ha.get t9 v hv
    · rintro a' w' ⟨m', H', ha', hh', hc, ht, hsub, hsl⟩
      refine hn _ _ (wpList_step fun K hK => ?_)
      rw [if_pos (by simp [Region.wanted, yielded_of (ha'.sub hsub) hj' hb'])]
      unfold Oper.wp
      have hx : a'.eval (.tmp t) = .bool false := ha'.eval (x := .tmp t) ht
      have hy : a'.eval (.tmp t2) = .bool c := ha'.eval (x := .tmp t2) hc
      have : (execOp a'.eval ⟨some d, .pick (.tmp t) (.const (.bool true)) (.tmp t2), ty, pos, af, some (j', b')⟩).run P w' = .ok (.value (.bool c)) w' := by
        simp [execOp, hx, hy, asBool]
      rw [this, Oper.upon_value]
      exact hK _ _ (hk _ _ ((ha'.sub hsub).put hd _) (hh'.drop_ hsl) Q hQ)

theorem wl_andg {l l1 : List Oper} {t t2 j : Nat} {b c : Bool} {j' t' : Nat} {b' : Bool} (k : Nat) (m0 : Env) (hs0 : Sub m0 m) (hl : cutAt k l = (l1, ⟨some d, .pick (.tmp t) (.tmp t2) (.const (.bool false)), ty, pos, af, some (j', b')⟩ :: rest))
    (hj : (ops[j]?).bind (·.dst) = some t) (hb : lk m t = some (.bool b)) (hs : skipOk ops m j true [] l1 = true) (hd : Nat.blt d n = true) (hj' : (ops[j']?).bind (·.dst) = some t') (hb' : lk m0 t' = some (.bool b'))
    (h1 : b = true → WL P n w0 F0 ops (fun m' H' _ => lk m' t2 = some (.bool c) ∧ lk m' t = some (.bool true) ∧ Sub m0 m' ∧ H.Sublist H') l1 ((t, .bool true) :: m) H w)
    (hk : ∀ w', WL P n w0 F0 ops N rest ((d, .bool (b && c)) :: m0) H w') : WL P n w0 F0 ops N l m H w := fun a ha hh Q hQ => by
  have e : l = l1 ++ (⟨some d, .pick (.tmp t) (.tmp t2) (.const (.bool false)), ty, pos, af, some (j', b')⟩ :: rest) := by
    have := cutAt_eq k l; rw [hl] at this; exact this.symm
  rw [e]
  cases b with
  | false =>
    refine wl_skips hj hb l1 [] a _ hs ha (by simp) fun a' ha' => ?_
    refine wpList_step fun K hK => ?_
    rw [if_pos (by simp [Region.wanted, yielded_of (ha'.sub hs0) hj' hb'])]
    unfold Oper.wp
    have hx : a'.eval (.tmp t) = .bool false := ha'.eval (x := .tmp t) hb
    have : (execOp a'.eval ⟨some d, .pick (.tmp t) (.tmp t2) (.const (.bool false)), ty, pos, af, some (j', b')⟩).run P w = .ok (.value (.bool false)) w := by
      simp only [execOp, hx, asBool, Sem.run_bind, Sem.run_pure, Result.andThen_ok]; rfl
    rw [this, Oper.upon_value]
    exact hK _ _ (hk _ _ ((ha'.sub hs0).put hd _) hh Q hQ)
  | true =>
    refine wpList_append' _ _ _ _ fun Q' hn he => ?_
    refine h1 rfl a ⟨ha.size, ha.defers, fun t9 v hv => ?_⟩ hh Q' ?_
    · simp only [lk] at hv
      by_cases h : t = t9
      · subst h; simp only [Nat.beq_refl, cond_true, Option.some.injEq] at hv; subst hv; exact ha.get t _ hb
      · have hf : Nat.beq t t9 = false := by
          cases hq : Nat.beq t t9 with
          | false => rfl
          | true => exact absurd (Nat.eq_of_beq_eq_true hq) h
        simp only [hf, cond_false] at hv
        exact ha.get t9 v hv
    · rintro a' w' ⟨m', H', ha', hh', hc, ht, hsub, hsl⟩
      refine hn _ _ (wpList_step fun K hK => ?_)
      rw [if_pos (by simp [Region.wanted, yielded_of (ha'.sub hsub) hj' hb'])]
      unfold Oper.wp
      have hx : a'.eval (.tmp t) = .bool true := ha'.eval (x := .tmp t) ht
      have hy : a'.eval (.tmp t2) = .bool c := ha'.eval (x := .tmp t2) hc
      have : (execOp a'.eval ⟨some d, .pick (.tmp t) (.tmp t2) (.const (.bool false)), ty, pos, af, some (j', b')⟩).run P w' = .ok (.value (.bool c)) w' := by
        simp [execOp, hx, hy, asBool]
      rw [this, Oper.upon_value]
      exact hK _ _ (hk _ _ ((ha'.sub hsub).put hd _) (hh'.drop_ hsl) Q hQ)

/-- The end of such a piece. -/
theorem wl_pend {t t2 : Nat} {b c : Bool} {m0 : Env} {H0 : List Res} (h1 : lk m t2 = some (.bool c)) (ht : lk m t = some (.bool b)) (h2 : Sub m0 m) (h3 : H0.Sublist H) : WL P n w0 F0 ops (fun m' H' _ => lk m' t2 = some (.bool c) ∧ lk m' t = some (.bool b) ∧ Sub m0 m' ∧ H0.Sublist H') [] m H w :=
  fun a ha hh _ hQ => wpList_nil (hQ a w ⟨m, H, ha, hh, h1, ht, h2, h3⟩)

/-! ### Regions that draw their order -/

def okOrd (ops : Array Oper) : Array Bool → List (Nat × Bool) → Bool
  | listed, [] => (Region.ready .any ops listed).isEmpty
  | listed, (i, fl) :: σ =>
    (bif fl then Region.free .any ops listed i && (Region.ready .any ops listed).contains i else Region.ready .any ops listed == [i]) && okOrd ops (listed.setIfInBounds i true) σ

/-- What is left of the region, taken in the order σ: a float is marked true. Hst: the resources that no operation of the region changes. -/
def WD (P : Program) (n : Nat) (w0 : World) (F0 : Nat → Prop) (ops : Array Oper) (N : Cond) (Hst : List Res) : List (Nat × Bool) → Env → List Res → World → Prop
  | [], m, H, w => ∃ m' L, Sub m' m ∧ (∃ E, (Hst ++ H).Perm (L ++ E)) ∧ N m' L w
  | (i, true) :: σ, m, H, w => ∃ d op ty pos af g v, ops[i]? = some ⟨some d, op, ty, pos, af, g⟩ ∧ Nat.blt d n = true ∧
      ((Flt P n w0 F0 op ty m Hst v ∧ (g = .none ∨ ∃ j b t, g = some (j, b) ∧ (ops[j]?).bind (·.dst) = some t ∧ lk m t = some (.bool b))) ∨
       (v = undef ∧ ∃ j b t, g = some (j, b) ∧ (ops[j]?).bind (·.dst) = some t ∧ (lk m t = some (.bool !b) ∨ lk m t = some undef))) ∧
      WD P n w0 F0 ops N Hst σ ((d, v) :: m) H w
  | (i, false) :: σ, m, H, w => ∃ dst op ty pos af g, ops[i]? = some ⟨dst, op, ty, pos, af, g⟩ ∧ (match dst with | some d => Nat.blt d n = true | .none => True) ∧
      ((∃ Φ, (g = .none ∨ ∃ j b t, g = some (j, b) ∧ (ops[j]?).bind (·.dst) = some t ∧ lk m t = some (.bool b)) ∧ Eff P n w0 F0 op ty m (Hst ++ H) w Φ ∧
        ∀ v H' w', Φ v H' → ∃ H'', H'.Perm (Hst ++ H'') ∧ WD P n w0 F0 ops N Hst σ (match dst with | some d => (d, v) :: m | .none => m) H'' w') ∨
       ((∃ j b t, g = some (j, b) ∧ (ops[j]?).bind (·.dst) = some t ∧ (lk m t = some (.bool !b) ∨ lk m t = some undef)) ∧
        WD P n w0 F0 ops N Hst σ (match dst with | some d => (d, undef) :: m | .none => m) H w))

theorem perm_all (H : List Res) : H.Perm (H ++ []) := by simp

theorem wanted_none {o : Oper} (h : o.guard = .none) (y : Nat → Option Bool) : Region.wanted o y = true := by simp [Region.wanted, h]

theorem wd_sound {Hst : List Res} (hns : Region.noSelect ops = true) (Q : Exit → Act → World → Prop) (hpan : ∀ c a w, ¬ Q (.panic c) a w)
    (hQ : ∀ a' w', (∃ m' H', Fr n m' a' ∧ Holds w0 F0 H' w' ∧ N m' H' w') → Q .normal a' w') :
    ∀ (σ : List (Nat × Bool)) (fuel : Nat) (listed : Array Bool) (m : Env) (H : List Res) (a : Act) (w : World), σ.length ≤ fuel → okOrd ops listed σ = true →
      Fr n m a → Holds w0 F0 (Hst ++ H) w → WD P n w0 F0 ops N Hst σ m H w →
      wpAnyH P .any ops Q (fun w' => ∃ H', Holds w0 F0 (Hst ++ H') w') fuel listed a w
  | [], fuel, listed, m, H, a, w, _, hok, ha, hh, hd => by
    obtain ⟨m', L, hs, ⟨E, hE⟩, hN⟩ := hd
    simp only [okOrd, List.isEmpty_iff] at hok
    exact wpAnyH_done hok (hQ a w ⟨m', L, ha.sub hs, hh.pick hE, hN⟩) fuel
  | (i, true) :: σ, 0, _, _, _, _, _, hl, _, _, _, _ => by simp at hl
  | (i, false) :: σ, 0, _, _, _, _, _, hl, _, _, _, _ => by simp at hl
  | (i, true) :: σ, fuel + 1, listed, m, H, a, w, hl, hok, ha, hh, hd => by
    obtain ⟨d, op, ty, pos, af, g, v, hi, hdn, hv, hrest⟩ := hd
    simp only [okOrd, cond_true, Bool.and_eq_true] at hok
    refine wpAnyH_take hi hns hok.1.1 hok.1.2 (fun c a w h => (hpan _ _ _ h).elim) ?_ ⟨H, hh⟩
      (wd_sound hns Q hpan hQ σ fuel _ ((d, v) :: m) H _ w (by simpa using hl) hok.2 (ha.put hdn v) hh hrest)
    rcases hv with ⟨hf, hg⟩ | ⟨rfl, j, b, t, rfl, hj, hlk⟩
    · refine .inl ⟨?_, fun w' ⟨H', hh'⟩ => hf _ a w' rfl rfl ha (hh'.drop_ (List.sublist_append_left _ _))⟩
      rcases hg with rfl | ⟨j, b, t, rfl, hj, hlk⟩
      · rfl
      · simp [Region.wanted, yielded_of ha hj hlk]
    · refine .inr ⟨?_, rfl⟩
      rcases hlk with hlk | hlk
      · simp [Region.wanted, yielded_of ha hj hlk]
      · simp [Region.wanted, yielded_undef ha hj hlk]
  | (i, false) :: σ, fuel + 1, listed, m, H, a, w, hl, hok, ha, hh, hd => by
    obtain ⟨dst, op, ty, pos, af, g, hi, hdn, hv⟩ := hd
    simp only [okOrd, cond_false, Bool.and_eq_true, beq_iff_eq] at hok
    refine wpAnyH_all hok.1 (by simp) fun k hk => ?_
    obtain rfl : k = i := by simpa using hk
    have put : ∀ v, Fr n (match dst with | some d => (d, v) :: m | .none => m) (a.put dst v) := by
      intro v
      cases dst with
      | none => exact ha
      | some d => exact ha.put hdn v
    rcases hv with ⟨Φ, hg, he, hk⟩ | ⟨⟨j, b, t, rfl, hj, hlk⟩, hk⟩
    · have hw : Region.wanted (⟨dst, op, ty, pos, af, g⟩ : Oper) (yielded ops a.tmps) = true := by
        rcases hg with rfl | ⟨j, b, t, rfl, hj, hlk⟩
        · rfl
        · simp [Region.wanted, yielded_of ha hj hlk]
      unfold wpOp
      simp only [hi, hw, if_true]
      refine .inl (he _ a _ Q rfl rfl ha hh fun v H' w' hp hh' => ?_)
      obtain ⟨H'', hpm, hwd⟩ := hk v H' w' hp
      have hh'' := hh'.perm hpm
      exact ⟨⟨H'', hh''⟩, wd_sound hns Q hpan hQ σ fuel _ _ H'' _ w' (by simpa using hl) hok.2 (put v) hh'' hwd⟩
    · have hw : Region.wanted (⟨dst, op, ty, pos, af, some (j, b)⟩ : Oper) (yielded ops a.tmps) = false := by
        rcases hlk with hlk | hlk
        · simp [Region.wanted, yielded_of ha hj hlk]
        · simp [Region.wanted, yielded_undef ha hj hlk]
      unfold wpOp
      simp only [hi, hw, Bool.false_eq_true, if_false]
      exact ⟨⟨H, hh⟩, wd_sound hns Q hpan hQ σ fuel _ _ H _ w (by simpa using hl) hok.2 (put undef) hh hk⟩

theorem Holds.drew (h : Holds w0 F0 H w) : Holds w0 F0 H { w with drawn := w.drawn + 1 } :=
  ⟨h.1.trans (Frm.drew (fun _ => False) w) (fun _ hx => hx.elim), h.2.keep (fun _ _ _ _ => rfl) (Nat.le_refl _)⟩

/-- A region that draws its order: σ is an order in which floats come as soon as they may. -/
theorem w_draw {id : Nat} (σ : List (Nat × Bool)) (Hst Hm : List Res) (hm : P.follows .mixedOrders = true) (hns : Region.noSelect ops = true)
    (hok : okOrd ops (Array.replicate ops.size false) σ = true) (hlen : Nat.ble σ.length ops.size = true) (hH : H.Perm (Hst ++ Hm)) (h : ∀ w', WD P n w0 F0 ops N Hst σ m Hm w') :
    W P n w0 F0 (.region id ops true) N R X m H w := fun a ha hh => by
  have hh' := (hh.perm hH).drew
  refine wp_region_held (S := fun w' => ∃ H', Holds w0 F0 (Hst ++ H') w') hm ?_
  exact wd_sound hns _ (fun _ _ _ h => h) (fun _ _ hq => hq) σ _ _ m Hm a _ (Nat.le_of_ble_eq_true hlen) hok ha hh' (h _)

variable {Hst : List Res} {σ : List (Nat × Bool)} {i : Nat} {g : Option (Nat × Bool)}

theorem wd_f (hi : ops[i]? = some ⟨some d, op, ty, pos, af, .none⟩) (h : Flt P n w0 F0 op ty m Hst v) (hk : WD P n w0 F0 ops N Hst σ ((d, v) :: m) H w)
    (hd : Nat.blt d n = true := by rfl) : WD P n w0 F0 ops N Hst ((i, true) :: σ) m H w :=
  ⟨d, op, ty, pos, af, .none, v, hi, hd, .inl ⟨h, .inl rfl⟩, hk⟩
theorem wd_gf {j t : Nat} {b : Bool} (hi : ops[i]? = some ⟨some d, op, ty, pos, af, some (j, b)⟩) (hj : (ops[j]?).bind (·.dst) = some t) (hl : lk m t = some (.bool b))
    (h : Flt P n w0 F0 op ty m Hst v) (hk : WD P n w0 F0 ops N Hst σ ((d, v) :: m) H w)
    (hd : Nat.blt d n = true := by rfl) : WD P n w0 F0 ops N Hst ((i, true) :: σ) m H w :=
  ⟨d, op, ty, pos, af, _, v, hi, hd, .inl ⟨h, .inr ⟨j, b, t, rfl, hj, hl⟩⟩, hk⟩
theorem wd_gs {j t : Nat} {b : Bool} (hi : ops[i]? = some ⟨some d, op, ty, pos, af, some (j, b)⟩) (hj : (ops[j]?).bind (·.dst) = some t) (hl : lk m t = some (.bool !b))
    (hk : WD P n w0 F0 ops N Hst σ ((d, undef) :: m) H w)
    (hd : Nat.blt d n = true := by rfl) : WD P n w0 F0 ops N Hst ((i, true) :: σ) m H w :=
  ⟨d, op, ty, pos, af, _, undef, hi, hd, .inr ⟨rfl, j, b, t, rfl, hj, .inl hl⟩, hk⟩
theorem wd_gu {j t : Nat} {b : Bool} (hi : ops[i]? = some ⟨some d, op, ty, pos, af, some (j, b)⟩) (hj : (ops[j]?).bind (·.dst) = some t) (hl : lk m t = some undef)
    (hk : WD P n w0 F0 ops N Hst σ ((d, undef) :: m) H w)
    (hd : Nat.blt d n = true := by rfl) : WD P n w0 F0 ops N Hst ((i, true) :: σ) m H w :=
  ⟨d, op, ty, pos, af, _, undef, hi, hd, .inr ⟨rfl, j, b, t, rfl, hj, .inr hl⟩, hk⟩
theorem wd_e (hi : ops[i]? = some ⟨some d, op, ty, pos, af, .none⟩) (h : Eff P n w0 F0 op ty m (Hst ++ H) w Φ)
    (hk : ∀ v H' w', Φ v H' → ∃ H'', H'.Perm (Hst ++ H'') ∧ WD P n w0 F0 ops N Hst σ ((d, v) :: m) H'' w')
    (hd : Nat.blt d n = true := by rfl) : WD P n w0 F0 ops N Hst ((i, false) :: σ) m H w :=
  ⟨some d, op, ty, pos, af, .none, hi, hd, .inl ⟨Φ, .inl rfl, h, hk⟩⟩
theorem wd_e0 (hi : ops[i]? = some ⟨.none, op, ty, pos, af, .none⟩) (h : Eff P n w0 F0 op ty m (Hst ++ H) w Φ)
    (hk : ∀ v H' w', Φ v H' → ∃ H'', H'.Perm (Hst ++ H'') ∧ WD P n w0 F0 ops N Hst σ m H'' w') : WD P n w0 F0 ops N Hst ((i, false) :: σ) m H w :=
  ⟨.none, op, ty, pos, af, .none, hi, trivial, .inl ⟨Φ, .inl rfl, h, hk⟩⟩
theorem wd_ge {j t : Nat} {b : Bool} (hi : ops[i]? = some ⟨some d, op, ty, pos, af, some (j, b)⟩) (hj : (ops[j]?).bind (·.dst) = some t) (hl : lk m t = some (.bool b))
    (h : Eff P n w0 F0 op ty m (Hst ++ H) w Φ)
    (hk : ∀ v H' w', Φ v H' → ∃ H'', H'.Perm (Hst ++ H'') ∧ WD P n w0 F0 ops N Hst σ ((d, v) :: m) H'' w')
    (hd : Nat.blt d n = true := by rfl) : WD P n w0 F0 ops N Hst ((i, false) :: σ) m H w :=
  ⟨some d, op, ty, pos, af, _, hi, hd, .inl ⟨Φ, .inr ⟨j, b, t, rfl, hj, hl⟩, h, hk⟩⟩
theorem wd_ges {j t : Nat} {b : Bool} (hi : ops[i]? = some ⟨some d, op, ty, pos, af, some (j, b)⟩) (hj : (ops[j]?).bind (·.dst) = some t) (hl : lk m t = some (.bool !b))
    (hk : WD P n w0 F0 ops N Hst σ ((d, undef) :: m) H w)
    (hd : Nat.blt d n = true := by rfl) : WD P n w0 F0 ops N Hst ((i, false) :: σ) m H w :=
  ⟨some d, op, ty, pos, af, _, hi, hd, .inr ⟨⟨j, b, t, rfl, hj, .inl hl⟩, hk⟩⟩
theorem wd_geu {j t : Nat} {b : Bool} (hi : ops[i]? = some ⟨some d, op, ty, pos, af, some (j, b)⟩) (hj : (ops[j]?).bind (·.dst) = some t) (hl : lk m t = some undef)
    (hk : WD P n w0 F0 ops N Hst σ ((d, undef) :: m) H w)
    (hd : Nat.blt d n = true := by rfl) : WD P n w0 F0 ops N Hst ((i, false) :: σ) m H w :=
  ⟨some d, op, ty, pos, af, _, hi, hd, .inr ⟨⟨j, b, t, rfl, hj, .inr hl⟩, hk⟩⟩
theorem wd_end (m' : Env) (hs : Sub m' m) (h : N m' (Hst ++ H) w) : WD P n w0 F0 ops N Hst [] m H w := ⟨m', _, hs, ⟨[], by simp⟩, h⟩
theorem wd_endp (m' : Env) (is : List Nat) {L E : List Res} (hs : Sub m' m) (hp : pick is (Hst ++ H) = some (L, E)) (h : N m' L w) : WD P n w0 F0 ops N Hst [] m H w := ⟨m', L, hs, ⟨E, pick_perm _ _ hp⟩, h⟩
end
end Go.Proofs.Ytkoklfagmbaapaa
