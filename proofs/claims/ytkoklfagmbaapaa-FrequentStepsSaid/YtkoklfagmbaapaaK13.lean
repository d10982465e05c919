/- The proof kit, thirteenth part: code in a round of a range over a function, and behind such a range. -/
import Derived.Test.YtkoklfagmbaapaaK2
import Derived.RangeFuncNested
import Derived.OrdersIn
import Derived.TacticsIn
namespace Go.Proofs.Ytkoklfagmbaapaa
open Go.RowKit

/-- Any function, any depth; in the round r. -/
def fen (r : Option Nat) : Fence := { Fence.wide with round := r }
theorem callsIn_fen {r : Option Nat} {k : Nat} {P : Program} {f : FuncId} {args : Array Value} {w : World} {R : Ending → World → Prop} (h : Calls P f args w R) : CallsIn (fen r) k P f args w R :=
  (callsIn_wide (n := k)).2 h
theorem rowsIn_fen {r : Option Nat} {k : Nat} {P : Program} {row : String} {args : Array Value} {w : World} {R : Value → World → Prop} (h : Rows P row args w R) : RowsIn (fen r) k P row args w R :=
  fun c cs _ => let ⟨v, w', hr, s⟩ := h c cs; ⟨v, w', hr, stepsIn_wide.2 s⟩

def bk (a : Act) (ds : List Deferred) : Act := { a with defers := a.defers ++ ds }
theorem bk_put (a : Act) (ds : List Deferred) (d : Option Tmp) (v : Value) : (bk a ds).put d v = bk (a.put d v) ds := by cases d <;> rfl
theorem bk_defer (a : Act) (ds : List Deferred) (x : Deferred) : ({ bk a ds with defers := x :: (bk a ds).defers } : Act) = bk { a with defers := x :: a.defers } ds := rfl
theorem bk_eval (a : Act) (ds : List Deferred) : (bk a ds).eval = a.eval := rfl
theorem bk_nil (a : Act) : bk a [] = a := by cases a; simp [bk]

section
variable {P : Program} {r : Option Nat} {k : Nat} {Q Q' : Exit → Act → World → Prop} {ops : Array Oper} (ds : List Deferred)

theorem oper_bk {o : Oper} {a : Act} {w : World} {K K' : Act → World → Prop} (hop : ∀ c, o.op ≠ .defer c) (hQ : ∀ a w, ¬ Q .outgrown a w) (hQp : ∀ c a w, ¬ Q (.panic c) a w)
    (hK : ∀ a' w', K a' w' → K' (bk a' ds) w') (h : o.wp P a w K Q) : o.wpIn (fen r) k P (bk a ds) w K' Q' := by
  refine ⟨fun _ _ => trivial, ?_⟩
  rw [Oper.semAt_eq _ _ _ hop, bk_eval]
  unfold Oper.wp at h
  generalize (execOp a.eval o).run P w = x at h
  cases x with
  | ok nx w' =>
    cases nx with
    | value v => simp only [Oper.uponIn]; rw [bk_put]; exact hK _ _ h
    | skip => simp only [Oper.uponIn]; rw [bk_put]; exact hK _ _ h
    | defer d => simp only [Oper.uponIn]; rw [bk_defer, bk_put]; exact hK _ _ h
    | enter f args =>
      refine ⟨fun h => (by cases h), callsIn_fen (Calls.mono h fun e w'' he => ?_)⟩
      cases e with
      | returned v => dsimp only; rw [bk_put]; exact hK _ _ he
      | panicked c => exact absurd he (hQp _ _ _)
      | outgrown => obtain ⟨_, _, he⟩ := he; exact absurd he (hQ _ _)
    | row x args =>
      refine ⟨fun h => (by cases h), rowsIn_fen (Rows.mono h fun v w'' he => ?_)⟩
      rw [bk_put]; exact hK _ _ he
    | _ => exact h.elim
  | halt y w' =>
    cases y with
    | panic v => exact absurd h (hQp _ _ _)
    | _ => exact h.elim

def noDefer (l : List Oper) : Prop := ∀ o ∈ l, ∀ c, o.op ≠ .defer c
theorem list_bk (hQ : ∀ a w, ¬ Q .outgrown a w) (hQp : ∀ c a w, ¬ Q (.panic c) a w) (hN : ∀ a w, Q .normal a w → Q' .normal (bk a ds) w) :
    ∀ (l : List Oper) (a : Act) (w : World), noDefer l → wpList P ops Q l a w → wpListIn (fen r) k P ops Q' l (bk a ds) w
  | [], a, w, _, h => hN a w h
  | o :: l, a, w, hd, h => by
    have ih := list_bk hQ hQp hN l
    have hd' : noDefer l := fun o ho => hd o (List.mem_cons_of_mem _ ho)
    unfold wpList at h
    unfold wpListIn
    have hy : yielded ops (bk a ds).tmps = yielded ops a.tmps := rfl
    rw [hy]
    split at h
    · rename_i hw
      rw [if_pos hw]
      rcases h with h | ⟨_, _, _, h⟩
      · exact oper_bk ds (hd o (List.mem_cons_self ..)) hQ hQp (fun a' w' hk => ih a' w' hd' hk) h
      · exact absurd h (hQ _ _)
    · rename_i hw
      rw [if_neg hw]
      refine ⟨fun _ _ => trivial, ?_⟩
      rw [bk_put]; exact ih _ _ hd' h
theorem any_bk {md : Region.Mode} (hd : noDefer ops.toList) (hQ : ∀ a w, ¬ Q .outgrown a w) (hQp : ∀ c a w, ¬ Q (.panic c) a w) (hN : ∀ a w, Q .normal a w → Q' .normal (bk a ds) w) :
    ∀ (fuel : Nat) (listed : Array Bool) (a : Act) (w : World), wpAny P md ops Q fuel listed a w → wpAnyIn (fen r) k P md ops Q' fuel listed (bk a ds) w
  | 0, listed, a, w, h => ⟨h.1, hN a w h.2⟩
  | fuel + 1, listed, a, w, h => by
    have ih := any_bk (md := md) hd hQ hQp hN fuel
    refine ⟨fun he => hN a w (h.1 he), fun i hi => ?_⟩
    have h2 := h.2 i hi
    unfold wpOp at h2
    unfold wpOpIn
    have hy : yielded ops (bk a ds).tmps = yielded ops a.tmps := rfl
    rw [hy]
    cases ho : ops[i]? with
    | none => rw [ho] at h2; exact ih _ _ _ h2
    | some o =>
      rw [ho] at h2
      dsimp only at h2 ⊢
      have hmem : o ∈ ops.toList := by
        obtain ⟨hlt, rfl⟩ := Array.getElem?_eq_some_iff.1 ho
        exact Array.mem_toList_iff.2 (Array.getElem_mem hlt)
      split at h2
      · rename_i hw
        rw [if_pos hw]
        rcases h2 with h2 | ⟨_, _, _, h2⟩
        · exact oper_bk ds (hd o hmem) hQ hQp (fun a' w' hk => ih _ a' w' hk) h2
        · exact absurd h2 (hQ _ _)
      · rename_i hw
        rw [if_neg hw]
        refine ⟨fun _ _ => trivial, ?_⟩
        rw [bk_put]; exact ih _ _ _ h2
end

section
variable (P : Program) (n : Nat) (w0 : World) (F0 : Nat → Prop)
abbrev CondG := List Deferred → Cond
def at_ (N : CondG) (a : Act) (w : World) : Prop := ∃ ds a0 m H, a = bk a0 ds ∧ Fr n m a0 ∧ Holds w0 F0 H w ∧ N ds m H w
def PostG (N R : CondG) (X : Nat → CondG) : Exit → Act → World → Prop
  | .normal, a, w => at_ n w0 F0 N a w
  | .ret, a, w => at_ n w0 F0 R a w
  | .exit id, a, w => at_ n w0 F0 (X id) a w
  | _, _, _ => False
/-- Code in the round r (or in none), ds being what is to be done at the end besides what the frame tells. -/
def G (r : Option Nat) (c : Code) (N R : CondG) (X : Nat → CondG) (ds : List Deferred) (m : Env) (H : List Res) (w : World) : Prop :=
  ∀ a, Fr n m a → Holds w0 F0 H w → c.wpIn (fen r) 0 P (PostG n w0 F0 N R X) (bk a ds) w
end
section
variable {P : Program} {n : Nat} {w0 : World} {F0 : Nat → Prop} {r : Option Nat} {N R : CondG} {X : Nat → CondG} {ds : List Deferred} {m : Env} {H : List Res} {w : World}

theorem G.mono {N' R' : CondG} {X' : Nat → CondG} {c : Code} (h : G P n w0 F0 r c N R X ds m H w) (hN : ∀ ds m H w, N ds m H w → N' ds m H w)
    (hR : ∀ ds m H w, R ds m H w → R' ds m H w) (hX : ∀ i ds m H w, X i ds m H w → X' i ds m H w) : G P n w0 F0 r c N' R' X' ds m H w :=
  fun a ha hh => wpIn_mono (h a ha hh) fun e a' w' hq => by
    cases e with
    | normal => obtain ⟨ds, a0, m, H, h0, h1, h2, h3⟩ := hq; exact ⟨ds, a0, m, H, h0, h1, h2, hN _ _ _ _ h3⟩
    | ret => obtain ⟨ds, a0, m, H, h0, h1, h2, h3⟩ := hq; exact ⟨ds, a0, m, H, h0, h1, h2, hR _ _ _ _ h3⟩
    | exit id => obtain ⟨ds, a0, m, H, h0, h1, h2, h3⟩ := hq; exact ⟨ds, a0, m, H, h0, h1, h2, hX _ _ _ _ _ h3⟩
    | goto l => exact hq
    | panic c => exact hq
    | outgrown => exact hq
theorem g_seq {x y : Code} (h : G P n w0 F0 r x (fun ds m H w => G P n w0 F0 r y N R X ds m H w) R X ds m H w) : G P n w0 F0 r (.seq x y) N R X ds m H w :=
  fun a ha hh => wpIn_seq (wpIn_mono (h a ha hh) fun e a' w' hq => by
    cases e with
    | normal => obtain ⟨ds, a0, m, H, rfl, h1, h2, h3⟩ := hq; exact h3 a0 h1 h2
    | ret => exact hq
    | exit id => exact hq
    | goto l => exact hq
    | panic c => exact hq
    | outgrown => exact hq)
theorem g_skip (h : N ds m H w) : G P n w0 F0 r .skip N R X ds m H w := fun a ha hh => wpIn_skip ⟨ds, a, m, H, rfl, ha, hh, h⟩
theorem g_ret (h : R ds m H w) : G P n w0 F0 r .ret N R X ds m H w := fun a ha hh => wpIn_ret ⟨ds, a, m, H, rfl, ha, hh, h⟩
theorem g_exit {id : Nat} (h : X id ds m H w) : G P n w0 F0 r (.exit id) N R X ds m H w := fun a ha hh => wpIn_exit ⟨ds, a, m, H, rfl, ha, hh, h⟩
theorem g_if {c : Operand} {x y : Code} {b : Bool} (hc : ev m c = some (.bool b)) (ht : b = true → G P n w0 F0 r x N R X ds m H w)
    (hf : b = false → G P n w0 F0 r y N R X ds m H w) : G P n w0 F0 r (.cond c x y) N R X ds m H w := fun a ha hh => by
  cases b with
  | true => exact wpIn_cond (t := true) (by rw [bk_eval]; exact ha.eval hc) (ht rfl a ha hh)
  | false => exact wpIn_cond (t := false) (by rw [bk_eval]; exact ha.eval hc) (hf rfl a ha hh)
theorem g_ifd {c : Operand} {x y : Code} {p : Prop} [Decidable p] (hc : ev m c = some (.bool (decide p))) (ht : p → G P n w0 F0 r x N R X ds m H w)
    (hf : ¬ p → G P n w0 F0 r y N R X ds m H w) : G P n w0 F0 r (.cond c x y) N R X ds m H w :=
  g_if hc (fun h => ht (of_decide_eq_true h)) (fun h => hf (of_decide_eq_false h))
theorem g_ifb {c : Operand} {x y : Code} {b : Bool} (hc : ev m c = some (.bool b)) (ht : b = true → G P n w0 F0 r x N R X ds m H w)
    (hf : ¬ b = true → G P n w0 F0 r y N R X ds m H w) : G P n w0 F0 r (.cond c x y) N R X ds m H w := g_if hc ht fun h => hf (by simp [h])
theorem g_sub {c : Code} (m' : Env) (hs : Sub m' m) (h : G P n w0 F0 r c N R X ds m' H w) : G P n w0 F0 r c N R X ds m H w := fun a ha hh => h a (ha.sub hs) hh
theorem g_perm {c : Code} (H' : List Res) (hp : H.Perm H') (h : G P n w0 F0 r c N R X ds m H' w) : G P n w0 F0 r c N R X ds m H w := fun a ha hh => h a ha (hh.perm hp)
theorem g_pick {c : Code} (is : List Nat) {L E : List Res} (hp : pick is H = some (L, E)) (h : G P n w0 F0 r c N R X ds m L w) : G P n w0 F0 r c N R X ds m H w := fun a ha hh => h a ha (hh.pick (pick_perm _ _ hp))
theorem g_with {c : Code} (h : Holds w0 F0 H w → G P n w0 F0 r c N R X ds m H w) : G P n w0 F0 r c N R X ds m H w := fun a ha hh => h hh a ha hh
theorem g_post {c : Code} (M : CondG) (h1 : G P n w0 F0 r c M R X ds m H w) (h2 : ∀ ds m H w, M ds m H w → N ds m H w) : G P n w0 F0 r c N R X ds m H w :=
  h1.mono h2 (fun _ _ _ _ h => h) (fun _ _ _ _ _ h => h)
theorem g_reg {id : Nat} {l : List Oper} (hd : noDefer l) (h : WL P n w0 F0 l.toArray (N ds) l m H w) : G P n w0 F0 r (.region id l.toArray false) N R X ds m H w :=
  fun a ha hh => wpIn_region_lit (list_bk (Q := fun e a w => match e with | .normal => ∃ m' H', Fr n m' a ∧ Holds w0 F0 H' w ∧ N ds m' H' w | _ => False) ds (fun _ _ h => h) (fun _ _ _ h => h)
    (fun a w h => by obtain ⟨m', H', h1, h2, h3⟩ := h; exact ⟨ds, a, m', H', rfl, h1, h2, h3⟩) l a w hd (h a ha hh _ fun a' w' hq => hq))
end
end Go.Proofs.Ytkoklfagmbaapaa
