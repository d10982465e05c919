/- The proof kit, sixteenth part: regions that draw their order, in code that is walked in a fence. -/
import Derived.Test.YtkoklfagmbaapaaK15
import Derived.Test.YtkoklfagmbaapaaK5
namespace Go.Proofs.Ytkoklfagmbaapaa
open Go.RowKit
section
variable {P : Program} {n : Nat} {w0 : World} {F0 : Nat → Prop} {r : Option Nat} {N R : CondG} {X : Nat → CondG} {ds : List Deferred} {m : Env} {H : List Res} {w : World} {ops : Array Oper}

def QG (n : Nat) (w0 : World) (F0 : Nat → Prop) (N : Cond) : Exit → Act → World → Prop := fun e a w => match e with
  | .normal => ∃ m' H', Fr n m' a ∧ Holds w0 F0 H' w ∧ N m' H' w
  | _ => False
theorem all_noDefer {ops : Array Oper} (h : ops.toList.all notDefer = true) : noDefer ops.toList := noDefer_of h
theorem g_draw {id : Nat} (σ : List (Nat × Bool)) (Hst Hm : List Res) (hm : P.follows .mixedOrders = true) (hns : Region.noSelect ops = true) (hnd : ops.toList.all notDefer = true)
    (hok : okOrd ops (Array.replicate ops.size false) σ = true) (hlen : Nat.ble σ.length ops.size = true) (hH : H.Perm (Hst ++ Hm)) (h : ∀ w', WD P n w0 F0 ops (N ds) Hst σ m Hm w') :
    G P n w0 F0 r (.region id ops true) N R X ds m H w := fun a ha hh => by
  have hh' := (hh.perm hH).drew
  refine wpIn_region_any hm (any_bk (Q := QG n w0 F0 (N ds)) ds (all_noDefer hnd) (fun _ _ h => h) (fun _ _ _ h => h) (fun a w h => by obtain ⟨m', H', h1, h2, h3⟩ := h; exact ⟨ds, a, m', H', rfl, h1, h2, h3⟩) _ _ a _ (wpAny_of_held (S := fun w' => ∃ H', Holds w0 F0 (Hst ++ H') w') _ _ _ _ ?_))
  exact wd_sound hns _ (fun _ _ _ h => h) (fun _ _ hq => hq) σ _ _ m Hm a _ (Nat.le_of_ble_eq_true hlen) hok ha hh' (h _)
theorem g_drawk {id : Nat} (σ : List (Nat × Bool)) (Hst : List KRes) (Hm : List Res) (hm : P.follows .mixedOrders = true) (hns : Region.noSelect ops = true) (hnd : ops.toList.all notDefer = true)
    (hok : okOrd ops (Array.replicate ops.size false) σ = true) (hlen : Nat.ble σ.length ops.size = true) (hnk : allNoKill σ Hst = true) (hH : H.Perm (resOf' Hst ++ Hm))
    (h : ∀ w', WK P n w0 F0 ops (N ds) Hst σ m Hm w') :
    G P n w0 F0 r (.region id ops true) N R X ds m H w := fun a ha hh => by
  have hh' := (hh.perm hH).drew
  refine wpIn_region_any hm (any_bk (Q := QG n w0 F0 (N ds)) ds (all_noDefer hnd) (fun _ _ h => h) (fun _ _ _ h => h) (fun a w h => by obtain ⟨m', H', h1, h2, h3⟩ := h; exact ⟨ds, a, m', H', rfl, h1, h2, h3⟩) _ _ a _
    (wpAny_of_I _ _ _ _ (wk_sound (Hst0 := Hst) hns _ (fun _ _ _ h => h) (fun _ _ hq => hq) σ _ _ Hst m Hm a _ (Nat.le_of_ble_eq_true hlen) (by simp) hok ?_ (fun _ _ _ => rfl) ?_ ha hh' (h _) ?_)))
  · intro j o _ hl
    simp only [Array.getD_eq_getD_getElem?, Array.getElem?_replicate] at hl
    split at hl <;> simp at hl
  · intro r e _
    simp only [Array.getD_eq_getD_getElem?, Array.getElem?_replicate]
    split <;> simp
  · intro i hi
    have := List.all_eq_true.1 hnk (i, true) hi
    simpa using this
end
end Go.Proofs.Ytkoklfagmbaapaa
