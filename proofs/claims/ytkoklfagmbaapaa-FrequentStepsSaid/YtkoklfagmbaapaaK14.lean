/- The proof kit, fourteenth part: loops and calls of yield in code that is walked in a fence; a function that ranges over another. -/
import Derived.Test.YtkoklfagmbaapaaK13
import Derived.Test.YtkoklfagmbaapaaK4
import Derived.Sort.LoopGhostIn
namespace Go.Proofs.Ytkoklfagmbaapaa
open Go.RowKit

section
variable {P : Program} {n : Nat} {w0 : World} {F0 : Nat → Prop} {r : Option Nat} {N R : CondG} {X : Nat → CondG} {ds : List Deferred} {m : Env} {H : List Res} {w : World}

def blkG (id : Nat) (N : CondG) (X : Nat → CondG) : Nat → CondG := fun i ds m H w => bif Nat.beq i id then N ds m H w else X i ds m H w
theorem g_block {id : Nat} {c : Code} (h : G P n w0 F0 r c N R (blkG id N X) ds m H w) : G P n w0 F0 r (.block id c) N R X ds m H w :=
  fun a ha hh => wpIn_block (wpIn_mono (h a ha hh) fun e a' w' hq => by
    cases e with
    | normal => exact hq
    | ret => exact hq
    | exit i =>
      obtain ⟨ds, a0, m, H, h0, h1, h2, h3⟩ := hq
      simp only [blkG] at h3
      simp only [Exit.inBlock]
      by_cases hi : i = id
      · subst hi
        simp only [Nat.beq_refl, cond_true] at h3
        rw [if_pos rfl]
        exact ⟨ds, a0, m, H, h0, h1, h2, h3⟩
      · have : Nat.beq i id = false := by
          cases hb : Nat.beq i id with
          | false => rfl
          | true => exact absurd (Nat.eq_of_beq_eq_true hb) hi
        simp only [this, cond_false] at h3
        rw [if_neg hi]
        exact ⟨ds, a0, m, H, h0, h1, h2, h3⟩
    | goto l => exact hq
    | panic c => exact hq
    | outgrown => exact hq)
theorem g_exit0 {id : Nat} (h : N ds m H w) {N' : CondG} : G P n w0 F0 r (.exit id) N' R (blkG id N X) ds m H w := g_exit (by simp only [blkG, Nat.beq_refl, cond_true]; exact h)
theorem g_loop {c : Code} (I : Nat → CondG) (k0 : Nat) (h0 : I k0 ds m H w)
    (hr : ∀ k ds m H w, I k ds m H w → G P n w0 F0 r c (fun ds' m' H' w' => ∃ k', k' < k ∧ I k' ds' m' H' w') R X ds m H w) : G P n w0 F0 r (.loop c) N R X ds m H w := fun a ha hh => by
  refine wpIn_loop_ghost (fun k a w => at_ n w0 F0 (I k) a w) k0 ⟨ds, a, m, H, rfl, ha, hh, h0⟩ ?_
  rintro k _ w ⟨ds, a, m, H, rfl, ha, hh, hI⟩
  refine wpIn_mono (hr k ds m H w hI a ha hh) fun e a' w' hq => ?_
  cases e with
  | normal => obtain ⟨ds', a0, m', H', h0, h1, h2, k', h3, h4⟩ := hq; exact ⟨k', h3, ds', a0, m', H', h0, h1, h2, h4⟩
  | ret => exact hq
  | exit id => exact hq
  | goto l => exact hq
  | panic c => exact hq
  | outgrown => exact hq

/-- A region in code that is walked in a fence, operation by operation. -/
def GL (P : Program) (n : Nat) (w0 : World) (F0 : Nat → Prop) (r : Option Nat) (ops : Array Oper) (N : CondG) (l : List Oper) (ds : List Deferred) (m : Env) (H : List Res) (w : World) : Prop :=
  ∀ a, Fr n m a → Holds w0 F0 H w → ∀ Q : Exit → Act → World → Prop, (∀ a' w', at_ n w0 F0 N a' w' → Q .normal a' w') → wpListIn (fen r) 0 P ops Q l (bk a ds) w
theorem g_regl {id : Nat} {l : List Oper} (h : GL P n w0 F0 r l.toArray N l ds m H w) : G P n w0 F0 r (.region id l.toArray false) N R X ds m H w :=
  fun a ha hh => wpIn_region_lit (h a ha hh _ fun _ _ hq => hq)
variable {ops : Array Oper} {op : Op} {ty : TypeId} {pos : String} {af : Array Edge} {d : Tmp} {v : Value} {rest : List Oper} {Φ : Value → List Res → Prop}
theorem gl_end (m' : Env) (hs : Sub m' m) (h : N ds m' H w) : GL P n w0 F0 r ops N [] ds m H w := fun a ha hh _ hQ => wpListIn_nil (hQ _ w ⟨ds, a, m', H, rfl, ha.sub hs, hh, h⟩)
theorem gl_f (hop : ∀ c, op ≠ .defer c) (h : Flt P n w0 F0 op ty m H v) (hk : GL P n w0 F0 r ops N rest ds ((d, v) :: m) H w) (hd : Nat.blt d n = true := by rfl) :
    GL P n w0 F0 r ops N (⟨some d, op, ty, pos, af, .none⟩ :: rest) ds m H w := fun a ha hh Q hQ =>
  wpListIn_plain rfl fun K hK => by
    refine ⟨fun _ _ => trivial, ?_⟩
    rw [Oper.semAt_eq _ _ _ hop, bk_eval, h _ a w rfl rfl ha hh]
    simp only [Oper.uponIn]
    rw [bk_put]
    exact hK _ _ (hk _ (ha.put hd v) hh Q hQ)
theorem gl_e (hop : ∀ c, op ≠ .defer c) (h : Eff P n w0 F0 op ty m H w Φ) (hk : ∀ v H' w', Φ v H' → GL P n w0 F0 r ops N rest ds ((d, v) :: m) H' w') (hd : Nat.blt d n = true := by rfl) :
    GL P n w0 F0 r ops N (⟨some d, op, ty, pos, af, .none⟩ :: rest) ds m H w := fun a ha hh Q hQ =>
  wpListIn_plain rfl fun K hK =>
    oper_bk (P := P) (Q := fun _ _ _ => False) (K := fun a' w' => ∃ v H', a' = a.put (some d) v ∧ Φ v H' ∧ Holds w0 F0 H' w') ds hop (fun _ _ h => h) (fun _ _ _ h => h)
      (fun a' w' hk' => by obtain ⟨v, H', rfl, hp, hh'⟩ := hk'; exact hK _ _ (hk v H' w' hp _ (ha.put hd v) hh' Q hQ))
      (h _ a _ _ rfl rfl ha hh fun v H' w' hp hh' => ⟨v, H', rfl, hp, hh'⟩)

/-- A call of a loop's body returns; of what was there only F may have changed; it leaves the resources H1. -/
def YSpec (P : Program) (l : Nat) (args : List Value) (w : World) (F : Nat → Prop) (Φ : Value → List Res → Prop) : Prop :=
  YieldAt (fen .none) 0 P l args.toArray w fun e w' => ∃ v H1, e = .returned v ∧ Holds w F H1 w' ∧ Φ v H1
theorem holds_self {Hc Hr : List Res} (h : Holds w0 F0 (Hc ++ Hr) w) : Holds w (feet Hc) Hc w := by
  refine ⟨Frm.refl _ _, ?_⟩
  have hcs := (Hs.append.1 h.2).1
  have key : ∀ L : List Res, Hs w0 F0 L w → (∀ r ∈ L, ∀ k, r.foot k → feet Hc k) → Hs w (feet Hc) L w := by
    intro L
    induction L with
    | nil => exact fun _ _ => trivial
    | cons r L ih => exact fun h hin => ⟨⟨h.1.1, fun k hk => ⟨(h.1.2.1 k hk).1, .inr (hin r (List.mem_cons_self ..) k hk)⟩, h.1.2.2⟩, ih h.2 fun s hs => hin s (List.mem_cons_of_mem _ hs)⟩
  exact key Hc hcs fun r hr k hk => ⟨r, hr, hk⟩
theorem gl_yield {l : Nat} {x : Operand} {xs : List Operand} {vs : List Value} {ts : Array TypeId} (Hc Hr : List Res) (hx : ev m x = some (.func (.yield l) #[] #[])) (hxs : evs m xs = some vs) (hH : H.Perm (Hc ++ Hr))
    (hc : Holds w0 F0 H w → Holds w (feet Hc) Hc w → YSpec P l vs w (feet Hc) Φ)
    (hk : ∀ v H1 w', Φ v H1 → GL P n w0 F0 .none ops N rest ds ((d, v) :: m) (H1 ++ Hr) w') (hd : Nat.blt d n = true := by rfl) :
    GL P n w0 F0 .none ops N (⟨some d, .call { callee := .value x, args := xs.toArray, argTypes := ts }, ty, pos, af, .none⟩ :: rest) ds m H w := fun a ha hh Q hQ =>
  wpListIn_plain rfl fun K hK => by
    refine ⟨fun _ _ => trivial, ?_⟩
    have hargs : (xs.toArray.map a.eval) = vs.toArray := by
      apply Array.ext'
      simpa using ha.evals _ hxs
    have hperm := hh.perm hH
    obtain ⟨fn, tmps, assign, body, hy, hround⟩ := hc hh (holds_self hperm)
    have hrun : (execOp a.eval ⟨some d, .call { callee := .value x, args := xs.toArray, argTypes := ts }, ty, pos, af, .none⟩).run P w = .ok (.round l fn tmps assign body) w := by
      simp only [execOp, resolve, ha.eval hx, Deferred.ofValue, invoke, hargs, Sem.run_bind, Sem.run_pure, Result.andThen_ok, Array.empty_append, Array.append_empty, hy]
    rw [Oper.semAt_eq _ _ _ (by simp), bk_eval, hrun]
    refine ⟨fun h => (by cases h), hround.mono ?_⟩
    rintro e w' ⟨v, H1, rfl, hh1, hp⟩
    dsimp only
    rw [bk_put]
    exact hK _ _ (hk v H1 w' hp _ (ha.put hd v) (hperm.call hh1) Q hQ)
end
end Go.Proofs.Ytkoklfagmbaapaa
