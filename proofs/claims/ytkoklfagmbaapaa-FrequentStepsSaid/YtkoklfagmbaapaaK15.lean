/- The proof kit, fifteenth part: the statement that ranges over a function; a round of it; a function that holds one. -/
import Derived.Test.YtkoklfagmbaapaaK14
namespace Go.Proofs.Ytkoklfagmbaapaa
open Go.RowKit

/-- A block that is no cells. -/
def ob (b : Nat) (o : Obj) : Res where
  foot := fun k => k = b
  ok := fun w => w.heap[b]? = some o
  loc := fun _ _ h hw => (h b rfl).trans hw
theorem Holds.allocO {w0 w : World} {F0 : Nat → Prop} {H : List Res} (h : Holds w0 F0 H w) (o : Obj) : Holds w0 F0 (ob w.heap.size o :: H) (w.alloc o) := by
  refine ⟨h.1.trans (Frm.alloc (fun _ => False) w _) (fun _ hx => hx.elim), ⟨heap_alloc_new w _, ?_, ?_⟩, ?_⟩
  · rintro k rfl
    exact ⟨by simp, .inl h.1.size⟩
  · intro s hs k hk
    have := ((h.2.mem s hs).2 k)
    intro hf
    have h1 := (this hf).1
    simp only [ob] at hk
    omega
  · refine h.2.keep (fun r hr k hk => heap_alloc_old w _ ((h.2.mem r hr).2 k hk).1) (by simp)
theorem Holds.put {w0 w : World} {F0 : Nat → Prop} {H : List Res} {b : Nat} {o : Obj} (h : Holds w0 F0 (ob b o :: H) w) (o' : Obj) : Holds w0 F0 (ob b o' :: H) (w.putObj b o') := by
  have hb : w.heap[b]? = some o := h.2.1.1
  have hlt : b < w.heap.size := (Array.getElem?_eq_some_iff.1 hb).1
  exact h.change (H1 := []) (r := ob b o) (r' := ob b o') ⟨rfl, rfl, rfl, by simp, fun k _ hk => World.putObj_heap_other (fun e => hk e)⟩ (World.putObj_heap_same hlt) (fun k hk => .inl hk)

def lrec (fn : FuncId) (tmps : Array Value) (ps : Array Tmp) (assign body : Code) (D : Nat) (st : LoopState) (pe : Option Code) : Loop := { state := st, pending := pe, fn, tmps, params := ps, assign, body, defers := D }
/-- As Spec, of an iterator. -/
def ISpec (P : Program) (f : FuncId) (args : List Value) (w : World) (F : Nat → Prop) (Φ : Value → List Res → Prop) : Prop :=
  CallsIn (fen .none) 0 P f args.toArray w fun e w' => ∃ v H1, e = .returned v ∧ Holds w F H1 w' ∧ Φ v H1
theorem ISpec.of_spec {P : Program} {f : FuncId} {args : List Value} {w : World} {F : Nat → Prop} {Φ : Value → List Res → Prop} (h : Spec P f args w F Φ) : ISpec P f args w F Φ := callsIn_fen h
theorem ISpec.spec {P : Program} {f : FuncId} {args : List Value} {w : World} {F : Nat → Prop} {Φ : Value → List Res → Prop} (h : ISpec P f args w F Φ) : Spec P f args w F Φ := (callsIn_wide (n := 0)).1 h

section
variable {P : Program} {n : Nat} {w0 : World} {F0 : Nat → Prop} {N R : CondG} {X : Nat → CondG} {m : Env} {H : List Res} {w : World}

theorem gl_perm {r : Option Nat} {ops : Array Oper} {l : List Oper} {ds : List Deferred} (H' : List Res) (hp : H.Perm H') (h : GL P n w0 F0 r ops N l ds m H' w) : GL P n w0 F0 r ops N l ds m H w := fun a ha hh => h a ha (hh.perm hp)
def notDefer (o : Oper) : Bool := match o.op with
  | .defer _ => false
  | _ => true
theorem noDefer_of {l : List Oper} (h : l.all notDefer = true) : noDefer l := fun o ho c e => by
  have := List.all_eq_true.1 h o ho
  rw [notDefer, e] at this
  cases this

/-- One round with two loop variables. -/
theorem y_round {fn : FuncId} {a : Act} {p1 p2 : Tmp} {v1 v2 : Value} {assign body : Code} {D l : Nat} {Φ : Value → List Res → Prop} {F : Nat → Prop} (ha : Fr n m a) (hp1 : Nat.blt p1 n = true) (hp2 : Nat.blt p2 n = true)
    (hh : Holds w F (ob l (.loop (lrec fn a.tmps #[p1, p2] assign body D .ready .none)) :: H) w)
    (h : G P n w F (some l) assign (fun ds m1 H1 w1 => ds = [] ∧ ∃ Hr, H1.Perm (ob l (.loop (lrec fn a.tmps #[p1, p2] assign body D .ready .none)) :: Hr) ∧
      ∀ w2, G P n w F (some l) body (fun ds m2 H2 w3 => ds = [] ∧ ∃ Hr2, H2.Perm (ob l (.loop (lrec fn a.tmps #[p1, p2] assign body D .busy .none)) :: Hr2) ∧
          Φ (.bool true) (ob l (.loop (lrec fn a.tmps #[p1, p2] assign body D .ready .none)) :: Hr2))
        (fun _ _ _ _ => False) (fun _ _ _ _ _ => False) [] m1 (ob l (.loop (lrec fn a.tmps #[p1, p2] assign body D .busy .none)) :: Hr) w2)
      (fun _ _ _ _ => False) (fun _ _ _ _ _ => False) [] ((p2, v2) :: (p1, v1) :: m) (ob l (.loop (lrec fn a.tmps #[p1, p2] assign body D .ready .none)) :: H) w) :
    YSpec P l [v1, v2] w F Φ := by
  have hl : w.heap[l]? = some (.loop (lrec fn a.tmps #[p1, p2] assign body D .ready .none)) := hh.2.1.1
  have hy := run_yield (P := P) (args := #[v1, v2]) hl rfl
  refine ⟨fn, _, assign, body, hy, roundIn_of_wpIn trivial ?_⟩
  have hfr : Fr n ((p2, v2) :: (p1, v1) :: m) ((a.put (some p1) v1).put (some p2) v2) := (ha.put hp1 v1).put hp2 v2
  have hact : ({ tmps := (#[p1, p2].zip #[v1, v2]).foldl (fun tmps (t, a) => tmps.setIfInBounds t a) a.tmps, defers := [] } : Act) = bk ((a.put (some p1) v1).put (some p2) v2) [] := by
    rw [bk_nil]
    have hd := hfr.defers
    have e : #[p1, p2].zip #[v1, v2] = #[(p1, v1), (p2, v2)] := by simp
    simp only [Act.put] at hd ⊢
    rw [hd, e]
    simp
  have hwalk := h _ hfr hh
  rw [← hact] at hwalk
  refine wpIn_mono (n := 0) hwalk fun e a1 w1 hq => ?_
  cases e with
  | normal =>
    obtain ⟨ds, a2, m1, H1, rfl, hf1, hh1, rfl, Hr, hp, hb⟩ := hq
    have hh1' := hh1.perm hp
    have hl1 : w1.heap[l]? = some (.loop (lrec fn a.tmps #[p1, p2] assign body D .ready .none)) := hh1'.2.1.1
    refine ⟨_, run_beginRound hl1 rfl, ?_⟩
    refine wpIn_mono (n := 0) (hb _ a2 hf1 (hh1'.put _)) fun e a3 w3 hq => ?_
    cases e with
    | normal =>
      obtain ⟨ds, a4, m2, H2, rfl, hf2, hh2, rfl, Hr2, hp2, hΦ⟩ := hq
      have hh2' := hh2.perm hp2
      have hl2 : w3.heap[l]? = some (.loop (lrec fn a.tmps #[p1, p2] assign body D .busy .none)) := hh2'.2.1.1
      exact ⟨_, _, run_endRound .none hl2, .bool true, _, rfl, hh2'.put _, hΦ⟩
    | ret => obtain ⟨_, _, _, _, _, _, _, h⟩ := hq; exact h.elim
    | exit id => obtain ⟨_, _, _, _, _, _, _, h⟩ := hq; exact h.elim
    | goto t => exact (hq : False).elim
    | panic c => exact (hq : False).elim
    | outgrown => exact (hq : False).elim
  | ret => obtain ⟨_, _, _, _, _, _, _, h⟩ := hq; exact h.elim
  | exit id => obtain ⟨_, _, _, _, _, _, _, h⟩ := hq; exact h.elim
  | goto t => exact (hq : False).elim
  | panic c => exact (hq : False).elim
  | outgrown => exact (hq : False).elim

def mark (D : Nat) : Deferred := { target := .collected D, args := #[] }
/-- The statement: the iterator is handed the loop's record and Hx. -/
theorem g_range {g : Operand} {ps : Array Tmp} {assign body : Code} {gf : FuncId} {lb : Array Value} {gfn : Func} (Hx Hr : List Res) (hg : ev m g = some (.func (.func gf) #[] lb))
    (hf : P.funcs[gf]? = some gfn) (hb : (gfn.body.isNone, gfn.name == "runtime.NumGoroutine") = (false, false)) (hH : H.Perm (Hx ++ Hr))
    (h : ∀ (fn : FuncId) (a : Act) (l D : Nat) (w1 : World), Fr n m a → Holds w0 F0 (ob l (.loop (lrec fn a.tmps ps assign body D .ready .none)) :: Hx ++ (ob D (.deferred (some [])) :: Hr)) w1 →
      Holds w1 (feet (ob l (.loop (lrec fn a.tmps ps assign body D .ready .none)) :: Hx)) (ob l (.loop (lrec fn a.tmps ps assign body D .ready .none)) :: Hx) w1 →
      ISpec P gf (.func (.yield l) #[] #[] :: lb.toList) w1 (feet (ob l (.loop (lrec fn a.tmps ps assign body D .ready .none)) :: Hx)) fun _ H1 =>
        ∃ H2, H1.Perm (ob l (.loop (lrec fn a.tmps ps assign body D .ready .none)) :: H2) ∧ ∀ w', N [mark D] m (ob D (.deferred (some [])) :: (H2 ++ Hr)) w') :
    G P n w0 F0 .none (.rangeFunc g ps assign body) N R X [] m H w := fun a ha hh => by
  rw [bk_nil]
  refine wpIn_rangeFunc fun fn _ => ?_
  have hD := (hh.perm hH).allocO (.deferred (some []))
  have hL := hD.allocO (.loop (lrec fn a.tmps ps assign body w.heap.size .ready .none))
  rw [World.size_alloc] at hL
  have hperm : (ob (w.heap.size + 1) (.loop (lrec fn a.tmps ps assign body w.heap.size .ready .none)) :: ob w.heap.size (.deferred (some [])) :: (Hx ++ Hr)).Perm
      (ob (w.heap.size + 1) (.loop (lrec fn a.tmps ps assign body w.heap.size .ready .none)) :: Hx ++ (ob w.heap.size (.deferred (some [])) :: Hr)) := by
    rw [List.cons_append]
    exact List.Perm.cons _ List.perm_middle.symm
  have hL' := hL.perm hperm
  have hcf : ∀ (args : Array Value) (w : World), (callFunc gf args).run P w = .ok (.enter gf args) w := fun args w => by
    injection hb with hb1 hb2
    simp only [callFunc, Sem.run_bind, run_program, Result.andThen_ok, hf, hb1, hb2, Bool.false_eq_true, if_false, Sem.run_pure]
  obtain ⟨W1, hW1⟩ : ∃ W1, (w.alloc (.deferred (some []))).alloc (.loop (lrec fn a.tmps ps assign body w.heap.size .ready .none)) = W1 := ⟨_, rfl⟩
  rw [hW1] at hL'
  refine ⟨w.heap.size + 1, [mark w.heap.size], W1, { target := .fn (.func gf) lb, args := #[.func (.yield (w.heap.size + 1)) #[] #[]] }, W1, gf, #[.func (.yield (w.heap.size + 1)) #[] #[]] ++ lb, W1,
    ?_, ?_, fun _ _ => trivial, ?_, fun h => (by cases h), ?_⟩
  · rw [← hW1]; exact run_enterLoop_outer _ _ _ _ _
  · simp only [resolve, ha.eval hg]
    simp [go_sem]
  · simp [invoke, go_sem, hcf]
  · have hI := h fn a (w.heap.size + 1) w.heap.size _ ha hL' (holds_self hL')
    have e : (Value.func (.yield (w.heap.size + 1)) #[] #[] :: lb.toList).toArray = #[.func (.yield (w.heap.size + 1)) #[] #[]] ++ lb := by
      apply Array.ext'
      simp
    unfold ISpec at hI
    rw [e] at hI
    refine CallsIn.mono hI ?_
    rintro e w' ⟨v, H1, rfl, hh1, H2, hp, hN⟩
    have hh2 := (hL'.call hh1).perm (hp.append_right _)
    have hl : w'.heap[w.heap.size + 1]? = some (.loop (lrec fn a.tmps ps assign body w.heap.size .ready .none)) := hh2.2.1.1
    refine ⟨.none, _, run_endLoop hl (by simp [lrec]), [mark w.heap.size], a, m, _, ?_, ha, ?_, hN _⟩
    · have := ha.defers
      simp only [bk, this, List.nil_append, List.append_nil]
    · have hh3 := hh2.put (.loop { lrec fn a.tmps ps assign body w.heap.size .ready .none with state := .exhausted })
      exact (hh3.drop_ (List.sublist_cons_self ..)).perm List.perm_middle

/-- A function that holds a range, or an iterator. -/
theorem g_enter {f : FuncId} {fn : Func} {c : Code} {args : List Value} {F : Nat → Prop} {Φ : Value → List Res → Prop}
    (hf : P.funcs[f]? = some fn) (hb : fn.body = some c) (hn : fn.ntmps = n) (m : Env) (hl : Nat.ble args.length n = true) (hm : SubL m args)
    (hh : Holds w F H w)
    (h : G P n w F .none c
      (fun ds m H w' => ∃ v H1 Hd, (∀ a w2, Fr n m a → Holds w F Hd w2 → (results fn a.tmps).run P w2 = .ok v w2) ∧ H1.Sublist Hd ∧ Φ v H1 ∧ (ds = [] ∧ Hd = H ∨ ∃ D, ds = [mark D] ∧ H.Perm (ob D (.deferred (some [])) :: Hd)))
      (fun ds m H w' => ∃ v H1 Hd, (∀ a w2, Fr n m a → Holds w F Hd w2 → (results fn a.tmps).run P w2 = .ok v w2) ∧ H1.Sublist Hd ∧ Φ v H1 ∧ (ds = [] ∧ Hd = H ∨ ∃ D, ds = [mark D] ∧ H.Perm (ob D (.deferred (some [])) :: Hd)))
      (fun _ _ _ _ _ => False) [] m H w) :
    ISpec P f args w F Φ := by
  have hl := Nat.le_of_ble_eq_true hl
  have hfr : Fr n m { tmps := args.toArray ++ Array.replicate (fn.ntmps - args.toArray.size) undef, defers := [] } := by
    refine ⟨?_, rfl, ?_⟩
    · simp only [List.size_toArray, Array.size_append, Array.size_replicate, hn]; omega
    · intro t v hv
      have := hm.get t v hv
      have hlt : t < args.length := (List.getElem?_eq_some_iff.1 this).1
      rw [Array.getElem?_append_left (by simpa using hlt)]
      simpa using this
  have hwalk := h _ hfr hh
  rw [bk_nil] at hwalk
  refine callsIn_of_wp_marks hf hb trivial (wpIn_mono (n := 0) hwalk fun e a' w' hq => ?_)
  have fin : ∀ ds a0 m H, Fr n m a0 → Holds w F H w' → (∃ v H1 Hd, (∀ a w2, Fr n m a → Holds w F Hd w2 → (results fn a.tmps).run P w2 = .ok v w2) ∧ H1.Sublist Hd ∧ Φ v H1 ∧ (ds = [] ∧ Hd = H ∨ ∃ D, ds = [mark D] ∧ H.Perm (ob D (.deferred (some [])) :: Hd))) →
      LeavesInM (fen .none) 0 P fn (bk a0 ds).tmps (fun e w' => ∃ v H1, e = .returned v ∧ Holds w F H1 w' ∧ Φ v H1) (bk a0 ds).defers .returning w' := by
    rintro ds a0 m H h1 h2 ⟨v, H1, Hd, hr, hs, hp, ⟨rfl, rfl⟩ | ⟨D, rfl, hperm⟩⟩
    · rw [bk_nil, h1.defers]
      exact ⟨v, hr a0 w' h1 h2, v, H1, rfl, h2.drop_ hs, hp⟩
    · have hd : (bk a0 [mark D]).defers = [mark D] := by simp [bk, h1.defers]
      rw [hd]
      have h2' := h2.perm hperm
      have hb : w'.heap[D]? = some (.deferred (some [])) := h2'.2.1.1
      have h3 := (h2'.put (.deferred .none)).drop_ (List.sublist_cons_self ..)
      exact ⟨by simp, .inl ⟨D, _, rfl, run_takeDeferred hb, v, hr a0 _ h1 h3, v, H1, rfl, h3.drop_ hs, hp⟩⟩
  cases e with
  | normal => obtain ⟨ds, a0, m, H, rfl, h1, h2, h3⟩ := hq; exact fin ds a0 m H h1 h2 h3
  | ret => obtain ⟨ds, a0, m, H, rfl, h1, h2, h3⟩ := hq; exact fin ds a0 m H h1 h2 h3
  | exit id => obtain ⟨_, _, _, _, _, _, _, h⟩ := hq; exact h.elim
  | goto t => exact (hq : False).elim
  | panic c => exact (hq : False).elim
  | outgrown => exact (hq : False).elim
end
end Go.Proofs.Ytkoklfagmbaapaa
