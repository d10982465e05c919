/- The proof kit, fifth part: regions that draw their order and change what they have read. Each stable resource may bear the number of the operation that ends it. -/
import Derived.Test.YtkoklfagmbaapaaK4
namespace Go.Proofs.Ytkoklfagmbaapaa
open Go.RowKit

section
variable {P : Program} {ops : Array Oper} {Q : Exit → Act → World → Prop} {md : Region.Mode} {S : Array Bool → World → Prop}

def wpAnyI (P : Program) (md : Region.Mode) (ops : Array Oper) (Q : Exit → Act → World → Prop) (S : Array Bool → World → Prop) : Nat → Array Bool → Act → World → Prop
  | 0, listed, a, w => Region.ready md ops listed = [] ∧ Q .normal a w
  | fuel + 1, listed, a, w =>
    (Region.ready md ops listed = [] → Q .normal a w) ∧
    ∀ i ∈ Region.ready md ops listed, wpOp P ops Q i (fun a' w' => S (listed.setIfInBounds i true) w' ∧ wpAnyI P md ops Q S fuel (listed.setIfInBounds i true) a' w') a w

theorem wpAny_of_I : ∀ (fuel : Nat) (listed : Array Bool) (a : Act) (w : World), wpAnyI P md ops Q S fuel listed a w → wpAny P md ops Q fuel listed a w
  | 0, _, _, _, h => h
  | fuel + 1, _, _, _, h => ⟨h.1, fun i hi => wpOp_mono (fun a' w' h' => wpAny_of_I fuel _ a' w' h'.2) (h.2 i hi)⟩

/-- What is listed waits for nothing that is not. -/
def Closed (md : Region.Mode) (ops : Array Oper) (listed : Array Bool) : Prop :=
  ∀ (j : Nat) (o : Oper), ops[j]? = some o → listed.getD j false = true → ∀ e ∈ o.after, Region.binds md e = true → listed.getD e.on false = true

theorem Closed.step {listed : Array Bool} (h : Closed md ops listed) {i : Nat} (hi : i ∈ Region.ready md ops listed) : Closed md ops (listed.setIfInBounds i true) := by
  intro j o ho hl e he hb
  by_cases hji : j = i
  · subst hji
    obtain ⟨_, o', ho', hall⟩ := mem_ready.1 hi
    rw [ho] at ho'
    injection ho' with ho'
    subst ho'
    exact getD_set_true (hall e he hb)
  · rw [getD_set_ne false (Ne.symm hji)] at hl
    exact getD_set_true (h j o ho hl e he hb)

def Above (listed listed' : Array Bool) : Prop := ∀ j, listed.getD j false = true → listed'.getD j false = true

/-- Whatever has been carried out in the meantime, the operation leaves v. -/
def YieldsI (P : Program) (md : Region.Mode) (ops : Array Oper) (S : Array Bool → World → Prop) (listed : Array Bool) (i : Nat) (o : Oper) (v : Value) (a : Act) : Prop :=
  (Region.wanted o (yielded ops a.tmps) = true ∧ ∀ listed' w, Above listed listed' → listed'.getD i true = false → Closed md ops listed' → S listed' w → (execOp a.eval o).run P w = .ok (.value v) w) ∨
  (Region.wanted o (yielded ops a.tmps) = false ∧ v = undef)

theorem YieldsI.of_same {listed : Array Bool} {i : Nat} {o : Oper} {v : Value} {a a' : Act} (hy : YieldsI P md ops S listed i o v a) (he : execOp a'.eval o = execOp a.eval o)
    (hw : Region.wanted o (yielded ops a'.tmps) = Region.wanted o (yielded ops a.tmps)) : YieldsI P md ops S listed i o v a' := by
  unfold YieldsI at *
  rw [he, hw]
  exact hy

theorem YieldsI.above {listed listed2 : Array Bool} {i : Nat} {o : Oper} {v : Value} {a : Act} (hy : YieldsI P md ops S listed i o v a) (h : Above listed listed2) : YieldsI P md ops S listed2 i o v a :=
  hy.imp (fun ⟨h1, h2⟩ => ⟨h1, fun l w hl => h2 l w (fun j hj => hl j (h j hj))⟩) id

theorem YieldsI.wpOp {listed : Array Bool} {i : Nat} {o : Oper} {v : Value} {a : Act} (hi : ops[i]? = some o) (hy : YieldsI P md ops S listed i o v a)
    {K : Act → World → Prop} {w : World} (hl : listed.getD i true = false) (hc : Closed md ops listed) (hS : S listed w) (h : K (a.put o.dst v) w) : wpOp P ops Q i K a w := by
  unfold Go.wpOp
  simp only [hi]
  rcases hy with ⟨hw, hv⟩ | ⟨hw, rfl⟩
  · simp only [hw, if_true, Oper.wp, hv listed w (fun _ h => h) hl hc hS, Oper.upon]; exact .inl h
  · simp only [hw, Bool.false_eq_true, if_false]; exact h

theorem wpOp_putI {listed : Array Bool} {i j : Nat} {oi oj : Oper} {v : Value} (hj : ops[j]? = some oj) (hap : oi.apart ops oj = true)
    (hsi : ∀ cs b, oi.op ≠ .select cs b) (hsj : ∀ cs b, oj.op ≠ .select cs b)
    (hQ : ∀ c a w, Q (.panic c) (a.put oi.dst v) w → Q (.panic c) a w) {K : Act → World → Prop} {a : Act} {w : World}
    (hy : YieldsI P md ops S listed i oi v a) (h : wpOp P ops Q j K (a.put oi.dst v) w) :
    wpOp P ops Q j (fun a' w' => YieldsI P md ops S listed i oi v a' ∧ K (a'.put oi.dst v) w') a w := by
  obtain ⟨h1, h2, h3⟩ := Oper.apart_spec hap
  have keep : ∀ (a : Act), YieldsI P md ops S listed i oi v a → ∀ u, YieldsI P md ops S listed i oi v (a.put oj.dst u) := fun a hy u =>
    hy.of_same (execOp_put oi hsi a oj.dst u h3) (wanted_put oi a oj.dst u h3)
  have keepD : ∀ d, YieldsI P md ops S listed i oi v { a with defers := d :: a.defers } := fun d => hy.of_same rfl rfl
  unfold wpOp at *
  simp only [hj] at *
  rw [wanted_put oj a oi.dst v h1] at h
  split
  · rename_i hw
    simp only [hw, if_true] at h
    rcases h with h | ⟨hasks, hlets⟩
    case inr => exact .inr ⟨by unfold Oper.asks at *; rw [execOp_put oj hsj a oi.dst v h1] at hasks; exact hasks, hlets⟩
    refine .inl ?_
    unfold Oper.wp at *
    rw [execOp_put oj hsj a oi.dst v h1] at h
    generalize (execOp a.eval oj).run P w = r at *
    cases r with
    | ok n w' =>
      cases n <;> simp only [Oper.upon] at h ⊢
      case value u => exact ⟨keep a hy u, by rw [← Act.put_comm a v u h2]; exact h⟩
      case skip => exact ⟨keep a hy _, by rw [← Act.put_comm a v undef h2]; exact h⟩
      case defer d =>
        refine ⟨keep _ (keepD d) _, ?_⟩
        rw [← Act.put_comm _ v undef h2, ← Act.put_defers]
        exact h
      case enter f args =>
        refine Calls.mono h fun e w'' he => ?_
        cases e with
        | returned u => exact ⟨keep a hy u, by rw [← Act.put_comm a v u h2]; exact he⟩
        | panicked c => exact hQ _ _ _ he
        | outgrown => exact he
      case row row args => exact Rows.mono h fun u w'' he => ⟨keep a hy u, by rw [← Act.put_comm a v u h2]; exact he⟩
    | halt x w' =>
      cases x <;> simp only [Oper.upon] at h ⊢
      case panic u => exact hQ _ _ _ h
  · rename_i hw
    simp only [hw] at h
    exact ⟨keep a hy _, by rw [← Act.put_comm a v undef h2]; exact h⟩

theorem above_set (listed : Array Bool) (j : Nat) : Above listed (listed.setIfInBounds j true) := fun _ h => getD_set_true h

theorem wpAnyI_first {i : Nat} {oi : Oper} {v : Value} (hi : ops[i]? = some oi) (hsel : ∀ (j : Nat) (o : Oper) cs b, ops[j]? = some o → o.op ≠ .select cs b)
    (hQ : ∀ c a w, Q (.panic c) (a.put oi.dst v) w → Q (.panic c) a w) (hSi : ∀ listed w, S (listed.setIfInBounds i true) w ↔ S listed w) :
    ∀ (fuel : Nat) (listed : Array Bool) (a : Act) (w : World),
      (∀ j oj, ops[j]? = some oj → j ≠ i → listed.getD j true = false → (∀ e ∈ oj.after, Region.binds md e = true → e.on ≠ i) → oi.apart ops oj = true) →
      i ∈ Region.ready md ops listed → YieldsI P md ops S listed i oi v a → Closed md ops listed → S listed w →
      wpAnyI P md ops Q S fuel (listed.setIfInBounds i true) (a.put oi.dst v) w → wpAnyI P md ops Q S (fuel + 1) listed a w := by
  intro fuel
  induction fuel with
  | zero =>
    intro listed a w _ hr hy hc hS H
    have hli := (mem_ready.1 hr).1
    refine ⟨fun h => (by rw [h] at hr; cases hr), fun j hj => ?_⟩
    by_cases hji : j = i
    · subst hji; exact hy.wpOp hi hli hc hS ⟨(hSi _ _).2 hS, H⟩
    · have := ready_mono hj hji
      rw [H.1] at this
      cases this
  | succ fuel ih =>
    intro listed a w hfree hr hy hc hS H
    have hli := (mem_ready.1 hr).1
    refine ⟨fun h => (by rw [h] at hr; cases hr), fun j hj => ?_⟩
    by_cases hji : j = i
    · subst hji; exact hy.wpOp hi hli hc hS ⟨(hSi _ _).2 hS, H⟩
    · have h1 := H.2 j (ready_mono hj hji)
      obtain ⟨hjun, oj, hoj, hall⟩ := mem_ready.1 hj
      have hnot : ∀ e ∈ oj.after, Region.binds md e = true → e.on ≠ i := fun e he hb heq => by
        have h1 := hall e he hb
        have h0 := (mem_ready.1 hr).1
        rw [heq] at h1
        rcases Nat.lt_or_ge i listed.size with h' | h'
        · simp [h'] at h0 h1; rw [h0] at h1; cases h1
        · simp [Array.getElem?_eq_none h'] at h1
      have h2 := wpOp_putI hoj (hfree j oj hoj hji hjun hnot) (fun cs b => hsel i oi cs b hi) (fun cs b => hsel j oj cs b hoj) hQ hy h1
      have hfree' : ∀ k ok, ops[k]? = some ok → k ≠ i → (listed.setIfInBounds j true).getD k true = false →
          (∀ e ∈ ok.after, Region.binds md e = true → e.on ≠ i) → oi.apart ops ok = true := fun k ok hk hki hun hno => by
        refine hfree k ok hk hki ?_ hno
        by_cases hjk : j = k
        · subst hjk; exact hjun
        · rw [getD_set_ne true hjk] at hun; exact hun
      refine wpOp_mono (fun a' w' h3 => ?_) h2
      have hS' : S (listed.setIfInBounds j true) w' := by
        have := h3.2.1
        rw [Array.setIfInBounds_comm _ _ (Ne.symm hji)] at this
        exact (hSi _ _).1 this
      refine ⟨hS', ih (listed.setIfInBounds j true) a' w' hfree' (ready_mono hr (Ne.symm hji)) (h3.1.above (above_set _ _)) (hc.step hj) hS' ?_⟩
      rw [Array.setIfInBounds_comm _ _ hji]
      exact h3.2.2

/-- e waits for i. -/
def depOn (ops : Array Oper) : Nat → Nat → Nat → Bool
  | 0, _, _ => false
  | f + 1, e, i => match ops[e]? with
    | some o => o.after.toList.any fun x => Region.binds .any x && (Nat.beq x.on i || depOn ops f x.on i)
    | .none => false

theorem depOn_closed {listed : Array Bool} (hc : Closed .any ops listed) : ∀ (f e i : Nat), depOn ops f e i = true → listed.getD e false = true → listed.getD i false = true
  | 0, _, _, h, _ => by cases h
  | f + 1, e, i, h, hl => by
    simp only [depOn] at h
    split at h
    · rename_i o ho
      obtain ⟨x, hx, hb⟩ := List.any_eq_true.1 h
      have hx := Array.mem_toList_iff.1 hx
      simp only [Bool.and_eq_true, Bool.or_eq_true] at hb
      have h1 := hc e o ho hl x hx hb.1
      rcases hb.2 with h2 | h2
      · rw [Nat.eq_of_beq_eq_true h2] at h1; exact h1
      · exact depOn_closed hc f x.on i h2 h1
    · cases h
end

section
variable {P : Program} {n : Nat} {w0 : World} {F0 : Nat → Prop} {N R : Cond} {X : Nat → Cond} {m : Env} {H : List Res} {w : World}
  {ops : Array Oper} {op : Op} {ty : TypeId} {pos : String} {af : Array Edge} {v : Value} {Φ : Value → List Res → Prop} {d : Nat}

abbrev KRes := Res × Option Nat
def alive (listed : Array Bool) : List KRes → List Res
  | [] => []
  | (r, .none) :: l => r :: alive listed l
  | (r, some e) :: l => bif listed.getD e false then alive listed l else r :: alive listed l
def kill (i : Nat) : List KRes → List KRes
  | [] => []
  | (r, .none) :: l => (r, .none) :: kill i l
  | (r, some e) :: l => bif Nat.beq e i then kill i l else (r, some e) :: kill i l
def resOf' : List KRes → List Res
  | [] => []
  | (r, _) :: l => r :: resOf' l
/-- What operation i may read: resources that nothing ends, or that are ended by an operation that waits for i. -/
def readOk (ops : Array Oper) (i : Nat) : List KRes → List Res
  | [] => []
  | (r, .none) :: l => r :: readOk ops i l
  | (r, some e) :: l => bif depOn ops ops.size e i then r :: readOk ops i l else readOk ops i l
def noKill (i : Nat) : List KRes → Bool
  | [] => true
  | (_, .none) :: l => noKill i l
  | (_, some e) :: l => !Nat.beq e i && noKill i l

def WK (P : Program) (n : Nat) (w0 : World) (F0 : Nat → Prop) (ops : Array Oper) (N : Cond) : List KRes → List (Nat × Bool) → Env → List Res → World → Prop
  | Hst, [], m, H, w => ∃ m' L, Sub m' m ∧ (∃ E, (resOf' Hst ++ H).Perm (L ++ E)) ∧ N m' L w
  | Hst, (i, true) :: σ, m, H, w => ∃ d op ty pos af g v, ops[i]? = some ⟨some d, op, ty, pos, af, g⟩ ∧ Nat.blt d n = true ∧ noKill i Hst = true ∧
      ((Flt P n w0 F0 op ty m (readOk ops i Hst) v ∧ (g = .none ∨ ∃ j b t, g = some (j, b) ∧ (ops[j]?).bind (·.dst) = some t ∧ lk m t = some (.bool b))) ∨
       (v = undef ∧ ∃ j b t, g = some (j, b) ∧ (ops[j]?).bind (·.dst) = some t ∧ (lk m t = some (.bool !b) ∨ lk m t = some undef))) ∧
      WK P n w0 F0 ops N Hst σ ((d, v) :: m) H w
  | Hst, (i, false) :: σ, m, H, w => ∃ dst op ty pos af, ops[i]? = some ⟨dst, op, ty, pos, af, .none⟩ ∧ (match dst with | some d => Nat.blt d n = true | .none => True) ∧
      ∃ Φ, Eff P n w0 F0 op ty m (resOf' Hst ++ H) w Φ ∧
        ∀ v H' w', Φ v H' → ∃ H'', H'.Perm (resOf' (kill i Hst) ++ H'') ∧ WK P n w0 F0 ops N (kill i Hst) σ (match dst with | some d => (d, v) :: m | .none => m) H'' w'

theorem alive_sub {listed : Array Bool} {i : Nat} (hc : Closed .any ops listed) (hi : listed.getD i true = false) : ∀ (L : List KRes), (readOk ops i L).Sublist (alive listed L)
  | [] => List.Sublist.refl _
  | (r, .none) :: l => (alive_sub hc hi l).cons_cons r
  | (r, some e) :: l => by
    simp only [readOk, alive]
    cases hd : depOn ops ops.size e i with
    | false =>
      simp only [cond_false]
      cases listed.getD e false with
      | true => exact alive_sub hc hi l
      | false => exact (alive_sub hc hi l).cons r
    | true =>
      have : listed.getD e false = false := by
        cases hq : listed.getD e false with
        | false => rfl
        | true =>
          have := depOn_closed hc _ e i hd hq
          rcases Nat.lt_or_ge i listed.size with h' | h'
          · simp [h'] at this hi; rw [this] at hi; cases hi
          · simp [Array.getElem?_eq_none h'] at this
      simp only [this, cond_true, cond_false]
      exact (alive_sub hc hi l).cons_cons r

theorem alive_noKill {listed : Array Bool} {i : Nat} : ∀ (L : List KRes), noKill i L = true → alive (listed.setIfInBounds i true) L = alive listed L
  | [], _ => rfl
  | (r, .none) :: l, h => by simp only [alive]; rw [alive_noKill l h]
  | (r, some e) :: l, h => by
    simp only [noKill, Bool.and_eq_true, Bool.not_eq_true'] at h
    have hne : i ≠ e := fun he => by subst he; simp at h
    simp only [alive]
    rw [getD_set_ne false hne, alive_noKill l h.2]

theorem alive_kill {listed : Array Bool} {i : Nat} (hi : i < listed.size) : ∀ (L : List KRes), alive (listed.setIfInBounds i true) L = alive listed (kill i L)
  | [] => rfl
  | (r, .none) :: l => by simp only [alive, kill]; rw [alive_kill hi l]
  | (r, some e) :: l => by
    simp only [alive, kill]
    by_cases hei : e = i
    · subst hei
      simp only [Nat.beq_refl, cond_true]
      have : (listed.setIfInBounds e true).getD e false = true := by simp [hi]
      rw [this]
      exact alive_kill hi l
    · have hb : Nat.beq e i = false := by
        cases hq : Nat.beq e i with
        | false => rfl
        | true => exact absurd (Nat.eq_of_beq_eq_true hq) hei
      simp only [hb, cond_false, alive]
      rw [getD_set_ne false (Ne.symm hei), alive_kill hi l]

/-- The listed array and the current list of stable resources fit. -/
def Fits (listed : Array Bool) (Hst0 Hst : List KRes) : Prop := ∀ listed', Above listed listed' → alive listed' Hst0 = alive listed' Hst

theorem alive_all {listed : Array Bool} : ∀ (L : List KRes), (∀ r e, (r, some e) ∈ L → listed.getD e false = false) → alive listed L = resOf' L
  | [], _ => rfl
  | (r, .none) :: l, h => by simp only [alive, resOf']; rw [alive_all l fun r e hm => h r e (List.mem_cons_of_mem _ hm)]
  | (r, some e) :: l, h => by
    simp only [alive, resOf']
    rw [h r e (List.mem_cons_self ..), alive_all l fun r e hm => h r e (List.mem_cons_of_mem _ hm)]
    rfl

theorem kill_mem {i : Nat} : ∀ (L : List KRes) (r : Res) (e : Nat), (r, some e) ∈ kill i L → (r, some e) ∈ L ∧ e ≠ i
  | [], _, _, h => by simp [kill] at h
  | (s, .none) :: l, r, e, h => by
    simp only [kill, List.mem_cons] at h
    rcases h with h | h
    · cases h
    · have := kill_mem l r e h; exact ⟨List.mem_cons_of_mem _ this.1, this.2⟩
  | (s, some e') :: l, r, e, h => by
    simp only [kill] at h
    by_cases hei : e' = i
    · subst hei
      simp only [Nat.beq_refl, cond_true] at h
      have := kill_mem l r e h; exact ⟨List.mem_cons_of_mem _ this.1, this.2⟩
    · have hb : Nat.beq e' i = false := by
        cases hq : Nat.beq e' i with
        | false => rfl
        | true => exact absurd (Nat.eq_of_beq_eq_true hq) hei
      simp only [hb, cond_false, List.mem_cons] at h
      rcases h with h | h
      · injection h with h1 h2
        injection h2 with h2
        subst h1; subst h2
        exact ⟨List.mem_cons_self .., hei⟩
      · have := kill_mem l r e h; exact ⟨List.mem_cons_of_mem _ this.1, this.2⟩

theorem wk_sound {Hst0 : List KRes} (hns : Region.noSelect ops = true) (Q : Exit → Act → World → Prop) (hpan : ∀ c a w, ¬ Q (.panic c) a w)
    (hQ : ∀ a' w', (∃ m' H', Fr n m' a' ∧ Holds w0 F0 H' w' ∧ N m' H' w') → Q .normal a' w') :
    ∀ (σ : List (Nat × Bool)) (fuel : Nat) (listed : Array Bool) (Hst : List KRes) (m : Env) (H : List Res) (a : Act) (w : World), σ.length ≤ fuel → listed.size = ops.size → okOrd ops listed σ = true →
      Closed .any ops listed → (∀ l, Above listed l → l.size = ops.size → alive l Hst0 = alive l Hst) → (∀ r e, (r, some e) ∈ Hst → listed.getD e false = false) → Fr n m a → Holds w0 F0 (resOf' Hst ++ H) w → WK P n w0 F0 ops N Hst σ m H w →
      (∀ i, (i, true) ∈ σ → noKill i Hst0 = true) →
      wpAnyI P .any ops Q (fun l w' => l.size = ops.size ∧ ∃ H', Holds w0 F0 (alive l Hst0 ++ H') w') fuel listed a w
  | [], fuel, listed, Hst, m, H, a, w, _, _, hok, _, _, _, ha, hh, hd, _ => by
    obtain ⟨m', L, hs, ⟨E, hE⟩, hN⟩ := hd
    have hh := hh.pick hE
    simp only [okOrd, List.isEmpty_iff] at hok
    cases fuel with
    | zero => exact ⟨hok, hQ a w ⟨m', _, ha.sub hs, hh, hN⟩⟩
    | succ f => exact ⟨fun _ => hQ a w ⟨m', _, ha.sub hs, hh, hN⟩, by rw [hok]; simp⟩
  | (i, true) :: σ, 0, _, _, _, _, _, _, hl, _, _, _, _, _, _, _, _, _ => by simp at hl
  | (i, false) :: σ, 0, _, _, _, _, _, _, hl, _, _, _, _, _, _, _, _, _ => by simp at hl
  | (i, true) :: σ, fuel + 1, listed, Hst, m, H, a, w, hl, hsz, hok, hc, hfit, hun, ha, hh, hd, hnk => by
    obtain ⟨d, op, ty, pos, af, g, v, hi, hdn, _, hv, hrest⟩ := hd
    simp only [okOrd, cond_true, Bool.and_eq_true] at hok
    have hready : i ∈ Region.ready .any ops listed := by simpa using hok.1.2
    have hk0 := hnk i (List.mem_cons_self ..)
    have hil : i < listed.size := by rw [hsz]; exact (Array.getElem?_eq_some_iff.1 hi).1
    have hfit' : ∀ l, Above (listed.setIfInBounds i true) l → l.size = ops.size → alive l Hst0 = alive l Hst := fun l hl' => hfit l (fun j hj => hl' j (above_set _ _ j hj))
    have hnki : noKill i Hst = true := by assumption
    have hun' : ∀ r e, (r, some e) ∈ Hst → (listed.setIfInBounds i true).getD e false = false := by
      intro r e hm
      have hne : i ≠ e := by
        rintro rfl
        have key : ∀ L : List KRes, noKill i L = true → (r, some i) ∉ L := by
          intro L
          induction L with
          | nil => simp
          | cons x L ih =>
            obtain ⟨s, k⟩ := x
            cases k with
            | none => intro h hm; rcases List.mem_cons.1 hm with hm | hm
                      · cases hm
                      · exact ih h hm
            | some k =>
              intro h hm
              simp only [noKill, Bool.and_eq_true, Bool.not_eq_true'] at h
              rcases List.mem_cons.1 hm with hm | hm
              · injection hm with _ hm; injection hm with hm; subst hm; simp at h
              · exact ih h.2 hm
        exact key Hst hnki hm
      rw [getD_set_ne false hne]
      exact hun r e hm
    refine wpAnyI_first hi (Region.noSelect_spec hns) (fun c a w h => (hpan _ _ _ h).elim) ?_ fuel listed a w (Region.free_spec hi hok.1.1) hready ?_ hc ⟨hsz, H, ?_⟩
      (wk_sound hns Q hpan hQ σ fuel _ Hst ((d, v) :: m) H _ w (by simpa using hl) (by simpa using hsz) hok.2 (hc.step hready) hfit' hun' (ha.put hdn v) hh hrest (fun k hk => hnk k (List.mem_cons_of_mem _ hk)))
    · intro l w'
      rw [alive_noKill Hst0 hk0]
      simp
    · rcases hv with ⟨hf, hg⟩ | ⟨rfl, j, b, t, rfl, hj, hlk⟩
      · refine .inl ⟨?_, fun l w' hab hil' hcl ⟨hlsz, H', hh'⟩ => hf _ a w' rfl rfl ha ?_⟩
        · rcases hg with rfl | ⟨j, b, t, rfl, hj, hlk⟩
          · rfl
          · simp [Region.wanted, yielded_of ha hj hlk]
        · rw [hfit l hab hlsz] at hh'
          exact (hh'.drop_ (List.sublist_append_left _ _)).drop_ (alive_sub hcl hil' Hst)
      · refine .inr ⟨?_, rfl⟩
        rcases hlk with hlk | hlk
        · simp [Region.wanted, yielded_of ha hj hlk]
        · simp [Region.wanted, yielded_undef ha hj hlk]
    · rw [hfit listed (fun _ h => h) hsz, alive_all Hst hun]
      exact hh
  | (i, false) :: σ, fuel + 1, listed, Hst, m, H, a, w, hl, hsz, hok, hc, hfit, hun, ha, hh, hd, hnk => by
    obtain ⟨dst, op, ty, pos, af, hi, hdn, Φ, he, hk⟩ := hd
    simp only [okOrd, cond_false, Bool.and_eq_true, beq_iff_eq] at hok
    refine ⟨fun h0 => absurd (hok.1 ▸ h0) (by simp), fun k hk' => ?_⟩
    obtain rfl : k = i := by rw [hok.1] at hk'; simpa using hk'
    have hready : k ∈ Region.ready .any ops listed := by rw [hok.1]; simp
    have hil : k < listed.size := by rw [hsz]; exact (Array.getElem?_eq_some_iff.1 hi).1
    have put : ∀ v, Fr n (match dst with | some d => (d, v) :: m | .none => m) (a.put dst v) := by
      intro v
      cases dst with
      | none => exact ha
      | some d => exact ha.put hdn v
    have hw : Region.wanted (⟨dst, op, ty, pos, af, .none⟩ : Oper) (yielded ops a.tmps) = true := rfl
    have hun' : ∀ r e, (r, some e) ∈ kill k Hst → (listed.setIfInBounds k true).getD e false = false := by
      intro r e hm
      obtain ⟨h1, h2⟩ := kill_mem Hst r e hm
      rw [getD_set_ne false (Ne.symm h2)]
      exact hun r e h1
    have hset : ∀ l : Array Bool, Above (listed.setIfInBounds k true) l → l.size = ops.size → l = l.setIfInBounds k true := by
      intro l hab hls
      have : l.getD k false = true := hab k (by simp [hil])
      apply Array.ext
      · simp
      · intro j h1 h2
        by_cases hjk : j = k
        · subst hjk
          have h3 : l[j]? = some l[j] := Array.getElem?_eq_getElem h1
          simp [h3] at this
          simp [this]
        · rw [Array.getElem_setIfInBounds_ne h1 (Ne.symm hjk)]
    have hfit' : ∀ l, Above (listed.setIfInBounds k true) l → l.size = ops.size → alive l Hst0 = alive l (kill k Hst) := by
      intro l hab hls
      rw [hfit l (fun j hj => hab j (above_set _ _ j hj)) hls]
      rw [hset l hab hls, alive_kill (by rw [hls]; exact (Array.getElem?_eq_some_iff.1 hi).1) Hst, ← hset l hab hls]
    unfold wpOp
    simp only [hi, hw, if_true]
    refine .inl (he _ a _ Q rfl rfl ha hh fun v H' w' hp hh' => ?_)
    obtain ⟨H'', hpm, hwd⟩ := hk v H' w' hp
    have hh'' := hh'.perm hpm
    refine ⟨⟨by simpa using hsz, H'', ?_⟩, wk_sound hns Q hpan hQ σ fuel _ (kill k Hst) _ H'' _ w' (by simpa using hl) (by simpa using hsz) hok.2 (hc.step hready) hfit' hun' (put v) hh'' hwd (fun j hj => hnk j (List.mem_cons_of_mem _ hj))⟩
    rw [hfit' _ (fun _ h => h) (by simpa using hsz), alive_all _ hun']
    exact hh''

def allNoKill (σ : List (Nat × Bool)) (Hst : List KRes) : Bool := σ.all fun (i, fl) => !fl || noKill i Hst

theorem w_drawk {id : Nat} (σ : List (Nat × Bool)) (Hst : List KRes) (Hm : List Res) (hm : P.follows .mixedOrders = true) (hns : Region.noSelect ops = true)
    (hok : okOrd ops (Array.replicate ops.size false) σ = true) (hlen : Nat.ble σ.length ops.size = true) (hnk : allNoKill σ Hst = true) (hH : H.Perm (resOf' Hst ++ Hm))
    (h : ∀ w', WK P n w0 F0 ops N Hst σ m Hm w') :
    W P n w0 F0 (.region id ops true) N R X m H w := fun a ha hh => by
  have hh' := (hh.perm hH).drew
  refine wp_region_any hm (wpAny_of_I _ _ _ _ (wk_sound (Hst0 := Hst) hns _ (fun _ _ _ h => h) (fun _ _ hq => hq) σ _ _ Hst m Hm a _ (Nat.le_of_ble_eq_true hlen) (by simp) hok ?_ (fun _ _ _ => rfl) ?_ ha hh' (h _) ?_))
  · intro j o _ hl
    simp only [Array.getD_eq_getD_getElem?, Array.getElem?_replicate] at hl
    split at hl <;> simp at hl
  · intro r e _
    simp only [Array.getD_eq_getD_getElem?, Array.getElem?_replicate]
    split <;> simp
  · intro i hi
    have := List.all_eq_true.1 hnk (i, true) hi
    simpa using this

variable {Hst : List KRes} {σ : List (Nat × Bool)} {i : Nat}

theorem wk_f (hi : ops[i]? = some ⟨some d, op, ty, pos, af, .none⟩) (h : Flt P n w0 F0 op ty m (readOk ops i Hst) v) (hk : WK P n w0 F0 ops N Hst σ ((d, v) :: m) H w)
    (hd : Nat.blt d n = true := by rfl) (hnk : noKill i Hst = true := by rfl) : WK P n w0 F0 ops N Hst ((i, true) :: σ) m H w :=
  ⟨d, op, ty, pos, af, .none, v, hi, hd, hnk, .inl ⟨h, .inl rfl⟩, hk⟩
theorem wk_e (hi : ops[i]? = some ⟨some d, op, ty, pos, af, .none⟩) (h : Eff P n w0 F0 op ty m (resOf' Hst ++ H) w Φ)
    (hk : ∀ v H' w', Φ v H' → ∃ H'', H'.Perm (resOf' (kill i Hst) ++ H'') ∧ WK P n w0 F0 ops N (kill i Hst) σ ((d, v) :: m) H'' w')
    (hd : Nat.blt d n = true := by rfl) : WK P n w0 F0 ops N Hst ((i, false) :: σ) m H w :=
  ⟨some d, op, ty, pos, af, hi, hd, Φ, h, hk⟩
theorem wk_e0 (hi : ops[i]? = some ⟨.none, op, ty, pos, af, .none⟩) (h : Eff P n w0 F0 op ty m (resOf' Hst ++ H) w Φ)
    (hk : ∀ v H' w', Φ v H' → ∃ H'', H'.Perm (resOf' (kill i Hst) ++ H'') ∧ WK P n w0 F0 ops N (kill i Hst) σ m H'' w') : WK P n w0 F0 ops N Hst ((i, false) :: σ) m H w :=
  ⟨.none, op, ty, pos, af, hi, trivial, Φ, h, hk⟩
theorem wk_end (m' : Env) (hs : Sub m' m) (h : N m' (resOf' Hst ++ H) w) : WK P n w0 F0 ops N Hst [] m H w := ⟨m', _, hs, ⟨[], by simp⟩, h⟩
theorem wk_endp (m' : Env) (is : List Nat) {L E : List Res} (hs : Sub m' m) (hp : pick is (resOf' Hst ++ H) = some (L, E)) (h : N m' L w) : WK P n w0 F0 ops N Hst [] m H w := ⟨m', L, hs, ⟨E, pick_perm _ _ hp⟩, h⟩
end
end Go.Proofs.Ytkoklfagmbaapaa
