/- The proof kit, tenth part: regions that draw their order, where up to three changes may come in any order, and that change what they have read. -/
import Derived.Test.YtkoklfagmbaapaaK5
namespace Go.Proofs.Ytkoklfagmbaapaa
open Go.RowKit

inductive Ordk where
  | done
  | fl (i : Nat) (t : Ordk)
  | ef (i : Nat) (t : Ordk)
  | two (i : Nat) (t : Ordk) (j : Nat) (u : Ordk)
  | three (i : Nat) (t : Ordk) (j : Nat) (u : Ordk) (k : Nat) (v : Ordk)

def Ordk.height : Ordk → Nat
  | .done => 0
  | .fl _ t => t.height + 1
  | .ef _ t => t.height + 1
  | .two _ t _ u => max t.height u.height + 1
  | .three _ t _ u _ v => max (max t.height u.height) v.height + 1

def okK (ops : Array Oper) : Array Bool → Ordk → Bool
  | listed, .done => (Region.ready .any ops listed).isEmpty
  | listed, .fl i t => Region.free .any ops listed i && (Region.ready .any ops listed).contains i && okK ops (listed.setIfInBounds i true) t
  | listed, .ef i t => Region.ready .any ops listed == [i] && okK ops (listed.setIfInBounds i true) t
  | listed, .two i t j u => Region.ready .any ops listed == [i, j] && (okK ops (listed.setIfInBounds i true) t && okK ops (listed.setIfInBounds j true) u)
  | listed, .three i t j u k v => Region.ready .any ops listed == [i, j, k] && (okK ops (listed.setIfInBounds i true) t && (okK ops (listed.setIfInBounds j true) u && okK ops (listed.setIfInBounds k true) v))

/-- No float of the order is the number of an operation that ends a resource. -/
def flNoKill (Hst : List KRes) : Ordk → Bool
  | .done => true
  | .fl i t => noKill i Hst && flNoKill Hst t
  | .ef _ t => flNoKill Hst t
  | .two _ t _ u => flNoKill Hst t && flNoKill Hst u
  | .three _ t _ u _ v => flNoKill Hst t && (flNoKill Hst u && flNoKill Hst v)

section
variable {P : Program} {n : Nat} {w0 : World} {F0 : Nat → Prop} {N R : Cond} {X : Nat → Cond} {m : Env} {H : List Res} {w : World}
  {ops : Array Oper} {op : Op} {ty : TypeId} {pos : String} {af : Array Edge} {v : Value} {Φ : Value → List Res → Prop} {d : Nat}

def KStep (P : Program) (n : Nat) (w0 : World) (F0 : Nat → Prop) (ops : Array Oper) (Hst : List KRes) (i : Nat) (K : List KRes → Env → List Res → World → Prop) (m : Env) (H : List Res) (w : World) : Prop :=
  ∃ dst op ty pos af, ops[i]? = some ⟨dst, op, ty, pos, af, .none⟩ ∧ (match dst with | some d => Nat.blt d n = true | .none => True) ∧
    ∃ Φ, Eff P n w0 F0 op ty m (resOf' Hst ++ H) w Φ ∧
      ∀ v H' w', Φ v H' → ∃ H'', H'.Perm (resOf' (kill i Hst) ++ H'') ∧ K (kill i Hst) (match dst with | some d => (d, v) :: m | .none => m) H'' w'

def WX (P : Program) (n : Nat) (w0 : World) (F0 : Nat → Prop) (ops : Array Oper) (N : Cond) : Ordk → List KRes → Env → List Res → World → Prop
  | .done, Hst, m, H, w => ∃ m' L, Sub m' m ∧ (∃ E, (resOf' Hst ++ H).Perm (L ++ E)) ∧ N m' L w
  | .fl i t, Hst, m, H, w => ∃ d op ty pos af g v, ops[i]? = some ⟨some d, op, ty, pos, af, g⟩ ∧ Nat.blt d n = true ∧ noKill i Hst = true ∧
      ((Flt P n w0 F0 op ty m (readOk ops i Hst) v ∧ (g = .none ∨ ∃ j b t, g = some (j, b) ∧ (ops[j]?).bind (·.dst) = some t ∧ lk m t = some (.bool b))) ∨
       (v = undef ∧ ∃ j b t, g = some (j, b) ∧ (ops[j]?).bind (·.dst) = some t ∧ (lk m t = some (.bool !b) ∨ lk m t = some undef))) ∧
      WX P n w0 F0 ops N t Hst ((d, v) :: m) H w
  | .ef i t, Hst, m, H, w => KStep P n w0 F0 ops Hst i (WX P n w0 F0 ops N t) m H w
  | .two i t j u, Hst, m, H, w => KStep P n w0 F0 ops Hst i (WX P n w0 F0 ops N t) m H w ∧ KStep P n w0 F0 ops Hst j (WX P n w0 F0 ops N u) m H w
  | .three i t j u k x, Hst, m, H, w => KStep P n w0 F0 ops Hst i (WX P n w0 F0 ops N t) m H w ∧ KStep P n w0 F0 ops Hst j (WX P n w0 F0 ops N u) m H w ∧ KStep P n w0 F0 ops Hst k (WX P n w0 F0 ops N x) m H w

structure KInv (ops : Array Oper) (Hst0 Hst : List KRes) (listed : Array Bool) : Prop where
  size : listed.size = ops.size
  closed : Closed .any ops listed
  fits : ∀ l, Above listed l → l.size = ops.size → alive l Hst0 = alive l Hst
  un : ∀ r e, (r, some e) ∈ Hst → listed.getD e false = false

theorem noKill_mem {i : Nat} {r : Res} : ∀ L : List KRes, noKill i L = true → (r, some i) ∉ L
  | [], _ => by simp
  | (s, .none) :: L, h => by
    intro hm
    rcases List.mem_cons.1 hm with hm | hm
    · cases hm
    · exact noKill_mem L h hm
  | (s, some k) :: L, h => by
    intro hm
    simp only [noKill, Bool.and_eq_true, Bool.not_eq_true'] at h
    rcases List.mem_cons.1 hm with hm | hm
    · injection hm with _ hm; injection hm with hm; subst hm; simp at h
    · exact noKill_mem L h.2 hm

theorem KInv.fl {Hst0 Hst : List KRes} {listed : Array Bool} {i : Nat} (h : KInv ops Hst0 Hst listed) (hr : i ∈ Region.ready .any ops listed) (hn : noKill i Hst = true) : KInv ops Hst0 Hst (listed.setIfInBounds i true) := by
  refine ⟨by simpa using h.size, h.closed.step hr, fun l hl => h.fits l (fun j hj => hl j (above_set _ _ j hj)), fun r e hm => ?_⟩
  have hne : i ≠ e := by
    rintro rfl
    exact noKill_mem Hst hn hm
  rw [getD_set_ne false hne]
  exact h.un r e hm

theorem KInv.ef {Hst0 Hst : List KRes} {listed : Array Bool} {k : Nat} (h : KInv ops Hst0 Hst listed) (hr : k ∈ Region.ready .any ops listed) (hk : k < ops.size) : KInv ops Hst0 (kill k Hst) (listed.setIfInBounds k true) := by
  have hil : k < listed.size := by rw [h.size]; exact hk
  have hset : ∀ l : Array Bool, Above (listed.setIfInBounds k true) l → l.size = ops.size → l = l.setIfInBounds k true := by
    intro l hab hls
    have : l.getD k false = true := hab k (by simp [hil])
    apply Array.ext
    · simp
    · intro j h1 h2
      by_cases hjk : j = k
      · subst hjk
        have h3 : l[j]? = some l[j] := Array.getElem?_eq_getElem h1
        simp [h3] at this
        simp [this]
      · rw [Array.getElem_setIfInBounds_ne h1 (Ne.symm hjk)]
  refine ⟨by simpa using h.size, h.closed.step hr, fun l hab hls => ?_, fun r e hm => ?_⟩
  · rw [h.fits l (fun j hj => hab j (above_set _ _ j hj)) hls]
    rw [hset l hab hls, alive_kill (by rw [hls]; exact hk) Hst, ← hset l hab hls]
  · obtain ⟨h1, h2⟩ := kill_mem Hst r e hm
    rw [getD_set_ne false (Ne.symm h2)]
    exact h.un r e h1

theorem kstep_sound {Hst0 Hst : List KRes} {listed : Array Bool} {k : Nat} {K : List KRes → Env → List Res → World → Prop} {Q : Exit → Act → World → Prop} {a : Act} {fuel : Nat}
    (hinv : KInv ops Hst0 Hst listed) (hr : k ∈ Region.ready .any ops listed) (ha : Fr n m a) (hh : Holds w0 F0 (resOf' Hst ++ H) w) (h : KStep P n w0 F0 ops Hst k K m H w)
    (hk : ∀ m' H' a' w', KInv ops Hst0 (kill k Hst) (listed.setIfInBounds k true) → Fr n m' a' → Holds w0 F0 (resOf' (kill k Hst) ++ H') w' → K (kill k Hst) m' H' w' →
      wpAnyI P .any ops Q (fun l w' => l.size = ops.size ∧ ∃ H', Holds w0 F0 (alive l Hst0 ++ H') w') fuel (listed.setIfInBounds k true) a' w') :
    wpOp P ops Q k (fun a' w' => (fun l w' => l.size = ops.size ∧ ∃ H', Holds w0 F0 (alive l Hst0 ++ H') w') (listed.setIfInBounds k true) w' ∧
      wpAnyI P .any ops Q (fun l w' => l.size = ops.size ∧ ∃ H', Holds w0 F0 (alive l Hst0 ++ H') w') fuel (listed.setIfInBounds k true) a' w') a w := by
  obtain ⟨dst, op, ty, pos, af, hi, hdn, Φ, he, hk'⟩ := h
  have put : ∀ v, Fr n (match dst with | some d => (d, v) :: m | .none => m) (a.put dst v) := by
    intro v
    cases dst with
    | none => exact ha
    | some d => exact ha.put hdn v
  have hw : Region.wanted (⟨dst, op, ty, pos, af, .none⟩ : Oper) (yielded ops a.tmps) = true := rfl
  have hinv' := hinv.ef hr (Array.getElem?_eq_some_iff.1 hi).1
  unfold wpOp
  simp only [hi, hw, if_true]
  refine .inl (he _ a _ Q rfl rfl ha hh fun v H' w' hp hh' => ?_)
  obtain ⟨H'', hpm, hwd⟩ := hk' v H' w' hp
  have hh'' := hh'.perm hpm
  refine ⟨⟨hinv'.size, H'', ?_⟩, hk _ H'' _ w' hinv' (put v) hh'' hwd⟩
  rw [hinv'.fits _ (fun _ h => h) hinv'.size, alive_all _ hinv'.un]
  exact hh''

theorem wx_sound {Hst0 : List KRes} (hns : Region.noSelect ops = true) (Q : Exit → Act → World → Prop) (hpan : ∀ c a w, ¬ Q (.panic c) a w)
    (hQ : ∀ a' w', (∃ m' H', Fr n m' a' ∧ Holds w0 F0 H' w' ∧ N m' H' w') → Q .normal a' w') :
    ∀ (σ : Ordk) (fuel : Nat) (listed : Array Bool) (Hst : List KRes) (m : Env) (H : List Res) (a : Act) (w : World), σ.height ≤ fuel → okK ops listed σ = true →
      KInv ops Hst0 Hst listed → Fr n m a → Holds w0 F0 (resOf' Hst ++ H) w → WX P n w0 F0 ops N σ Hst m H w → flNoKill Hst0 σ = true →
      wpAnyI P .any ops Q (fun l w' => l.size = ops.size ∧ ∃ H', Holds w0 F0 (alive l Hst0 ++ H') w') fuel listed a w
  | .done, fuel, listed, Hst, m, H, a, w, _, hok, _, ha, hh, hd, _ => by
    obtain ⟨m', L, hs, ⟨E, hE⟩, hN⟩ := hd
    have hh := hh.pick hE
    simp only [okK, List.isEmpty_iff] at hok
    cases fuel with
    | zero => exact ⟨hok, hQ a w ⟨m', _, ha.sub hs, hh, hN⟩⟩
    | succ f => exact ⟨fun _ => hQ a w ⟨m', _, ha.sub hs, hh, hN⟩, by rw [hok]; simp⟩
  | .fl i σ, 0, _, _, _, _, _, _, hl, _, _, _, _, _, _ => by simp [Ordk.height] at hl
  | .ef i σ, 0, _, _, _, _, _, _, hl, _, _, _, _, _, _ => by simp [Ordk.height] at hl
  | .two .., 0, _, _, _, _, _, _, hl, _, _, _, _, _, _ => by simp [Ordk.height] at hl
  | .three .., 0, _, _, _, _, _, _, hl, _, _, _, _, _, _ => by simp [Ordk.height] at hl
  | .fl i σ, fuel + 1, listed, Hst, m, H, a, w, hl, hok, hinv, ha, hh, hd, hnk => by
    obtain ⟨d, op, ty, pos, af, g, v, hi, hdn, hnki, hv, hrest⟩ := hd
    simp only [okK, Bool.and_eq_true] at hok
    simp only [flNoKill, Bool.and_eq_true] at hnk
    have hready : i ∈ Region.ready .any ops listed := by simpa using hok.1.2
    refine wpAnyI_first hi (Region.noSelect_spec hns) (fun c a w h => (hpan _ _ _ h).elim) ?_ fuel listed a w (Region.free_spec hi hok.1.1) hready ?_ hinv.closed ⟨hinv.size, H, ?_⟩
      (wx_sound hns Q hpan hQ σ fuel _ Hst ((d, v) :: m) H _ w (by simpa [Ordk.height] using hl) hok.2 (hinv.fl hready hnki) (ha.put hdn v) hh hrest hnk.2)
    · intro l w'
      rw [alive_noKill Hst0 hnk.1]
      simp
    · rcases hv with ⟨hf, hg⟩ | ⟨rfl, j, b, t, rfl, hj, hlk⟩
      · refine .inl ⟨?_, fun l w' hab hil' hcl ⟨hlsz, H', hh'⟩ => hf _ a w' rfl rfl ha ?_⟩
        · rcases hg with rfl | ⟨j, b, t, rfl, hj, hlk⟩
          · rfl
          · simp [Region.wanted, yielded_of ha hj hlk]
        · rw [hinv.fits l hab hlsz] at hh'
          exact (hh'.drop_ (List.sublist_append_left _ _)).drop_ (alive_sub hcl hil' Hst)
      · refine .inr ⟨?_, rfl⟩
        rcases hlk with hlk | hlk
        · simp [Region.wanted, yielded_of ha hj hlk]
        · simp [Region.wanted, yielded_undef ha hj hlk]
    · rw [hinv.fits listed (fun _ h => h) hinv.size, alive_all Hst hinv.un]
      exact hh
  | .ef i σ, fuel + 1, listed, Hst, m, H, a, w, hl, hok, hinv, ha, hh, hd, hnk => by
    simp only [okK, Bool.and_eq_true, beq_iff_eq] at hok
    refine ⟨fun h0 => absurd (hok.1 ▸ h0) (by simp), fun k hk' => ?_⟩
    obtain rfl : k = i := by rw [hok.1] at hk'; simpa using hk'
    exact kstep_sound hinv hk' ha hh hd fun m' H' a' w' hi' ha' hh' hw => wx_sound hns Q hpan hQ σ fuel _ _ m' H' a' w' (by simpa [Ordk.height] using hl) hok.2 hi' ha' hh' hw hnk
  | .two i σ j τ, fuel + 1, listed, Hst, m, H, a, w, hl, hok, hinv, ha, hh, hd, hnk => by
    simp only [okK, Bool.and_eq_true, beq_iff_eq] at hok
    simp only [flNoKill, Bool.and_eq_true] at hnk
    simp only [Ordk.height] at hl
    refine ⟨fun h0 => absurd (hok.1 ▸ h0) (by simp), fun k hk' => ?_⟩
    have hk2 := hk'
    rw [hok.1] at hk2
    rcases List.mem_cons.1 hk2 with rfl | hk2
    · exact kstep_sound hinv hk' ha hh hd.1 fun m' H' a' w' hi' ha' hh' hw => wx_sound hns Q hpan hQ σ fuel _ _ m' H' a' w' (by omega) hok.2.1 hi' ha' hh' hw hnk.1
    · obtain rfl : k = j := by simpa using hk2
      exact kstep_sound hinv hk' ha hh hd.2 fun m' H' a' w' hi' ha' hh' hw => wx_sound hns Q hpan hQ τ fuel _ _ m' H' a' w' (by omega) hok.2.2 hi' ha' hh' hw hnk.2
  | .three i σ j τ l υ, fuel + 1, listed, Hst, m, H, a, w, hl, hok, hinv, ha, hh, hd, hnk => by
    simp only [okK, Bool.and_eq_true, beq_iff_eq] at hok
    simp only [flNoKill, Bool.and_eq_true] at hnk
    simp only [Ordk.height] at hl
    refine ⟨fun h0 => absurd (hok.1 ▸ h0) (by simp), fun k hk' => ?_⟩
    have hk2 := hk'
    rw [hok.1] at hk2
    rcases List.mem_cons.1 hk2 with rfl | hk2
    · exact kstep_sound hinv hk' ha hh hd.1 fun m' H' a' w' hi' ha' hh' hw => wx_sound hns Q hpan hQ σ fuel _ _ m' H' a' w' (by omega) hok.2.1 hi' ha' hh' hw hnk.1
    rcases List.mem_cons.1 hk2 with rfl | hk2
    · exact kstep_sound hinv hk' ha hh hd.2.1 fun m' H' a' w' hi' ha' hh' hw => wx_sound hns Q hpan hQ τ fuel _ _ m' H' a' w' (by omega) hok.2.2.1 hi' ha' hh' hw hnk.2.1
    · obtain rfl : k = l := by simpa using hk2
      exact kstep_sound hinv hk' ha hh hd.2.2 fun m' H' a' w' hi' ha' hh' hw => wx_sound hns Q hpan hQ υ fuel _ _ m' H' a' w' (by omega) hok.2.2.2 hi' ha' hh' hw hnk.2.2

theorem w_drawx {id : Nat} (σ : Ordk) (Hst : List KRes) (Hm : List Res) (hm : P.follows .mixedOrders = true) (hns : Region.noSelect ops = true)
    (hok : okK ops (Array.replicate ops.size false) σ = true) (hlen : Nat.ble σ.height ops.size = true) (hnk : flNoKill Hst σ = true) (hH : H.Perm (resOf' Hst ++ Hm))
    (h : ∀ w', WX P n w0 F0 ops N σ Hst m Hm w') :
    W P n w0 F0 (.region id ops true) N R X m H w := fun a ha hh => by
  have hh' := (hh.perm hH).drew
  refine wp_region_any hm (wpAny_of_I _ _ _ _ (wx_sound (Hst0 := Hst) hns _ (fun _ _ _ h => h) (fun _ _ hq => hq) σ _ _ Hst m Hm a _ (Nat.le_of_ble_eq_true hlen) hok ⟨by simp, ?_, fun _ _ _ => rfl, ?_⟩ ha hh' (h _) hnk))
  · intro j o _ hl
    simp only [Array.getD_eq_getD_getElem?, Array.getElem?_replicate] at hl
    split at hl <;> simp at hl
  · intro r e _
    simp only [Array.getD_eq_getD_getElem?, Array.getElem?_replicate]
    split <;> simp

variable {Hst : List KRes} {σ τ υ : Ordk} {i j l : Nat} {K : List KRes → Env → List Res → World → Prop}

theorem wx_f (hi : ops[i]? = some ⟨some d, op, ty, pos, af, .none⟩) (h : Flt P n w0 F0 op ty m (readOk ops i Hst) v) (hk : WX P n w0 F0 ops N σ Hst ((d, v) :: m) H w)
    (hd : Nat.blt d n = true := by rfl) (hnk : noKill i Hst = true := by rfl) : WX P n w0 F0 ops N (.fl i σ) Hst m H w :=
  ⟨d, op, ty, pos, af, .none, v, hi, hd, hnk, .inl ⟨h, .inl rfl⟩, hk⟩
theorem wx_gf {j t : Nat} {b : Bool} (hi : ops[i]? = some ⟨some d, op, ty, pos, af, some (j, b)⟩) (hj : (ops[j]?).bind (·.dst) = some t) (hl : lk m t = some (.bool b))
    (h : Flt P n w0 F0 op ty m (readOk ops i Hst) v) (hk : WX P n w0 F0 ops N σ Hst ((d, v) :: m) H w)
    (hd : Nat.blt d n = true := by rfl) (hnk : noKill i Hst = true := by rfl) : WX P n w0 F0 ops N (.fl i σ) Hst m H w :=
  ⟨d, op, ty, pos, af, _, v, hi, hd, hnk, .inl ⟨h, .inr ⟨j, b, t, rfl, hj, hl⟩⟩, hk⟩
theorem wx_ef (h : KStep P n w0 F0 ops Hst i (WX P n w0 F0 ops N σ) m H w) : WX P n w0 F0 ops N (.ef i σ) Hst m H w := h
theorem wx_two (h1 : KStep P n w0 F0 ops Hst i (WX P n w0 F0 ops N σ) m H w) (h2 : KStep P n w0 F0 ops Hst j (WX P n w0 F0 ops N τ) m H w) : WX P n w0 F0 ops N (.two i σ j τ) Hst m H w := ⟨h1, h2⟩
theorem wx_three (h1 : KStep P n w0 F0 ops Hst i (WX P n w0 F0 ops N σ) m H w) (h2 : KStep P n w0 F0 ops Hst j (WX P n w0 F0 ops N τ) m H w) (h3 : KStep P n w0 F0 ops Hst l (WX P n w0 F0 ops N υ) m H w) :
    WX P n w0 F0 ops N (.three i σ j τ l υ) Hst m H w := ⟨h1, h2, h3⟩
theorem ks_e (hi : ops[i]? = some ⟨some d, op, ty, pos, af, .none⟩) (h : Eff P n w0 F0 op ty m (resOf' Hst ++ H) w Φ)
    (hk : ∀ v H' w', Φ v H' → ∃ H'', H'.Perm (resOf' (kill i Hst) ++ H'') ∧ K (kill i Hst) ((d, v) :: m) H'' w')
    (hd : Nat.blt d n = true := by rfl) : KStep P n w0 F0 ops Hst i K m H w := ⟨some d, op, ty, pos, af, hi, hd, Φ, h, hk⟩
theorem ks_e0 (hi : ops[i]? = some ⟨.none, op, ty, pos, af, .none⟩) (h : Eff P n w0 F0 op ty m (resOf' Hst ++ H) w Φ)
    (hk : ∀ v H' w', Φ v H' → ∃ H'', H'.Perm (resOf' (kill i Hst) ++ H'') ∧ K (kill i Hst) m H'' w') : KStep P n w0 F0 ops Hst i K m H w := ⟨.none, op, ty, pos, af, hi, trivial, Φ, h, hk⟩
theorem wx_endp (m' : Env) (is : List Nat) {L E : List Res} (hs : Sub m' m) (hp : pick is (resOf' Hst ++ H) = some (L, E)) (h : N m' L w) : WX P n w0 F0 ops N .done Hst m H w := ⟨m', L, hs, ⟨E, pick_perm _ _ hp⟩, h⟩
end
end Go.Proofs.Ytkoklfagmbaapaa
