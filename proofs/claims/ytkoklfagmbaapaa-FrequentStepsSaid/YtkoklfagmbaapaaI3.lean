/- Tables: what they are, making one, where a key is. Two kinds of values. -/
import Derived.Test.YtkoklfagmbaapaaI2
namespace Go.Proofs.Ytkoklfagmbaapaa
open Go.RowKit

structure VI (α : Type) where
  map : TypeId
  cell : TypeId
  val : α → Value
  zero : α
def xU64 : VI Nat := ⟨86, 92, fun z => .int .u64 (z : Nat), 0⟩
theorem t84 : SlT Try.prog 84 92 3 32 (.agg #[.bool false, .string ByteArray.empty, .int .u64 0]) := .mk' Try.underlying84 (by kernel_rfl) rfl (by decide)

section
variable {α : Type} (K : VI α)
def icell : Option (ByteArray × α) → List Value
  | none => [.bool false, .string ByteArray.empty, K.val K.zero]
  | some x => [.bool true, .string x.1, K.val x.2]
def icells (cs : Cells α) : List Value := cs.flatMap (icell K)
theorem icell_len (o : Option (ByteArray × α)) : (icell K o).length = 3 := by cases o <;> rfl
theorem icells_len (cs : Cells α) : (icells K cs).length = cs.length * 3 := by
  induction cs with
  | nil => rfl
  | cons o cs ih => simp only [icells, List.flatMap_cons, List.length_append, icell_len, List.length_cons] at ih ⊢; omega
theorem icells_get {cs : Cells α} {i : Nat} {o : Option (ByteArray × α)} (h : cs[i]? = some o) : ((icells K cs).drop (0 + i * 3)).take 3 = icell K o := by
  obtain ⟨hi, rfl⟩ := List.getElem?_eq_some_iff.1 h
  have e : cs = cs.take i ++ cs[i] :: cs.drop (i + 1) := by rw [← List.drop_eq_getElem_cons hi, List.take_append_drop]
  have hl : (icells K (cs.take i)).length = i * 3 := by rw [icells_len, List.length_take]; omega
  have e2 : icells K cs = icells K (cs.take i) ++ (icell K cs[i] ++ icells K (cs.drop (i + 1))) := by
    conv => lhs; rw [e]
    simp only [icells, List.flatMap_append, List.flatMap_cons]
  rw [e2, Nat.zero_add, ← hl, List.drop_left, List.take_append_of_le_length (by rw [icell_len]; exact Nat.le_refl _), List.take_of_length_le (by rw [icell_len]; exact Nat.le_refl _)]
theorem icells_set {cs : Cells α} {i : Nat} (o : Option (ByteArray × α)) (hi : i < cs.length) : (icells K cs).take (0 + i * 3) ++ icell K o ++ (icells K cs).drop (0 + i * 3 + 3) = icells K (cs.set i o) := by
  have e : cs = cs.take i ++ cs[i] :: cs.drop (i + 1) := by rw [← List.drop_eq_getElem_cons hi, List.take_append_drop]
  have hl : (icells K (cs.take i)).length = i * 3 := by rw [icells_len, List.length_take]; omega
  have e2 : icells K cs = icells K (cs.take i) ++ (icell K cs[i] ++ icells K (cs.drop (i + 1))) := by
    conv => lhs; rw [e]
    simp only [icells, List.flatMap_append, List.flatMap_cons]
  have e3 : cs.set i o = cs.take i ++ o :: cs.drop (i + 1) := List.set_eq_take_append_cons_drop.trans (if_pos hi)
  have e4 : icells K (cs.set i o) = icells K (cs.take i) ++ (icell K o ++ icells K (cs.drop (i + 1))) := by
    rw [e3]; simp only [icells, List.flatMap_append, List.flatMap_cons]
  rw [e4, e2, Nat.zero_add, ← hl, List.take_left, List.append_assoc]
  congr 2
  rw [← List.append_assoc, show (icells K (cs.take i)).length + 3 = (icells K (cs.take i) ++ icell K cs[i]).length by rw [List.length_append, icell_len], List.drop_left]
theorem icells_j {cs : Cells α} {i : Nat} {o : Option (ByteArray × α)} (h : cs[i]? = some o) (j : Nat) {v : Value} (hj : (icell K o)[j]? = some v) (hj3 : j < 3) : (icells K cs)[0 + i * 3 + j]? = some v := by
  have h1 : (((icells K cs).drop (0 + i * 3)).take 3)[j]? = some v := by rw [icells_get K h]; exact hj
  rw [List.getElem?_take, if_pos hj3, List.getElem?_drop] at h1
  exact h1

def ims (b n N len : Nat) (T : List Nat) (seed : Int) (tV cV : Value) (cs : Cells α) : List Res :=
  [blk b [.int .i64 (n : Int), .int .i64 (len : Int), tV, .int .u64 seed, cV] K.map, row tV 33 1 16 (u64v T), row cV K.cell 3 N (icells K cs)]
/-- A table whose cells are known. -/
def TbC (b n N len : Nat) (T : List Nat) (seed : Int) (cs : Cells α) (r : Res) : Prop :=
  1 ≤ n ∧ n ≤ 8192 ∧ N = 2 * n ∧ T.length = 16 ∧ cs.length = N ∧ ∃ tV cV, r = bun (ims K b n N len T seed tV cV cs)
abbrev small (s : ByteArray) : Prop := s.size ≤ 140737488355328
/-- A table with its keys and values. -/
def TbR (b n : Nat) (T : List Nat) (seed : Int) (M : List (ByteArray × α)) (r : Res) : Prop :=
  ∃ N cs, TbC K b n N (ents cs).length T seed cs r ∧ TInv (hslot T seed N) N cs ∧ (ents cs).Perm M ∧ (ents cs).length ≤ n ∧ ∀ x ∈ ents cs, small x.1
end

theorem u64v_one (l : List Nat) : ∀ u ∈ u64v l, u.oneCell' = true := by
  intro u hu; simp only [u64v, List.mem_map] at hu; obtain ⟨b, _, rfl⟩ := hu; rfl
set_option maxHeartbeats 1000000 in
theorem clone_spec (T : List Nat) (tv : Value) (w : World) (hT : T.length = 16) (ht : Rd w Nil 1 tv 16 (u64v T)) :
    Spec Try.prog 47 [tv] w Nil fun u H => ∃ A c, u = .slice A 16 c ∧ H = [row (.slice A 16 c) 33 1 16 (u64v T)] := by
  obtain ⟨A1, c1, rfl, h2, hc1', g1⟩ := id ht
  obtain ⟨b1, o1, rfl, -, -, d1⟩ := g1.resolve_left (by omega)
  refine enter (n := 8) Try.func47 rfl rfl [(0, _)] rfl ⟨rfl, trivial⟩ (Holds.start _ _) ?_
  refine w_seq ?_
  refine w_reg ?_
  refine wl_f (f_assign rfl) ?_
  refine wl_end [(0, _)] ⟨rfl, trivial⟩ ?_
  refine w_seq ?_
  refine w_seq ?_
  refine w_reg ?_
  refine wl_f (f_move rfl) ?_
  refine wl_f (f_eqlslnil rfl rfl Try.underlying64) ?_
  refine wl_end [(0, _), (4, _)] ⟨rfl, rfl, trivial⟩ ?_
  refine w_iff rfl ?_
  refine w_skip ?_
  refine w_seq ?_
  refine w_reg ?_
  refine wl_e (e_lit0 t64) ?_
  rintro _ _ w3_0 ⟨b3_0, rfl, rfl⟩
  refine wl_f (f_move rfl) ?_
  refine wl_e (e_appS0 t64 rfl rfl (fun w hh => ht.old0 hh) (u64v_one _) (by omega) (by omega)) ?_
  rintro _ _ w3 ⟨⟨A3, c3, rfl⟩, rfl⟩
  refine wl_f (f_assign rfl) ?_
  refine wl_end [(2, _)] ⟨rfl, trivial⟩ ?_
  refine w_ret ?_
  refine ⟨_, _, fun a ha hh => results_tmps Try.results47 rfl a ha _, List.Sublist.refl _, ?_⟩
  exact ⟨_, _, rfl, rfl⟩

set_option maxHeartbeats 1000000 in
theorem uhome_spec (b n N len : Nat) (T : List Nat) (seed : Int) (cs : Cells _) (r : Res) (k : ByteArray) (w : World) (hk : small k) (hr : TbC xU64 b n N len T seed cs r) (hs : Holds w r.foot [r] w) :
    Spec Try.prog 53 [.pointer (some ⟨b, 0, .none⟩), .string k] w r.foot fun v H => v = .int .i64 (hslot T seed N k : Nat) ∧ H = [r] := by
  obtain ⟨hn1, hn2, rfl, hT, hcl, tV, cV, rfl⟩ := hr
  refine enter (n := 21) Try.func53 rfl rfl [(0, _), (1, _)] rfl ⟨rfl, rfl, trivial⟩ hs ?_
  refine w_with fun hh => ?_
  obtain ⟨C, cc, rfl⟩ := rowB_slice hh (i := 0) (j := 2) rfl rfl
  clear hh
  refine w_seq ?_
  refine w_reg ?_
  refine wl_f (f_assign rfl) ?_
  refine wl_end [(0, _), (1, _)] ⟨rfl, rfl, trivial⟩ ?_
  refine w_seq ?_
  refine w_draw [(0, true), (1, true), (2, true), (3, true), (4, true), (5, true), (6, true), (7, true), (8, true), (10, true), (11, true), (12, true), (13, true), (14, true), (9, false), (15, false), (16, true)] (_) ([]) mixed (by kernel_rfl) (by kernel_rfl) rfl (perm_all _) (fun w1_ => ?_)
  refine wd_f rfl (f_move rfl) ?_
  refine wd_f rfl (f_nilCheck rfl) ?_
  refine wd_f rfl (f_fieldAddr 2 rfl Try.underlying86 rfl rfl (by kernel_rfl)) ?_
  refine wd_f rfl (f_loadB 0 0 rfl rfl rfl Try.underlying64 rfl rfl) ?_
  refine wd_f rfl (f_move rfl) ?_
  refine wd_f rfl (f_nilCheck rfl) ?_
  refine wd_f rfl (f_fieldAddr 3 rfl Try.underlying86 rfl rfl (by kernel_rfl)) ?_
  refine wd_f rfl (f_loadB 0 0 rfl rfl rfl Try.underlying33 rfl rfl) ?_
  refine wd_f rfl (f_move rfl) ?_
  refine wd_f rfl (f_move rfl) ?_
  refine wd_f rfl (f_nilCheck rfl) ?_
  refine wd_f rfl (f_fieldAddr 4 rfl Try.underlying86 rfl rfl (by kernel_rfl)) ?_
  refine wd_f rfl (f_loadB 0 0 rfl rfl rfl Try.underlying84 rfl rfl) ?_
  refine wd_f rfl (f_len rfl Try.underlying84) ?_
  refine wd_e rfl (e_call0 rfl Try.func57 (by kernel_rfl) (fun w hh => hkey_spec T tV seed k w hT (Rd.heldB hh (i := 0) (j := 1) rfl rfl) hk)) ?_
  rintro _ _ w1 ⟨_, rfl, rfl, rfl⟩
  refine ⟨_, List.perm_append_comm_assoc _ _ _, ?_⟩
  refine wd_e rfl (e_call0 rfl Try.func56 (by kernel_rfl) (fun w hh => slot_spec (hkey T seed k) (2 * n) w (hkey_rng T seed k) (by omega))) ?_
  rintro _ _ w2 ⟨_, rfl, rfl, rfl⟩
  refine ⟨_, List.perm_append_comm_assoc _ _ _, ?_⟩
  refine wd_f rfl (f_assign rfl) ?_
  refine wd_end [(4, _)] ⟨rfl, trivial⟩ ?_
  refine w_ret ?_
  refine ⟨_, _, fun a ha hh => results_tmps Try.results53 rfl a ha _, List.Sublist.refl _, ?_⟩
  exact ⟨rfl, rfl⟩

/-- Where a search ends. -/
def FindG {α : Type} (hf : ByteArray → Nat) (N : Nat) (cs : Cells α) (k : ByteArray) (v : Value) : Prop :=
  ∃ i < N, (cs[adv N (hf k) i]? = some none ∧ v = .tuple #[.int .i64 (adv N (hf k) i : Nat), .bool false] ∧ (∀ j < i, ∀ y, cs[adv N (hf k) j]? ≠ some (some (k, y))) ∧ ∀ j < i, Occ cs (adv N (hf k) j)) ∨
    ∃ y, cs[adv N (hf k) i]? = some (some (k, y)) ∧ v = .tuple #[.int .i64 (adv N (hf k) i : Nat), .bool true]

set_option maxHeartbeats 2000000 in
theorem ufind_spec (b n N len : Nat) (T : List Nat) (seed : Int) (cs : Cells _) (r : Res) (k : ByteArray) (w : World) (hk : small k) (hfree : (ents cs).length < N) (hr : TbC xU64 b n N len T seed cs r) (hs : Holds w r.foot [r] w) :
    Spec Try.prog 50 [.pointer (some ⟨b, 0, .none⟩), .string k] w r.foot fun v H => FindG (hslot T seed N) N cs k v ∧ H = [r] := by
  obtain ⟨hn1, hn2, hN, hT, hcl, tV, cV, rfl⟩ := id hr
  obtain ⟨e, heN, he⟩ := free_place (by rw [hcl]; exact hfree)
  rw [hcl] at heN
  have hh0 : hslot T seed N k < N := hslot_lt T seed (by omega) k
  have hde := adv_dst hh0 heN
  have hdl := dst_lt hh0 heN
  generalize hD : dst N (hslot T seed N k) e = D at hde hdl
  refine enter (n := 38) Try.func50 rfl rfl [(0, _), (1, _)] rfl ⟨rfl, rfl, trivial⟩ hs ?_
  refine w_seq ?_
  refine w_reg ?_
  refine wl_f (f_assign rfl) ?_
  refine wl_f (f_assign rfl) ?_
  refine wl_end [(0, _), (1, _)] ⟨rfl, rfl, trivial⟩ ?_
  refine w_seq ?_
  refine w_reg ?_
  refine wl_f (f_move rfl) ?_
  refine wl_f (f_move rfl) ?_
  refine wl_e (e_call1 _ [] rfl Try.func53 (by kernel_rfl) (List.Perm.refl _) (fun w hh hs' => uhome_spec b n N len T seed cs _ k w hk hr hs')) ?_
  rintro _ _ w1 ⟨_, rfl, rfl, rfl⟩
  generalize hhk : hslot T seed N k = h at hh0 hde
  refine wl_f (f_assign rfl) ?_
  refine wl_end [(0, _), (1, _), (6, _)] ⟨rfl, rfl, rfl, trivial⟩ ?_
  refine w_seq ?_
  refine w_block ?_
  refine w_with fun hh => ?_
  obtain ⟨g, cc, e2⟩ := rowB_form hh (i := 0) (j := 2) rfl rfl (by omega)
  clear hh
  subst e2
  refine w_loop (fun kk m H w => ∃ i : Nat, m = [(0, .pointer (some ⟨b, 0, .none⟩)), (1, .string k), (6, .int .i64 (adv N h i : Nat))] ∧ H = [bun (ims xU64 b n N len T seed tV (.slice (some ⟨g, 0, .none⟩) N cc) cs)] ∧ kk + i = D ∧
    (∀ j < i, ∀ y, cs[adv N h j]? ≠ some (some (k, y))) ∧ ∀ j < i, Occ cs (adv N h j)) D
    ⟨0, by rw [adv_zero hh0], rfl, rfl, by omega, by omega⟩ ?_
  rintro kk _ _ w2 ⟨i, rfl, rfl, hkk, hne, hoc⟩
  have hpN := adv_lt hh0 (show i < N by omega)
  obtain ⟨o, ho⟩ : ∃ o, cs[adv N h i]? = some o := ⟨_, List.getElem?_eq_getElem (by omega)⟩
  refine w_seq ?_
  refine w_seq ?_
  refine w_reg ?_
  refine wl_f (f_move rfl) ?_
  refine wl_f (f_nilCheck rfl) ?_
  refine wl_f (f_fieldAddr 4 rfl Try.underlying86 rfl rfl (by kernel_rfl)) ?_
  refine wl_f (f_loadB 0 0 rfl rfl rfl Try.underlying84 rfl rfl) ?_
  refine wl_f (f_move rfl) ?_
  refine wl_f (f_indexAddr 3 (i := adv N h i) rfl rfl Try.underlying84 (by kernel_rfl) rfl hpN) ?_
  refine wl_f (f_fieldAddr 0 rfl Try.underlying92 rfl rfl (by kernel_rfl)) ?_
  refine wl_f (f_loadBr (v := .bool o.isSome) 0 2 rfl rfl rfl Try.underlying4 rfl (icells_j xU64 ho 0 (by cases o <;> rfl) (by omega))) ?_
  refine wl_end [(0, _), (1, _), (6, _), (17, _)] ⟨rfl, rfl, rfl, rfl, trivial⟩ ?_
  refine w_ifb rfl (fun hc1 => ?_) (fun hc1 => ?_)
  · skip
    obtain ⟨x, rfl⟩ : ∃ x, o = some x := Option.isSome_iff_exists.1 hc1
    have hiD : i ≠ D := fun e => by rw [e, hde, he] at ho; cases ho
    refine w_skip ?_
    refine w_block ?_
    refine w_seq ?_
    refine w_seq ?_
    refine w_reg ?_
    refine wl_f (f_move rfl) ?_
    refine wl_f (f_nilCheck rfl) ?_
    refine wl_f (f_fieldAddr 4 rfl Try.underlying86 rfl rfl (by kernel_rfl)) ?_
    refine wl_f (f_loadB 0 0 rfl rfl rfl Try.underlying84 rfl rfl) ?_
    refine wl_f (f_move rfl) ?_
    refine wl_f (f_indexAddr 3 (i := adv N h i) rfl rfl Try.underlying84 (by kernel_rfl) rfl hpN) ?_
    refine wl_f (f_fieldAddr 1 rfl Try.underlying92 rfl rfl (by kernel_rfl)) ?_
    refine wl_f (f_loadBr (v := .string x.1) 0 2 rfl rfl rfl Try.underlying9 rfl (icells_j xU64 ho 1 rfl (by omega))) ?_
    refine wl_f (f_move rfl) ?_
    refine wl_f (f_eqls rfl rfl) ?_
    refine wl_end [(0, _), (1, _), (6, _), (27, _)] ⟨rfl, rfl, rfl, rfl, trivial⟩ ?_
    refine w_ifd rfl (fun hc2 => ?_) (fun hc2 => ?_)
    · skip
      obtain ⟨xk, xv⟩ := x
      obtain rfl : xk = k := hc2
      refine w_seq ?_
      refine w_reg ?_
      refine wl_f (f_move rfl) ?_
      refine wl_f (f_assign rfl) ?_
      refine wl_f (f_assign rfl) ?_
      refine wl_end [(4, _), (5, _)] ⟨rfl, rfl, trivial⟩ ?_
      refine w_ret ?_
      refine ⟨_, _, fun a ha hh => results_tmps Try.results50 rfl a ha _, List.Sublist.refl _, ?_⟩
      subst hhk
      exact ⟨⟨i, by omega, .inr ⟨xv, ho, rfl⟩⟩, rfl⟩
    · skip
      refine w_skip ?_
      refine w_reg ?_
      refine wl_f (f_move rfl) ?_
      refine wl_f (f_add rfl rfl (by omega)) ?_
      refine wl_f (f_move rfl) ?_
      refine wl_f (f_nilCheck rfl) ?_
      refine wl_f (f_fieldAddr 4 rfl Try.underlying86 rfl rfl (by kernel_rfl)) ?_
      refine wl_f (f_loadB 0 0 rfl rfl rfl Try.underlying84 rfl rfl) ?_
      refine wl_f (f_len rfl Try.underlying84) ?_
      refine wl_f (f_eqv (v' := .int .i64 (adv N h (i + 1) : Nat)) (f_rem rfl rfl (by omega)) (by rw [adv_int hpN (by omega), adv_adv hh0 (by omega)])) ?_
      refine wl_f (f_assign rfl) ?_
      refine wl_end [(0, _), (1, _), (6, _)] ⟨rfl, rfl, rfl, trivial⟩ ?_
      refine ⟨kk - 1, by omega, i + 1, rfl, rfl, by omega, fun j hj y => ?_, fun j hj => ?_⟩
      · rcases Nat.lt_or_eq_of_le (Nat.le_of_lt_succ hj) with h | rfl
        · exact hne j h y
        · intro e; rw [ho] at e; injection e with e; injection e with e; subst e; exact hc2 rfl
      · rcases Nat.lt_or_eq_of_le (Nat.le_of_lt_succ hj) with h | rfl
        · exact hoc j h
        · exact ⟨x, ho⟩
  · skip
    obtain rfl : o = none := by
      cases o with
      | none => rfl
      | some x => exact absurd rfl hc1
    refine w_exit0 ?_
    refine w_seq ?_
    refine w_reg ?_
    refine wl_f (f_move rfl) ?_
    refine wl_f (f_assign rfl) ?_
    refine wl_f (f_assign rfl) ?_
    refine wl_end [(4, _), (5, _)] ⟨rfl, rfl, trivial⟩ ?_
    refine w_ret ?_
    refine ⟨_, _, fun a ha hh => results_tmps Try.results50 rfl a ha _, List.Sublist.refl _, ?_⟩
    subst hhk
    exact ⟨⟨i, by omega, .inl ⟨ho, rfl, hne, hoc⟩⟩, rfl⟩
end Go.Proofs.Ytkoklfagmbaapaa
