/- Tables: what is done to keys and values; putting, getting, counting. -/
import Derived.Test.YtkoklfagmbaapaaI4
namespace Go.Proofs.Ytkoklfagmbaapaa
open Go.RowKit

section
variable {α : Type}
def mdel (M : List (ByteArray × α)) (k : ByteArray) : List (ByteArray × α) := M.filter fun x => !decide (x.1 = k)
def mget (M : List (ByteArray × α)) (k : ByteArray) : Option α := (M.find? fun x => decide (x.1 = k)).map Prod.snd
def mput (n : Nat) (M : List (ByteArray × α)) (k : ByteArray) (v : α) : Int × List (ByteArray × α) := if (mget M k).isNone = true ∧ M.length = n then (7, M) else (0, (k, v) :: mdel M k)
theorem mem_keys {M : List (ByteArray × α)} {k : ByteArray} : k ∈ keys M ↔ ∃ v, (k, v) ∈ M := by simp [keys]
theorem mdel_self (M : List (ByteArray × α)) (k : ByteArray) (v : α) : mdel ((k, v) :: M) k = mdel M k := by simp [mdel]
theorem mdel_none {M : List (ByteArray × α)} {k : ByteArray} (h : k ∉ keys M) : mdel M k = M := by
  refine List.filter_eq_self.2 fun x hx => ?_
  have : x.1 ≠ k := fun e => h (mem_keys.2 ⟨x.2, by rw [← e]; exact hx⟩)
  simp [this]
theorem mdel_perm {M M' : List (ByteArray × α)} (h : M.Perm M') (k : ByteArray) : (mdel M k).Perm (mdel M' k) := h.filter _
theorem mdel_not (M : List (ByteArray × α)) (k : ByteArray) : k ∉ keys (mdel M k) := by
  rw [mem_keys]; rintro ⟨v, hv⟩; simp [mdel] at hv
theorem mdel_nd {M : List (ByteArray × α)} (h : (keys M).Nodup) (k : ByteArray) : (keys (mdel M k)).Nodup := h.sublist (List.filter_sublist.map _)
theorem mget_some {M : List (ByteArray × α)} {k : ByteArray} {v : α} (hnd : (keys M).Nodup) (h : (k, v) ∈ M) : mget M k = some v := by
  induction M with
  | nil => cases h
  | cons x M ih =>
    simp only [keys, List.map_cons, List.nodup_cons] at hnd
    rcases List.mem_cons.1 h with rfl | h
    · simp [mget]
    · have : x.1 ≠ k := fun e => hnd.1 (by rw [e]; exact mem_keys.2 ⟨v, h⟩)
      simp only [mget, List.find?_cons, decide_eq_false this] at ih ⊢
      exact ih hnd.2 h
theorem mget_none {M : List (ByteArray × α)} {k : ByteArray} (h : k ∉ keys M) : mget M k = none := by
  rw [mget, List.find?_eq_none.2 fun x hx => ?_]
  · rfl
  · have : x.1 ≠ k := fun e => h (mem_keys.2 ⟨x.2, by rw [← e]; exact hx⟩)
    simp [this]
theorem mget_in {M : List (ByteArray × α)} {k : ByteArray} (h : k ∈ keys M) : (mget M k).isNone = false := by
  obtain ⟨v, hv⟩ := mem_keys.1 h
  cases e : M.find? (fun x => decide (x.1 = k)) with
  | none => exact absurd (List.find?_eq_none.1 e (k, v) hv) (by simp)
  | some x => simp [mget, e]
theorem mput_over {n : Nat} {M : List (ByteArray × α)} {k : ByteArray} {v : α} (h : k ∈ keys M) : mput n M k v = (0, (k, v) :: mdel M k) := if_neg fun h' => by rw [mget_in h] at h'; exact absurd h'.1 (by decide)
theorem mput_full {n : Nat} {M : List (ByteArray × α)} {k : ByteArray} {v : α} (h : k ∉ keys M) (hn : M.length = n) : mput n M k v = (7, M) := if_pos ⟨by rw [mget_none h]; rfl, hn⟩
theorem mput_new {n : Nat} {M : List (ByteArray × α)} {k : ByteArray} {v : α} (h : k ∉ keys M) (hn : M.length ≠ n) : mput n M k v = (0, (k, v) :: M) := by
  rw [mput, if_neg fun h' => hn h'.2, mdel_none h]

/-- A search, split by its end. -/
theorem FindG.form {hf : ByteArray → Nat} {N : Nat} {cs : Cells α} {k : ByteArray} {v : Value} (h : FindG hf N cs k v) (hN : cs.length = N) (hk : hf k < N) :
    ∃ (p : Nat) (ok : Bool), v = .tuple [.int .i64 (p : Int), .bool ok].toArray ∧ p < N ∧ (ok = true → ∃ y, cs[p]? = some (some (k, y))) ∧
      (ok = false → ∃ i < N, p = adv N (hf k) i ∧ cs[p]? = some none ∧ (∀ j < i, ∀ y, cs[adv N (hf k) j]? ≠ some (some (k, y))) ∧ ∀ j < i, Occ cs (adv N (hf k) j)) := by
  obtain ⟨i, hi, ⟨h1, rfl, h2, h3⟩ | ⟨y, h1, rfl⟩⟩ := h
  · exact ⟨_, false, rfl, adv_lt hk hi, fun e => (by cases e), fun _ => ⟨i, hi, rfl, h1, h2, h3⟩⟩
  · exact ⟨_, true, rfl, adv_lt hk hi, fun _ => ⟨y, h1⟩, fun e => (by cases e)⟩
variable {cs : Cells α} {p : Nat} {k : ByteArray} {v y : α} {M : List (ByteArray × α)}
theorem at_mem (h : cs[p]? = some (some (k, y))) (hM : (ents cs).Perm M) : (k, y) ∈ M := hM.mem_iff.1 (mem_ents.2 ⟨p, h⟩)
theorem keys_in (hM : (ents cs).Perm M) {k : ByteArray} : k ∈ keys M ↔ k ∈ keys (ents cs) := (keys_perm hM).mem_iff.symm
/-- The rest, when one is out. -/
theorem rest_perm (hnd : (keys (ents cs)).Nodup) (h : cs[p]? = some (some (k, y))) (hM : (ents cs).Perm M) : (ents (cs.set p none)).Perm (mdel M k) := by
  have h1 := ents_set_none h
  have h2 : k ∉ keys (ents (cs.set p none)) := (List.nodup_cons.1 ((keys_perm h1).nodup_iff.1 hnd)).1
  have h3 := mdel_perm (hM.symm.trans h1) k
  rw [mdel_self, mdel_none h2] at h3
  exact h3.symm
end

theorem build_ucell (k : ByteArray) (v : Nat) (w : World) : (Instr.build 92 [(0, .bool true), (1, .string k), (2, xU64.val v)].toArray).run Try.prog w = .ok (.agg [.bool true, .string k, xU64.val v].toArray) w := by kernel_rfl
theorem uxlen_spec (b n : Nat) (T : List Nat) (seed : Int) (M : List (ByteArray × Nat)) (r : Res) (w : World) (hr : TbR xU64 b n T seed M r) (hs : Holds w r.foot [r] w) :
    Spec Try.prog 35 [.pointer (some ⟨b, 0, .none⟩)] w r.foot fun v H => v = .int .i64 (M.length : Int) ∧ H = [r] := by
  obtain ⟨N, cs, ⟨hn1, hn2, hN, hT, hcl, tV, cV, rfl⟩, hI, hM, hle, hsm⟩ := hr
  refine enter (n := 9) Try.func35 rfl rfl [(0, _)] rfl ⟨rfl, trivial⟩ hs ?_
  refine w_seq ?_
  refine w_reg ?_
  refine wl_f (f_assign rfl) ?_
  refine wl_end [(0, _)] ⟨rfl, trivial⟩ ?_
  refine w_seq ?_
  refine w_seq ?_
  refine w_reg ?_
  refine wl_f (f_move rfl) ?_
  refine wl_f (f_eqlnil rfl rfl Try.underlying61) ?_
  refine wl_end [(0, _), (4, _)] ⟨rfl, rfl, trivial⟩ ?_
  refine w_iff rfl ?_
  refine w_skip ?_
  refine w_seq ?_
  refine w_reg ?_
  refine wl_f (f_move rfl) ?_
  refine wl_f (f_nilCheck rfl) ?_
  refine wl_f (f_fieldAddr 1 rfl Try.underlying86 rfl rfl (by kernel_rfl)) ?_
  refine wl_f (f_loadB 0 0 rfl rfl rfl Try.underlying3 rfl rfl) ?_
  refine wl_f (f_assign rfl) ?_
  refine wl_end [(2, _)] ⟨rfl, trivial⟩ ?_
  refine w_ret ?_
  refine ⟨_, _, fun a ha hh => results_tmps Try.results35 rfl a ha _, List.Sublist.refl _, ?_⟩
  rw [← hM.length_eq]; exact ⟨rfl, rfl⟩
set_option maxHeartbeats 1000000 in
theorem uxget_spec (b n : Nat) (T : List Nat) (seed : Int) (M : List (ByteArray × Nat)) (r : Res) (k : ByteArray) (w : World) (hk : small k) (hr : TbR xU64 b n T seed M r) (hs : Holds w r.foot [r] w) :
    Spec Try.prog 34 [.pointer (some ⟨b, 0, .none⟩), .string k] w r.foot fun v H => v = .tuple #[xU64.val ((mget M k).getD xU64.zero), .bool (mget M k).isSome] ∧ H = [r] := by
  obtain ⟨N, cs, hC, hI, hM, hle, hsm⟩ := hr
  obtain ⟨hn1, hn2, hN, hT, hcl, tV, cV, rfl⟩ := id hC
  have hh0 : hslot T seed N k < N := hslot_lt T seed (by omega) k
  refine enter (n := 29) Try.func34 rfl rfl [(0, _), (1, _)] rfl ⟨rfl, rfl, trivial⟩ hs ?_
  refine w_seq ?_
  refine w_reg ?_
  refine wl_f (f_assign rfl) ?_
  refine wl_f (f_assign rfl) ?_
  refine wl_end [(0, _), (1, _)] ⟨rfl, rfl, trivial⟩ ?_
  refine w_seq ?_
  refine w_reg ?_
  refine wl_f (f_assign rfl) ?_
  refine wl_end [(0, _), (1, _), (6, _)] ⟨rfl, rfl, rfl, trivial⟩ ?_
  refine w_seq ?_
  refine w_seq ?_
  refine w_reg ?_
  refine wl_f (f_move rfl) ?_
  refine wl_f (f_eqlnil rfl rfl Try.underlying61) ?_
  refine wl_end [(0, _), (1, _), (6, _), (10, _)] ⟨rfl, rfl, rfl, rfl, trivial⟩ ?_
  refine w_iff rfl ?_
  refine w_skip ?_
  refine w_seq ?_
  refine w_reg ?_
  refine wl_f (f_move rfl) ?_
  refine wl_f (f_move rfl) ?_
  refine wl_e (e_call1 _ [] rfl Try.func50 (by kernel_rfl) (List.Perm.refl _) (fun w hh hs' => ufind_spec b n N _ T seed cs _ k w hk (by omega) hC hs')) ?_
  rintro _ _ w4 ⟨_, rfl, hf, rfl⟩
  obtain ⟨p, ok, rfl, hp, hok, hno⟩ := hf.form hcl hh0
  refine wl_f (f_move rfl) ?_
  refine wl_f (f_extract rfl rfl) ?_
  refine wl_f (f_extract rfl rfl) ?_
  refine wl_f (f_assign rfl) ?_
  refine wl_f (f_assign rfl) ?_
  refine wl_end [(0, _), (6, _), (7, _), (8, _)] ⟨rfl, rfl, rfl, rfl, trivial⟩ ?_
  refine w_seq ?_
  refine w_seq ?_
  refine w_reg ?_
  refine wl_f (f_move rfl) ?_
  refine wl_f (f_not rfl rfl) ?_
  refine wl_end [(0, _), (6, _), (7, _), (19, _)] ⟨rfl, rfl, rfl, rfl, trivial⟩ ?_
  refine w_ifb rfl (fun hc2 => ?_) (fun hc2 => ?_)
  · skip
    obtain ⟨i, hi, rfl, he, h1, h2⟩ := hno (by simpa using hc2)
    have hab := hI.absent hh0 hi he h1
    refine w_seq ?_
    refine w_reg ?_
    refine wl_f (f_move rfl) ?_
    refine wl_f (f_assign rfl) ?_
    refine wl_f (f_assign rfl) ?_
    refine wl_end [(4, _), (5, _)] ⟨rfl, rfl, trivial⟩ ?_
    refine w_ret ?_
    refine ⟨_, _, fun a ha hh => results_tmps Try.results34 rfl a ha _, List.Sublist.refl _, ?_⟩
    rw [mget_none (fun h => hab ((keys_in hM).1 h))]; exact ⟨rfl, rfl⟩
  · skip
    obtain ⟨y, hy⟩ := hok (by simpa using hc2)
    have hnd : (keys M).Nodup := (keys_perm hM).nodup_iff.1 hI.nd
    have hg := mget_some hnd (at_mem hy hM)
    refine w_with fun hh => ?_
    obtain ⟨g, cc, e2⟩ := rowB_form hh (i := 0) (j := 2) rfl rfl (by omega)
    subst e2
    clear hh
    refine w_skip ?_
    refine w_seq ?_
    refine w_reg ?_
    refine wl_f (f_move rfl) ?_
    refine wl_f (f_nilCheck rfl) ?_
    refine wl_f (f_fieldAddr 4 rfl Try.underlying86 rfl rfl (by kernel_rfl)) ?_
    refine wl_f (f_loadB 0 0 rfl rfl rfl Try.underlying84 rfl rfl) ?_
    refine wl_f (f_move rfl) ?_
    refine wl_f (f_indexAddr 3 (i := p) rfl rfl Try.underlying84 (by kernel_rfl) rfl hp) ?_
    refine wl_f (f_fieldAddr 2 rfl Try.underlying92 rfl rfl (by kernel_rfl)) ?_
    refine wl_f (f_loadBr (v := xU64.val y) 0 2 rfl rfl rfl Try.underlying33 rfl (icells_j xU64 hy 2 rfl (by omega))) ?_
    refine wl_f (f_assign rfl) ?_
    refine wl_f (f_assign rfl) ?_
    refine wl_end [(4, _), (5, _)] ⟨rfl, rfl, trivial⟩ ?_
    refine w_ret ?_
    refine ⟨_, _, fun a ha hh => results_tmps Try.results34 rfl a ha _, List.Sublist.refl _, ?_⟩
    rw [hg]; exact ⟨rfl, rfl⟩
set_option maxHeartbeats 2000000 in
theorem uxput_spec (b n : Nat) (T : List Nat) (seed : Int) (M : List (ByteArray × Nat)) (r : Res) (k : ByteArray) (v : Nat) (w : World) (hk : small k) (hr : TbR xU64 b n T seed M r) (hs : Holds w r.foot [r] w) :
    Spec Try.prog 36 [.pointer (some ⟨b, 0, .none⟩), .string k, xU64.val v] w r.foot fun u H => u = .int .i64 (mput n M k v).1 ∧ ∃ r', H = [r'] ∧ TbR xU64 b n T seed (mput n M k v).2 r' := by
  have hr0 := hr
  obtain ⟨N, cs, hC, hI, hM, hle, hsm⟩ := hr
  obtain ⟨hn1, hn2, hN, hT, hcl, tV, cV, rfl⟩ := id hC
  have hh0 : hslot T seed N k < N := hslot_lt T seed (by omega) k
  refine enter (n := 44) Try.func36 rfl rfl [(0, _), (1, _), (2, _)] rfl ⟨rfl, rfl, rfl, trivial⟩ hs ?_
  refine w_seq ?_
  refine w_reg ?_
  refine wl_f (f_assign rfl) ?_
  refine wl_end [(0, _), (1, _), (2, _)] ⟨rfl, rfl, rfl, trivial⟩ ?_
  refine w_seq ?_
  refine w_seq ?_
  refine w_reg ?_
  refine wl_f (f_move rfl) ?_
  refine wl_f (f_eqlnil rfl rfl Try.underlying61) ?_
  refine wl_end [(0, _), (1, _), (2, _), (10, _)] ⟨rfl, rfl, rfl, rfl, trivial⟩ ?_
  refine w_iff rfl ?_
  refine w_skip ?_
  refine w_seq ?_
  refine w_reg ?_
  refine wl_f (f_move rfl) ?_
  refine wl_f (f_move rfl) ?_
  refine wl_e (e_call1 _ [] rfl Try.func50 (by kernel_rfl) (List.Perm.refl _) (fun w hh hs' => ufind_spec b n N _ T seed cs _ k w hk (by omega) hC hs')) ?_
  rintro _ _ w4 ⟨_, rfl, hf, rfl⟩
  obtain ⟨p, ok, rfl, hp, hok, hno⟩ := hf.form hcl hh0
  refine wl_f (f_move rfl) ?_
  refine wl_f (f_extract rfl rfl) ?_
  refine wl_f (f_extract rfl rfl) ?_
  refine wl_f (f_assign rfl) ?_
  refine wl_f (f_assign rfl) ?_
  refine wl_end [(0, _), (1, _), (2, _), (7, _), (8, _)] ⟨rfl, rfl, rfl, rfl, rfl, trivial⟩ ?_
  refine w_seq ?_
  refine w_seq ?_
  refine w_reg ?_
  refine wl_f (f_move rfl) ?_
  refine wl_f (f_not rfl rfl) ?_
  refine wl_end [(0, _), (1, _), (2, _), (7, _), (18, _)] ⟨rfl, rfl, rfl, rfl, rfl, trivial⟩ ?_
  refine w_post (fun m H w' => ∃ len' : Nat, m = [(0, .pointer (some ⟨b, 0, .none⟩)), (1, .string k), (2, xU64.val v), (7, .int .i64 p)] ∧ H = [bun (ims xU64 b n N len' T seed tV cV cs)] ∧ len' = (ents (cs.set p (some (k, v)))).length ∧ TInv (hslot T seed N) N (cs.set p (some (k, v))) ∧
    (ents (cs.set p (some (k, v)))).Perm (mput n M k v).2 ∧ len' ≤ n ∧ (mput n M k v).1 = 0 ∧ ∀ x ∈ ents (cs.set p (some (k, v))), small x.1) ?_ ?_
  · skip
    refine w_ifb rfl (fun hc2 => ?_) (fun hc2 => ?_)
    · skip
      obtain ⟨i, hi, rfl, he, h1, h2⟩ := hno (by simpa using hc2)
      have hab := hI.absent hh0 hi he h1
      have hab' : k ∉ keys M := fun h => hab ((keys_in hM).1 h)
      have hl : M.length = (ents cs).length := hM.length_eq.symm
      refine w_seq ?_
      refine w_seq ?_
      refine w_draw [(0, true), (1, true), (2, true), (3, true), (4, true), (5, true), (6, true), (7, true), (8, true)] (_) ([]) mixed (by kernel_rfl) (by kernel_rfl) rfl (perm_all _) (fun w5_ => ?_)
      refine wd_f rfl (f_move rfl) ?_
      refine wd_f rfl (f_nilCheck rfl) ?_
      refine wd_f rfl (f_fieldAddr 1 rfl Try.underlying86 rfl rfl (by kernel_rfl)) ?_
      refine wd_f rfl (f_loadB 0 0 rfl rfl rfl Try.underlying3 rfl rfl) ?_
      refine wd_f rfl (f_move rfl) ?_
      refine wd_f rfl (f_nilCheck rfl) ?_
      refine wd_f rfl (f_fieldAddr 0 rfl Try.underlying86 rfl rfl (by kernel_rfl)) ?_
      refine wd_f rfl (f_loadB 0 0 rfl rfl rfl Try.underlying3 rfl rfl) ?_
      refine wd_f rfl (f_eql rfl rfl) ?_
      refine wd_end [(0, _), (1, _), (2, _), (7, _), (27, _)] ⟨rfl, rfl, rfl, rfl, rfl, trivial⟩ ?_
      refine w_ifd rfl (fun hc3 => ?_) (fun hc3 => ?_)
      · skip
        have hfull : M.length = n := by
          have : ((ents cs).length : Int) = (n : Int) := hc3
          omega
        refine w_seq ?_
        refine w_reg ?_
        refine wl_f (f_assign rfl) ?_
        refine wl_end [(6, _)] ⟨rfl, trivial⟩ ?_
        refine w_ret ?_
        refine ⟨_, _, fun a ha hh => results_tmps Try.results36 rfl a ha _, List.Sublist.refl _, ?_⟩
        rw [mput_full hab' hfull]; exact ⟨rfl, _, rfl, hr0⟩
      · skip
        have hfull : M.length ≠ n := fun h => hc3 (show ((ents cs).length : Int) = (n : Int) by omega)
        have hper := ents_set_some (x := (k, v)) he
        refine w_unb (ims xU64 b n N _ T seed tV cV cs) ?_
        refine w_skip ?_
        refine w_reg ?_
        refine wl_f (f_move rfl) ?_
        refine wl_f (f_nilCheck rfl) ?_
        refine wl_f (f_fieldAddr 1 rfl Try.underlying86 rfl rfl (by kernel_rfl)) ?_
        (first | refine wl_f (f_loadb 0 rfl Try.underlying3 rfl rfl rfl) ?_ | refine wl_f (f_loadb 1 rfl Try.underlying3 rfl rfl rfl) ?_ | refine wl_f (f_loadb 2 rfl Try.underlying3 rfl rfl rfl) ?_ | refine wl_f (f_loadb 3 rfl Try.underlying3 rfl rfl rfl) ?_ | refine wl_f (f_loadb 4 rfl Try.underlying3 rfl rfl rfl) ?_ | refine wl_f (f_loadb 5 rfl Try.underlying3 rfl rfl rfl) ?_ | refine wl_f (f_loadb 6 rfl Try.underlying3 rfl rfl rfl) ?_)
        refine wl_f (f_add rfl rfl (by omega)) ?_
        refine wl_f (f_nilCheck rfl) ?_
        refine wl_f (f_fieldAddr 1 rfl Try.underlying86 rfl rfl (by kernel_rfl)) ?_
        (first | refine wl_e0 (e_store0 (us := [_]) rfl rfl rfl (by kernel_rfl) (by simp [Value.oneCell']) rfl rfl) ?_ | refine wl_e0 (e_store1 (us := [_]) rfl rfl rfl (by kernel_rfl) (by simp [Value.oneCell']) rfl rfl) ?_ | refine wl_e0 (e_store2 (us := [_]) rfl rfl rfl (by kernel_rfl) (by simp [Value.oneCell']) rfl rfl) ?_ | refine wl_e0 (e_store3 (us := [_]) rfl rfl rfl (by kernel_rfl) (by simp [Value.oneCell']) rfl rfl) ?_)
        rintro _ _ w7_7 rfl
        refine wl_bun (H := []) [_, _, _] ?_
        refine wl_end [(0, _), (1, _), (2, _), (7, _)] ⟨rfl, rfl, rfl, rfl, trivial⟩ ?_
        rw [mput_new hab' hfull]
        refine ⟨(ents cs).length + 1, rfl, rfl, ?_, hI.put hh0 hi he hab h2, hper.trans (hM.cons _), by omega, rfl, fun x hx => ?_⟩
        · rw [hper.length_eq]; rfl
        · rcases List.mem_cons.1 (hper.mem_iff.1 hx) with rfl | hx
          · exact hk
          · exact hsm x hx
    · skip
      obtain ⟨y, hy⟩ := hok (by simpa using hc2)
      have hin : k ∈ keys M := mem_keys.2 ⟨y, at_mem hy hM⟩
      have hper := ents_set_over (x := (k, v)) hy
      have hrest := rest_perm hI.nd hy hM
      have hp0 := ents_set_none hy
      refine w_sub [(0, _), (1, _), (2, _), (7, _)] ⟨rfl, rfl, rfl, rfl, trivial⟩ (w_skip ?_)
      rw [mput_over hin]
      refine ⟨(ents cs).length, rfl, rfl, by rw [hper.length_eq, hp0.length_eq]; rfl, hI.over hy, hper.trans (hrest.cons _), hle, rfl, fun x hx => ?_⟩
      rcases List.mem_cons.1 (hper.mem_iff.1 hx) with rfl | hx
      · exact hk
      · exact hsm x (hp0.mem_iff.2 (List.mem_cons_of_mem _ hx))
  · rintro _ _ w5 ⟨len', rfl, rfl, hlen', hI', hM', hle', he0, hsm'⟩
    refine w_seq ?_
    refine w_unb (H := []) (ims xU64 b n N _ T seed tV cV cs) ?_
    refine w_with fun hh => ?_
    obtain ⟨g, cc, e2⟩ := row_form hh (i := 2) rfl (by omega)
    subst e2
    clear hh
    refine w_reg ?_
    refine wl_f (f_move rfl) ?_
    refine wl_f (f_nilCheck rfl) ?_
    refine wl_f (f_fieldAddr 4 rfl Try.underlying86 rfl rfl (by kernel_rfl)) ?_
    (first | refine wl_f (f_loadb 0 rfl Try.underlying84 rfl rfl rfl) ?_ | refine wl_f (f_loadb 1 rfl Try.underlying84 rfl rfl rfl) ?_ | refine wl_f (f_loadb 2 rfl Try.underlying84 rfl rfl rfl) ?_ | refine wl_f (f_loadb 3 rfl Try.underlying84 rfl rfl rfl) ?_ | refine wl_f (f_loadb 4 rfl Try.underlying84 rfl rfl rfl) ?_ | refine wl_f (f_loadb 5 rfl Try.underlying84 rfl rfl rfl) ?_ | refine wl_f (f_loadb 6 rfl Try.underlying84 rfl rfl rfl) ?_)
    refine wl_f (f_move rfl) ?_
    refine wl_f (f_move rfl) ?_
    refine wl_f (f_move rfl) ?_
    refine wl_f (f_build rfl (fun w => build_ucell _ _ w)) ?_
    refine wl_f (f_indexAddr 3 (i := p) rfl rfl Try.underlying84 (by kernel_rfl) rfl hp) ?_
    refine wl_e0 (e_storerN 2 (us := icell xU64 (some (k, v))) (xs' := icells xU64 (cs.set p (some (k, v)))) rfl rfl rfl rfl (by kernel_rfl) (by simp [icell, xU64, Value.oneCell']) (by rw [icells_len]; show 0 + p * 3 + 3 ≤ _; omega) (icells_set xU64 _ (by omega))) ?_
    rintro _ _ w8_9 rfl
    refine wl_end [] trivial ?_
    refine w_seq ?_
    refine w_reg ?_
    refine wl_f (f_assign rfl) ?_
    refine wl_end [(6, _)] ⟨rfl, trivial⟩ ?_
    refine w_bun (H := []) [_, _, _] ?_
    refine w_ret ?_
    refine ⟨_, _, fun a ha hh => results_tmps Try.results36 rfl a ha _, List.Sublist.refl _, ?_⟩
    rw [he0]
    exact ⟨rfl, _, rfl, N, cs.set p (some (k, v)), ⟨hn1, hn2, hN, hT, by rw [List.length_set]; exact hcl, tV, .slice (some ⟨g, 0, .none⟩) N cc, by rw [hlen']; rfl⟩, hI', hM', by omega, hsm'⟩
end Go.Proofs.Ytkoklfagmbaapaa
