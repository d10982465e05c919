/- The hash of a key. -/
import Derived.Test.YtkoklfagmbaapaaI1
import Derived.Test.YtkoklfagmbaapaaK5
import Derived.Test.YtkoklfagmbaapaaChecked
namespace Go.Proofs.Ytkoklfagmbaapaa
open Go.RowKit

theorem mixed : Try.prog.follows .mixedOrders = true := by kernel_rfl
theorem t64 : SlT Try.prog 64 33 1 8 (.int .u64 0) := .mk' Try.underlying64 (by kernel_rfl) rfl (by decide)
def u64v (l : List Nat) : List Value := l.map fun c : Nat => Value.int .u64 (c : Int)
theorem u64v_len (l : List Nat) : (u64v l).length = l.length := by simp [u64v]
theorem u64v_get {l : List Nat} {i c : Nat} (h : l[i]? = some c) : (u64v l)[i]? = some (.int .u64 (c : Int)) := by rw [u64v, List.getElem?_map, h]; rfl
theorem map_get {β : Type} (f : β → Value) {l : List β} {x : Nat} {a : β} (h : l[x]? = some a) : (l.map f)[0 + x * 1]? = some (f a) := by simp [h]
theorem wrap_u64 {p q : Int} (h : IntKind.u64.wrap p = q) : ∃ k : Nat, q = k ∧ k < 18446744073709551616 := by
  subst h
  have h : IntKind.u64.wrap p = p % 18446744073709551616 := by rfl
  exact ⟨(p % 18446744073709551616).toNat, by rw [h]; omega, by omega⟩
theorem xor_u64 (p q : Int) : ∃ k : Nat, bits .xor .u64 p q = k ∧ k < 18446744073709551616 := by
  obtain ⟨k, e, h⟩ := wrap_u64 (p := ((BitVec.ofInt IntKind.u64.bits p ^^^ BitVec.ofInt IntKind.u64.bits q).toNat : Int)) rfl
  exact ⟨k, e, h⟩
def hrot (h k : Int) : Int := bits .or .u64 (IntKind.u64.wrap (h * 2 ^ min k.toNat IntKind.u64.bits)) (h.fdiv (2 ^ min (64 - k).toNat IntKind.u64.bits))
def hmix (T : List Nat) (h : Int) (b : Nat) : Int := bits .xor .u64 (hrot h 5) ((T.getD (b / 16) 0 : Nat) : Int)
def hstep (T : List Nat) (h : Int) (b : Nat) : Int := IntKind.u64.wrap (IntKind.u64.wrap (hrot (hmix T h b) 7 + ((T.getD (b % 16) 0 : Nat) : Int)) * 11400714819323198485)
def hfold (T : List Nat) (seed : Int) (l : List UInt8) : Int := l.foldl (fun h b => hstep T h b.toNat) seed
def hlast (h : Int) : Int := bits .xor .u64 h (h.fdiv (2 ^ min (32 : Int).toNat IntKind.u64.bits))
def hkey (T : List Nat) (seed : Int) (s : ByteArray) : Int := hlast (hfold T seed s.data.toList)
theorem hkey_rng (T : List Nat) (seed : Int) (s : ByteArray) : 0 ≤ hkey T seed s ∧ hkey T seed s < 18446744073709551616 := by
  obtain ⟨k, e, h⟩ := xor_u64 (hfold T seed s.data.toList) ((hfold T seed s.data.toList).fdiv (2 ^ min (32 : Int).toNat IntKind.u64.bits))
  have : hkey T seed s = k := e
  omega
def hslot (T : List Nat) (seed : Int) (N : Nat) (s : ByteArray) : Nat := (hkey T seed s % N).toNat
theorem hslot_lt (T : List Nat) (seed : Int) {N : Nat} (h : 1 ≤ N) (s : ByteArray) : hslot T seed N s < N := by
  have h1 := Int.emod_nonneg (hkey T seed s) (show (N : Int) ≠ 0 by omega)
  have h2 := Int.emod_lt_of_pos (hkey T seed s) (show (0 : Int) < N by omega)
  unfold hslot; omega

theorem check_ok (A : Option Addr) (c : Nat) (w : World) : Spec Try.prog 46 [.slice A 16 c] w Nil fun r H => r = .int .i64 0 ∧ H = [] := by
  refine enter (n := 6) Try.func46 rfl rfl [(0, _)] rfl ⟨rfl, trivial⟩ (Holds.start _ _) ?_
  refine w_seq ?_
  refine w_reg ?_
  refine wl_f (f_assign rfl) ?_
  refine wl_end [(0, _)] ⟨rfl, trivial⟩ ?_
  refine w_seq ?_
  refine w_seq ?_
  refine w_reg ?_
  refine wl_f (f_move rfl) ?_
  refine wl_f (f_len rfl Try.underlying64) ?_
  refine wl_f (f_neq rfl rfl) ?_
  refine wl_end [(5, _)] ⟨rfl, trivial⟩ ?_
  refine w_iff rfl ?_
  refine w_skip ?_
  refine w_seq ?_
  refine w_reg ?_
  refine wl_f (f_assign rfl) ?_
  refine wl_end [(2, _)] ⟨rfl, trivial⟩ ?_
  refine w_ret ?_
  refine ⟨_, _, fun a ha hh => results_tmps Try.results46 rfl a ha _, List.Sublist.refl _, ?_⟩
  exact ⟨rfl, rfl⟩
theorem check_spec (A : Option Addr) (l c : Nat) (w : World) : Spec Try.prog 46 [.slice A l c] w Nil fun r H => r = .int .i64 (if l = 16 then 0 else 11) ∧ H = [] := by
  refine enter (n := 6) Try.func46 rfl rfl [(0, _)] rfl ⟨rfl, trivial⟩ (Holds.start _ _) ?_
  refine w_seq ?_
  refine w_reg ?_
  refine wl_f (f_assign rfl) ?_
  refine wl_end [(0, _)] ⟨rfl, trivial⟩ ?_
  refine w_seq ?_
  refine w_seq ?_
  refine w_reg ?_
  refine wl_f (f_move rfl) ?_
  refine wl_f (f_len rfl Try.underlying64) ?_
  refine wl_f (f_neq rfl rfl) ?_
  refine wl_end [(5, _)] ⟨rfl, trivial⟩ ?_
  refine w_ifd rfl (fun hc1 => ?_) (fun hc1 => ?_)
  · skip
    refine w_seq ?_
    refine w_reg ?_
    refine wl_f (f_assign rfl) ?_
    refine wl_end [(2, _)] ⟨rfl, trivial⟩ ?_
    refine w_ret ?_
    refine ⟨_, _, fun a ha hh => results_tmps Try.results46 rfl a ha _, List.Sublist.refl _, ?_⟩
    rw [if_neg (fun h => hc1 (by rw [h]; rfl))]; exact ⟨rfl, rfl⟩
  · skip
    have h : l = 16 := by
      have : (l : Int) = 16 := Classical.not_not.1 hc1
      omega
    refine w_skip ?_
    refine w_seq ?_
    refine w_reg ?_
    refine wl_f (f_assign rfl) ?_
    refine wl_end [(2, _)] ⟨rfl, trivial⟩ ?_
    refine w_ret ?_
    refine ⟨_, _, fun a ha hh => results_tmps Try.results46 rfl a ha _, List.Sublist.refl _, ?_⟩
    rw [if_pos h]; exact ⟨rfl, rfl⟩
theorem rot_spec (h : Int) (k : Nat) (w : World) (hk : 1 ≤ k ∧ k ≤ 63) : Spec Try.prog 60 [.int .u64 h, .int .u64 (k : Int)] w Nil fun r H => r = .int .u64 (hrot h k) ∧ H = [] := by
  refine enter (n := 13) Try.func60 rfl rfl [(0, _), (1, _)] rfl ⟨rfl, rfl, trivial⟩ (Holds.start _ _) ?_
  refine w_seq ?_
  refine w_reg ?_
  refine wl_f (f_assign rfl) ?_
  refine wl_end [(0, _), (1, _)] ⟨rfl, rfl, trivial⟩ ?_
  refine w_seq ?_
  refine w_reg ?_
  refine wl_f (f_move rfl) ?_
  refine wl_f (f_move rfl) ?_
  refine wl_f (f_shl rfl rfl (by omega) rfl) ?_
  refine wl_f (f_move rfl) ?_
  refine wl_f (f_move rfl) ?_
  refine wl_f (f_subu rfl rfl (by omega)) ?_
  refine wl_f (f_shr rfl rfl (by omega) rfl) ?_
  refine wl_f (f_or rfl rfl rfl) ?_
  refine wl_f (f_assign rfl) ?_
  refine wl_end [(4, _)] ⟨rfl, trivial⟩ ?_
  refine w_ret ?_
  refine ⟨_, _, fun a ha hh => results_tmps Try.results60 rfl a ha _, List.Sublist.refl _, ?_⟩
  exact ⟨rfl, rfl⟩
theorem slot_spec (h : Int) (N : Nat) (w : World) (h0 : 0 ≤ h ∧ h < 18446744073709551616) (hN : 1 ≤ N ∧ N ≤ 16384) : Spec Try.prog 56 [.int .u64 h, .int .i64 (N : Int)] w Nil fun r H => r = .int .i64 (((h % N).toNat : Nat) : Int) ∧ H = [] := by
  have h1 := Int.emod_nonneg h (show (N : Int) ≠ 0 by omega)
  have h2 := Int.emod_lt_of_pos h (show (0 : Int) < N by omega)
  refine enter (n := 12) Try.func56 rfl rfl [(0, _), (1, _)] rfl ⟨rfl, rfl, trivial⟩ (Holds.start _ _) ?_
  refine w_seq ?_
  refine w_reg ?_
  refine wl_f (f_assign rfl) ?_
  refine wl_end [(0, _), (1, _)] ⟨rfl, rfl, trivial⟩ ?_
  refine w_seq ?_
  refine w_seq ?_
  refine w_reg ?_
  refine wl_f (f_move rfl) ?_
  refine wl_f (f_lss rfl rfl) ?_
  refine wl_end [(0, _), (1, _), (6, _)] ⟨rfl, rfl, rfl, trivial⟩ ?_
  refine w_ifd rfl (fun h => absurd h (by omega)) (fun _ => ?_)
  refine w_skip ?_
  refine w_seq ?_
  refine w_reg ?_
  refine wl_f (f_move rfl) ?_
  refine wl_f (f_move rfl) ?_
  refine wl_f (f_convu rfl Try.underlying3 Try.underlying33 (by omega)) ?_
  refine wl_f (f_rem rfl rfl (by omega)) ?_
  refine wl_f (f_convi rfl Try.underlying33 Try.underlying3 (by omega)) ?_
  refine wl_f (f_assign rfl) ?_
  refine wl_end [(4, _)] ⟨rfl, trivial⟩ ?_
  refine w_ret ?_
  refine ⟨_, _, fun a ha hh => results_tmps Try.results56 rfl a ha _, List.Sublist.refl _, ?_⟩
  exact ⟨by rw [Int.toNat_of_nonneg h1]; rfl, rfl⟩
theorem quo16 (b : Nat) (h : b < 256) : IntKind.u8.wrap (((b : Nat) : Int).tdiv 16) = ((b / 16 : Nat) : Int) := by
  have h' : ∀ a : Fin 256, IntKind.u8.wrap (((a.val : Nat) : Int).tdiv 16) = ((a.val / 16 : Nat) : Int) := by decide +kernel
  exact h' ⟨b, h⟩

set_option maxHeartbeats 1000000 in
theorem hkey_spec (T : List Nat) (tv : Value) (seed : Int) (s : ByteArray) (w : World) (hT : T.length = 16) (ht : Rd w Nil 1 tv 16 (u64v T)) (hs : s.size ≤ 140737488355328) :
    Spec Try.prog 57 [tv, .int .u64 seed, .string s] w Nil fun r H => r = .int .u64 (hkey T seed s) ∧ H = [] := by
  obtain ⟨A1, c1, rfl, -, hc1', g1⟩ := ht
  obtain ⟨b1, o1, rfl, -, -, d1⟩ := g1.resolve_left (by omega)
  have hsl : s.size = s.data.toList.length := by rw [Array.length_toList]; rfl
  refine enter (n := 44) Try.func57 rfl rfl [(0, _), (1, _), (2, _)] rfl ⟨rfl, rfl, rfl, trivial⟩ (Holds.start _ _) ?_
  refine w_seq ?_
  refine w_reg ?_
  refine wl_f (f_assign rfl) ?_
  refine wl_end [(0, _), (1, _), (2, _)] ⟨rfl, rfl, rfl, trivial⟩ ?_
  refine w_seq ?_
  refine w_seq ?_
  refine w_reg ?_
  refine wl_f (f_move rfl) ?_
  refine wl_e (e_call0 rfl Try.func46 (by kernel_rfl) (fun w hh => check_ok _ _ w)) ?_
  rintro _ _ w1 ⟨_, rfl, rfl, rfl⟩
  refine wl_f (f_neq rfl rfl) ?_
  refine wl_end [(0, _), (1, _), (2, _), (12, _)] ⟨rfl, rfl, rfl, rfl, trivial⟩ ?_
  refine w_ifb rfl (fun h => absurd h (by simp)) (fun _ => ?_)
  refine w_skip ?_
  refine w_seq ?_
  refine w_reg ?_
  refine wl_f (f_move rfl) ?_
  refine wl_f (f_assign rfl) ?_
  refine wl_end [(0, _), (2, _), (7, _)] ⟨rfl, rfl, rfl, trivial⟩ ?_
  refine w_seq ?_
  refine w_seq ?_
  refine w_reg ?_
  refine wl_f (f_move rfl) ?_
  refine wl_f (f_lens rfl Try.underlying9) ?_
  refine wl_f (f_move rfl) ?_
  refine wl_end [(0, _), (2, _), (7, _), (15, _), (16, _)] ⟨rfl, rfl, rfl, rfl, rfl, trivial⟩ ?_
  refine w_block ?_
  refine w_loop (fun k m H w => ∃ i : Nat, m = [(0, .slice (some ⟨b1, o1, .none⟩) 16 c1), (2, .string s), (7, .int .u64 (hfold T seed (s.data.toList.take i))), (15, .int .i64 s.size), (16, .int .i64 i)] ∧ H = [] ∧ k + i = s.size) s.size ⟨0, rfl, rfl, rfl⟩ ?_
  rintro k _ _ w' ⟨i, rfl, rfl, hk⟩
  refine w_seq ?_
  refine w_reg ?_
  refine wl_f (f_lss rfl rfl) ?_
  refine wl_end [(0, _), (2, _), (7, _), (15, _), (16, _), (17, _)] ⟨rfl, rfl, rfl, rfl, rfl, rfl, trivial⟩ ?_
  refine w_seq ?_
  refine w_ifd rfl (fun hc2 => ?_) (fun hc2 => ?_)
  · skip
    have hi : i < s.data.toList.length := by
      have : (i : Int) < (s.size : Int) := hc2
      omega
    obtain ⟨b, hb⟩ : ∃ b, s.data.toList[i]? = some b := ⟨_, List.getElem?_eq_getElem hi⟩
    have hb' : s.data[i]? = some b := by rw [← Array.getElem?_toList]; exact hb
    have hbl : b.toNat < 256 := b.toNat_lt
    have hq : b.toNat / 16 < 16 := by omega
    have hr : b.toNat % 16 < 16 := by omega
    have hTq : T[b.toNat / 16]? = some (T.getD (b.toNat / 16) 0) := by rw [List.getD_eq_getElem?_getD, List.getElem?_eq_getElem (by omega)]; rfl
    have hTr : T[b.toNat % 16]? = some (T.getD (b.toNat % 16) 0) := by rw [List.getD_eq_getElem?_getD, List.getElem?_eq_getElem (by omega)]; rfl
    refine w_skip ?_
    refine w_seq ?_
    refine w_block ?_
    refine w_seq ?_
    refine w_reg ?_
    refine wl_f (f_move rfl) ?_
    refine wl_f (f_assign rfl) ?_
    refine wl_end [(0, _), (2, _), (7, _), (8, _), (15, _), (16, _)] ⟨rfl, rfl, rfl, rfl, rfl, rfl, trivial⟩ ?_
    refine w_seq ?_
    refine w_reg ?_
    refine wl_f (f_move rfl) ?_
    refine wl_f (f_move rfl) ?_
    refine wl_f (f_indexs rfl rfl Try.underlying9 rfl hb') ?_
    refine wl_f (f_assign rfl) ?_
    refine wl_end [(0, _), (2, _), (7, _), (9, _), (15, _), (16, _)] ⟨rfl, rfl, rfl, rfl, rfl, rfl, trivial⟩ ?_
    refine w_seq ?_
    refine w_draw [(0, true), (2, true), (3, true), (4, true), (5, true), (6, true), (1, false), (7, true), (8, true)] (_) ([]) mixed (by kernel_rfl) (by kernel_rfl) rfl (perm_all _) (fun w8_ => ?_)
    refine wd_f rfl (f_move rfl) ?_
    refine wd_f rfl (f_move rfl) ?_
    refine wd_f rfl (f_move rfl) ?_
    refine wd_f rfl (f_quow rfl rfl (by decide) (quo16 _ hbl)) ?_
    refine wd_f rfl (f_indexAddr 1 (i := b.toNat / 16) rfl rfl Try.underlying64 (by kernel_rfl) rfl hq) ?_
    refine wd_f rfl (f_loado (v := .int .u64 ((T.getD (b.toNat / 16) 0 : Nat) : Int)) rfl Try.underlying33 rfl (d1 _ _ (by rw [Nat.mul_one]; exact u64v_get hTq)) id) ?_
    refine wd_e rfl (e_call0 rfl Try.func60 (by kernel_rfl) (fun w hh => rot_spec _ 5 w (by omega))) ?_
    rintro _ _ w8 ⟨_, rfl, rfl, rfl⟩
    refine ⟨_, List.perm_append_comm_assoc _ _ _, ?_⟩
    refine wd_f rfl (f_xor rfl rfl rfl) ?_
    refine wd_f rfl (f_assign rfl) ?_
    refine wd_end [(0, _), (2, _), (7, _), (9, _), (15, _), (16, _)] ⟨rfl, rfl, rfl, rfl, rfl, rfl, trivial⟩ ?_
    refine w_draw [(0, true), (2, true), (3, true), (4, true), (5, true), (6, true), (1, false), (7, true), (8, true), (9, true)] (_) ([]) mixed (by kernel_rfl) (by kernel_rfl) rfl (perm_all _) (fun w9_ => ?_)
    refine wd_f rfl (f_move rfl) ?_
    refine wd_f rfl (f_move rfl) ?_
    refine wd_f rfl (f_move rfl) ?_
    refine wd_f rfl (f_eqv (v' := .int .u8 ((b.toNat % 16 : Nat) : Int)) (f_rem rfl rfl (by omega)) (by rw [Int.natCast_emod]; rfl)) ?_
    refine wd_f rfl (f_indexAddr 1 (i := b.toNat % 16) rfl rfl Try.underlying64 (by kernel_rfl) rfl hr) ?_
    refine wd_f rfl (f_loado (v := .int .u64 ((T.getD (b.toNat % 16) 0 : Nat) : Int)) rfl Try.underlying33 rfl (d1 _ _ (by rw [Nat.mul_one]; exact u64v_get hTr)) id) ?_
    refine wd_e rfl (e_call0 rfl Try.func60 (by kernel_rfl) (fun w hh => rot_spec _ 7 w (by omega))) ?_
    rintro _ _ w9 ⟨_, rfl, rfl, rfl⟩
    refine ⟨_, List.perm_append_comm_assoc _ _ _, ?_⟩
    refine wd_f rfl (f_addw rfl rfl) ?_
    refine wd_f rfl (f_mulw rfl rfl) ?_
    refine wd_f rfl (f_assign rfl) ?_
    refine wd_end [(0, _), (2, _), (7, _), (15, _), (16, _)] ⟨rfl, rfl, rfl, rfl, rfl, trivial⟩ ?_
    refine w_reg ?_
    refine wl_f (f_add rfl rfl (by omega)) ?_
    refine wl_f (f_move rfl) ?_
    refine wl_end [(0, _), (2, _), (7, _), (15, _), (16, _)] ⟨rfl, rfl, rfl, rfl, rfl, trivial⟩ ?_
    refine ⟨k - 1, by omega, i + 1, ?_, rfl, by omega⟩
    rw [List.take_add_one, hb]
    simp only [hfold, Option.toList, List.foldl_append, List.foldl_cons, List.foldl_nil]
    rfl
  · skip
    have hi : i = s.size := by
      have : ¬ (i : Int) < (s.size : Int) := hc2
      omega
    subst hi
    rw [hsl, List.take_length]
    refine w_exit0 ?_
    refine w_seq ?_
    refine w_reg ?_
    refine wl_f (f_move rfl) ?_
    refine wl_f (f_move rfl) ?_
    refine wl_f (f_shr rfl rfl (by omega) rfl) ?_
    refine wl_f (f_xor rfl rfl rfl) ?_
    refine wl_f (f_assign rfl) ?_
    refine wl_end [(6, _)] ⟨rfl, trivial⟩ ?_
    refine w_ret ?_
    refine ⟨_, _, fun a ha hh => results_tmps Try.results57 rfl a ha _, List.Sublist.refl _, ?_⟩
    exact ⟨rfl, rfl⟩
end Go.Proofs.Ytkoklfagmbaapaa
