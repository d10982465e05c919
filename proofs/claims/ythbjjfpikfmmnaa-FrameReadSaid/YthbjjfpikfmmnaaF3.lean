/- Reading a body: both functions answer alike. -/
import Derived.Test.YthbjjfpikfmmnaaF2
namespace Go.Proofs.Ythbjjfpikfmmnaa
open Go.RowKit

theorem t34 : SlT Try.prog 34 46 4 40 (.agg #[.string ByteArray.empty, .int .i64 0, .int .u64 0, .int .i64 0]) := .mk' Try.underlying34 (by kernel_rfl) rfl (by decide)
/-- An input: the item, the verdict. -/
abbrev In := (List Nat × Int × Nat) × Int
def incells (l : List In) : List Value := l.flatMap fun x => [.string (str x.1.1), .int .i64 x.1.2.1, .int .u64 (x.1.2.2 : Int), .int .i64 x.2]
def inV (x : In) : Value := .agg #[.string (str x.1.1), .int .i64 x.1.2.1, .int .u64 (x.1.2.2 : Int), .int .i64 x.2]
theorem incells_app (a b : List In) : incells (a ++ b) = incells a ++ incells b := by simp [incells]
theorem incells_len (l : List In) : (incells l).length = l.length * 4 := by
  induction l with
  | nil => rfl
  | cons x l ih => simp only [incells, List.flatMap_cons, List.length_append, List.length_cons, List.length_nil] at ih ⊢; omega
theorem incells_one (l : List In) : ∀ u ∈ incells l, u.oneCell' = true := by
  intro u hu
  simp only [incells, List.mem_flatMap] at hu
  obtain ⟨t, _, h⟩ := hu
  simp at h
  rcases h with rfl | rfl | rfl | rfl <;> rfl
theorem incells_get {l : List In} {i : Nat} {x : In} (h : l[i]? = some x) : ((incells l).drop (0 + i * 4)).take 4 = [.string (str x.1.1), .int .i64 x.1.2.1, .int .u64 (x.1.2.2 : Int), .int .i64 x.2] := by
  obtain ⟨hi, rfl⟩ := List.getElem?_eq_some_iff.1 h
  have e : l = l.take i ++ l[i] :: l.drop (i + 1) := by rw [← List.drop_eq_getElem_cons hi, List.take_append_drop]
  have hl : (incells (l.take i)).length = i * 4 := by rw [incells_len, List.length_take]; omega
  have e2 : incells l = incells (l.take i) ++ ([.string (str l[i].1.1), .int .i64 l[i].1.2.1, .int .u64 (l[i].1.2.2 : Int), .int .i64 l[i].2] ++ incells (l.drop (i + 1))) := by
    conv => lhs; rw [e]
    simp only [incells, List.flatMap_append, List.flatMap_cons]
  rw [e2, Nat.zero_add, ← hl, List.drop_left]
  rfl
def badIn : In := (([], 0, 0), 1)
/-- The input of an event. -/
def inpF (most : Int) (tags : List Tg) (t : Int) (wt : Nat) : In :=
  if (itemOut tags t wt).2 ≠ 0 then (([], 0, 0), verd (itemOut tags t wt).2) else if most < ((itemOut tags t wt).1.1.length : Int) then (([], 0, 0), 2) else ((itemOut tags t wt).1, 0)
/-- The inputs of up to n events, what is left; whether all could be decoded. -/
def inpsF (most : Int) : Nat → List Nat → List In × List Nat × Bool
  | 0, rest => ([], rest, true)
  | n + 1, rest => if (decF rest).2 ≠ 0 then ([], rest, false) else
    (inpF most (decF rest).1.1 (decF rest).1.2.1 (decF rest).1.2.2.1 :: (inpsF most n (rest.drop (decF rest).1.2.2.2)).1, (inpsF most n (rest.drop (decF rest).1.2.2.2)).2)
def readF (body : List Nat) (most : Int) : List In :=
  if (readL body).2.2 ≠ 0 ∨ (readL body).1 = 0 ∨ 64 < (readL body).1 then [badIn] else
  let x := inpsF most (readL body).1 (body.drop (readL body).2.1)
  if x.2.2 = true then (if x.2.1 = [] then x.1 else x.1 ++ [badIn]) else x.1 ++ List.replicate ((readL body).1 - x.1.length) badIn

theorem build_inbad (v : Int) (w : World) : (Instr.build 46 [(1, .int .i64 v)].toArray).run Try.prog w = .ok (.agg [.string ⟨#[]⟩, .int .i64 0, .int .u64 0, .int .i64 v].toArray) w := by kernel_rfl
theorem build_in (s : ByteArray) (t u v : Int) (w : World) : (Instr.build 46 [(0, .agg [.string s, .int .i64 t, .int .u64 u].toArray), (1, .int .i64 v)].toArray).run Try.prog w = .ok (.agg [.string s, .int .i64 t, .int .u64 u, .int .i64 v].toArray) w := by kernel_rfl

set_option maxHeartbeats 1000000 in
theorem input_spec (sl : Value) (tags : List Tg) (t : Int) (wt : Nat) (most : Int) (w : World) (hr : Rd w Nil 2 sl tags.length (tcells tags)) (hn : tags.length ≤ 140737488355328) (hsz : ∀ x ∈ tags, x.1.size ≤ 140737488355328) :
    Spec Try.prog 27 [.agg #[sl, .int .i64 t, .int .u64 wt], .int .i64 most] w Nil fun r H => r = inV (inpF most tags t wt) ∧ H = [] := by
  obtain ⟨A, c, rfl, hlen, hcap, hA⟩ := id hr
  refine enter (n := 25) Try.func27 rfl rfl [(0, _), (1, _)] rfl ⟨rfl, rfl, trivial⟩ (Holds.start _ _) ?_
  refine w_seq ?_
  refine w_reg ?_
  refine wl_e (e_box (cs := [_, _, _]) rfl rfl) ?_
  rintro _ _ w0_0 ⟨b0_0, rfl, rfl⟩
  refine wl_e (e_allocs [.string ByteArray.empty, .int .i64 0, .int .u64 0, .int .i64 0] (by kernel_rfl)) ?_
  rintro _ _ w0_1 ⟨b0_1, rfl, rfl⟩
  refine wl_end [(1, _), (2, _), (4, _)] ⟨rfl, rfl, rfl, trivial⟩ ?_
  refine w_seq ?_
  refine w_reg ?_
  (first | refine wl_f (f_loadsb (cs := [_, _, _]) 0 rfl Try.underlying40 rfl (by kernel_rfl) rfl rfl) ?_ | refine wl_f (f_loadsb (cs := [_, _, _]) 1 rfl Try.underlying40 rfl (by kernel_rfl) rfl rfl) ?_ | refine wl_f (f_loadsb (cs := [_, _, _]) 2 rfl Try.underlying40 rfl (by kernel_rfl) rfl rfl) ?_ | refine wl_f (f_loadsb (cs := [_, _, _]) 3 rfl Try.underlying40 rfl (by kernel_rfl) rfl rfl) ?_ | refine wl_f (f_loadsb (cs := [_, _, _]) 4 rfl Try.underlying40 rfl (by kernel_rfl) rfl rfl) ?_ | refine wl_f (f_loadsb (cs := [_, _, _]) 5 rfl Try.underlying40 rfl (by kernel_rfl) rfl rfl) ?_ | refine wl_f (f_loadsb (cs := [_, _, _]) 6 rfl Try.underlying40 rfl (by kernel_rfl) rfl rfl) ?_)
  refine wl_e (e_call0 rfl Try.func16 (by kernel_rfl) (fun w hh => item_spec _ tags t wt w (hr.old0 hh) hn hsz)) ?_
  rintro _ _ w1 ⟨_, rfl, rfl, rfl⟩
  refine wl_f (f_move rfl) ?_
  refine wl_f (f_extract rfl rfl) ?_
  refine wl_f (f_extract rfl rfl) ?_
  refine wl_e (e_allocs [.string ByteArray.empty, .int .i64 0, .int .u64 0] (by kernel_rfl)) ?_
  rintro _ _ w1_5 ⟨b1_5, rfl, rfl⟩
  (first | refine wl_e0 (e_store0 (us := [_, _, _]) rfl rfl rfl (by kernel_rfl) (by simp [Value.oneCell']) rfl rfl) ?_ | refine wl_e0 (e_store1 (us := [_, _, _]) rfl rfl rfl (by kernel_rfl) (by simp [Value.oneCell']) rfl rfl) ?_ | refine wl_e0 (e_store2 (us := [_, _, _]) rfl rfl rfl (by kernel_rfl) (by simp [Value.oneCell']) rfl rfl) ?_ | refine wl_e0 (e_store3 (us := [_, _, _]) rfl rfl rfl (by kernel_rfl) (by simp [Value.oneCell']) rfl rfl) ?_)
  rintro _ _ w1_6 rfl
  refine wl_f (f_assign rfl) ?_
  refine wl_end [(1, _), (4, _), (5, _), (6, _)] ⟨rfl, rfl, rfl, rfl, trivial⟩ ?_
  refine w_seq ?_
  refine w_seq ?_
  refine w_reg ?_
  refine wl_f (f_move rfl) ?_
  refine wl_f (f_neq rfl rfl) ?_
  refine wl_end [(1, _), (4, _), (5, _), (6, _), (13, _)] ⟨rfl, rfl, rfl, rfl, rfl, trivial⟩ ?_
  refine w_ifd rfl (fun hc1 => ?_) (fun hc1 => ?_)
  · skip
    refine w_seq ?_
    refine w_reg ?_
    refine wl_f (f_move rfl) ?_
    refine wl_e (e_call0 rfl Try.func17 (by kernel_rfl) (fun w hh => verdict_spec _ w)) ?_
    rintro _ _ w2 ⟨_, rfl, rfl, rfl⟩
    refine wl_f (f_build rfl (fun w => build_inbad _ w)) ?_
    (first | refine wl_e0 (e_store0 (us := [_, _, _, _]) rfl rfl rfl (by kernel_rfl) (by simp [Value.oneCell']) rfl rfl) ?_ | refine wl_e0 (e_store1 (us := [_, _, _, _]) rfl rfl rfl (by kernel_rfl) (by simp [Value.oneCell']) rfl rfl) ?_ | refine wl_e0 (e_store2 (us := [_, _, _, _]) rfl rfl rfl (by kernel_rfl) (by simp [Value.oneCell']) rfl rfl) ?_ | refine wl_e0 (e_store3 (us := [_, _, _, _]) rfl rfl rfl (by kernel_rfl) (by simp [Value.oneCell']) rfl rfl) ?_)
    rintro _ _ w3_3 rfl
    refine wl_end [(4, _)] ⟨rfl, trivial⟩ ?_
    refine w_ret ?_
    refine ⟨_, _, fun a ha hh => results_mix Try.results27 (rm_cell (cell_agg 1 rfl Try.underlying46 rfl (by kernel_rfl) rfl) rm_nil) a ha _ hh, List.nil_sublist _, ?_⟩
    exact ⟨by rw [inpF, if_pos hc1]; rfl, rfl⟩
  · skip
    refine w_skip ?_
    refine w_seq ?_
    refine w_seq ?_
    refine w_reg ?_
    refine wl_f (f_fieldAddr 0 rfl Try.underlying42 rfl rfl (by kernel_rfl)) ?_
    (first | refine wl_f (f_loadb 0 rfl Try.underlying9 rfl rfl rfl) ?_ | refine wl_f (f_loadb 1 rfl Try.underlying9 rfl rfl rfl) ?_ | refine wl_f (f_loadb 2 rfl Try.underlying9 rfl rfl rfl) ?_ | refine wl_f (f_loadb 3 rfl Try.underlying9 rfl rfl rfl) ?_ | refine wl_f (f_loadb 4 rfl Try.underlying9 rfl rfl rfl) ?_ | refine wl_f (f_loadb 5 rfl Try.underlying9 rfl rfl rfl) ?_ | refine wl_f (f_loadb 6 rfl Try.underlying9 rfl rfl rfl) ?_)
    refine wl_f (f_lens rfl Try.underlying9) ?_
    refine wl_f (f_move rfl) ?_
    refine wl_f (f_gtr rfl rfl) ?_
    refine wl_end [(4, _), (5, _), (21, _)] ⟨rfl, rfl, rfl, trivial⟩ ?_
    refine w_ifd rfl (fun hc2 => ?_) (fun hc2 => ?_)
    · skip
      have h2 : most < ((itemOut tags t wt).1.1.length : Int) := by
        have h : most < ((str (itemOut tags t wt).1.1).size : Int) := hc2
        rwa [str_size] at h
      refine w_seq ?_
      refine w_reg ?_
      refine wl_f (f_build rfl (fun w => build_inbad _ w)) ?_
      (first | refine wl_e0 (e_store0 (us := [_, _, _, _]) rfl rfl rfl (by kernel_rfl) (by simp [Value.oneCell']) rfl rfl) ?_ | refine wl_e0 (e_store1 (us := [_, _, _, _]) rfl rfl rfl (by kernel_rfl) (by simp [Value.oneCell']) rfl rfl) ?_ | refine wl_e0 (e_store2 (us := [_, _, _, _]) rfl rfl rfl (by kernel_rfl) (by simp [Value.oneCell']) rfl rfl) ?_ | refine wl_e0 (e_store3 (us := [_, _, _, _]) rfl rfl rfl (by kernel_rfl) (by simp [Value.oneCell']) rfl rfl) ?_)
      rintro _ _ w5_1 rfl
      refine wl_end [(4, _)] ⟨rfl, trivial⟩ ?_
      refine w_ret ?_
      refine ⟨_, _, fun a ha hh => results_mix Try.results27 (rm_cell (cell_agg 1 rfl Try.underlying46 rfl (by kernel_rfl) rfl) rm_nil) a ha _ hh, List.nil_sublist _, ?_⟩
      exact ⟨by rw [inpF, if_neg hc1, if_pos h2]; rfl, rfl⟩
    · skip
      have h2 : ¬ most < ((itemOut tags t wt).1.1.length : Int) := by
        have h : ¬ most < ((str (itemOut tags t wt).1.1).size : Int) := hc2
        rwa [str_size] at h
      refine w_skip ?_
      refine w_seq ?_
      refine w_reg ?_
      (first | refine wl_f (f_loadsb (cs := [_, _, _]) 0 rfl Try.underlying42 rfl (by kernel_rfl) rfl rfl) ?_ | refine wl_f (f_loadsb (cs := [_, _, _]) 1 rfl Try.underlying42 rfl (by kernel_rfl) rfl rfl) ?_ | refine wl_f (f_loadsb (cs := [_, _, _]) 2 rfl Try.underlying42 rfl (by kernel_rfl) rfl rfl) ?_ | refine wl_f (f_loadsb (cs := [_, _, _]) 3 rfl Try.underlying42 rfl (by kernel_rfl) rfl rfl) ?_ | refine wl_f (f_loadsb (cs := [_, _, _]) 4 rfl Try.underlying42 rfl (by kernel_rfl) rfl rfl) ?_ | refine wl_f (f_loadsb (cs := [_, _, _]) 5 rfl Try.underlying42 rfl (by kernel_rfl) rfl rfl) ?_ | refine wl_f (f_loadsb (cs := [_, _, _]) 6 rfl Try.underlying42 rfl (by kernel_rfl) rfl rfl) ?_)
      refine wl_f (f_build rfl (fun w => build_in _ _ _ _ w)) ?_
      (first | refine wl_e0 (e_store0 (us := [_, _, _, _]) rfl rfl rfl (by kernel_rfl) (by simp [Value.oneCell']) rfl rfl) ?_ | refine wl_e0 (e_store1 (us := [_, _, _, _]) rfl rfl rfl (by kernel_rfl) (by simp [Value.oneCell']) rfl rfl) ?_ | refine wl_e0 (e_store2 (us := [_, _, _, _]) rfl rfl rfl (by kernel_rfl) (by simp [Value.oneCell']) rfl rfl) ?_ | refine wl_e0 (e_store3 (us := [_, _, _, _]) rfl rfl rfl (by kernel_rfl) (by simp [Value.oneCell']) rfl rfl) ?_)
      rintro _ _ w6_2 rfl
      refine wl_end [(4, _)] ⟨rfl, trivial⟩ ?_
      refine w_ret ?_
      refine ⟨_, _, fun a ha hh => results_mix Try.results27 (rm_cell (cell_agg 1 rfl Try.underlying46 rfl (by kernel_rfl) rfl) rm_nil) a ha _ hh, List.nil_sublist _, ?_⟩
      exact ⟨by rw [inpF, if_neg hc1, if_neg h2]; rfl, rfl⟩
end Go.Proofs.Ythbjjfpikfmmnaa
