/- The decoder: a tag, an event. -/
import Derived.Test.YthbjjfpikfmmnaaD19
import Derived.Test.YthbjjfpikfmmnaaK8
import Derived.Test.YthbjjfpikfmmnaaK9
namespace Go.Proofs.Ythbjjfpikfmmnaa
open Go.RowKit

def tagsF (all : List Nat) : Nat → Nat × Int → List Tg × (Nat × Int)
  | 0, s => ([], s)
  | n + 1, s => (((textF all s).1, (textF all (textF all s).2).1) :: (tagsF all n (textF all (textF all s).2).2).1, (tagsF all n (textF all (textF all s).2).2).2)
/-- The tags, the time, the weight, the used bytes; the error. -/
def decF (all : List Nat) : (List Tg × Nat × Nat × Nat) × Int :=
  let a := numF all 1099511627776 1 (0, 0)
  let b := numF all 18446744073709551615 1 a.2
  let n := numF all 8 5 b.2
  let t := tagsF all n.1 n.2
  if t.2.2 ≠ 0 then (([], 0, 0, 0), t.2.2) else ((t.1, a.1, b.1, t.2.1), 0)

theorem build_reader (A : Option Addr) (n c : Nat) (w : World) : (Instr.build 74 [(0, .slice A n c)].toArray).run Try.prog w = .ok (.agg [.slice A n c, .int .i64 0, .int .i64 0].toArray) w := by kernel_rfl
theorem build_tag0 (s : ByteArray) (w : World) : (Instr.build 52 [(0, .string s)].toArray).run Try.prog w = .ok (.agg [.string s, .string ByteArray.empty].toArray) w := by kernel_rfl
theorem build_ev1 (t : Int) (w : World) : (Instr.build 40 [(1, .int .i64 t)].toArray).run Try.prog w = .ok (.agg [.slice .none 0 0, .int .i64 t, .int .u64 0].toArray) w := by kernel_rfl
theorem build_ev0 (w : World) : (Instr.build 40 #[]).run Try.prog w = .ok (.agg [.slice .none 0 0, .int .i64 0, .int .u64 0].toArray) w := by kernel_rfl

set_option maxHeartbeats 1000000 in
theorem tag_spec (b : Nat) (A : Option Addr) (c : Nat) (all : List Nat) (s : Nat × Int) (w : World) (hV : Rd w (fun k => k = b) 1 (.slice A all.length c) all.length (bv all))
    (hn : all.length ≤ 140737488355328) (hb : ∀ x ∈ all, x < 256) (hu : s.1 ≤ all.length) (hs : Holds w (rdr b (.slice A all.length c) s).foot [rdr b (.slice A all.length c) s] w) :
    Spec Try.prog 40 [.func (.func 41) #[.pointer (some ⟨b, 0, .none⟩)] #[]] w (rdr b (.slice A all.length c) s).foot
      fun r H => r = .agg #[.string (textF all s).1, .string (textF all (textF all s).2).1] ∧ H = [rdr b (.slice A all.length c) (textF all (textF all s).2).2] := by
  have hu1 := textF_used all s hu
  have hu2 := textF_used all _ hu1
  refine enter (n := 11) Try.func40 rfl rfl [(0, _)] rfl ⟨rfl, trivial⟩ hs ?_
  refine w_seq ?_
  refine w_reg ?_
  refine wl_e (e_allocs [.string ByteArray.empty, .string ByteArray.empty] (by kernel_rfl)) ?_
  rintro _ _ w0_0 ⟨b0_0, rfl, rfl⟩
  refine wl_end [(0, _), (2, _)] ⟨rfl, rfl, trivial⟩ ?_
  refine w_seq ?_
  refine w_reg ?_
  refine wl_f (f_move rfl) ?_
  refine wl_e (e_callv [rdr b (.slice A all.length c) s] [_] rfl rfl Try.func41 (by kernel_rfl) (List.Perm.swap ..) (fun w hh hs => by rw [feet_one] at hs ⊢; exact text_spec b A c all s w (hV.old1 hh (List.Perm.swap ..)) hn hb hu hs)) ?_
  rintro _ _ w1 ⟨_, rfl, rfl, rfl⟩
  refine wl_f (f_build rfl (fun w => build_tag0 _ w)) ?_
  refine wl_e (e_allocs [.string ByteArray.empty, .string ByteArray.empty] (by kernel_rfl)) ?_
  rintro _ _ w1_3 ⟨b1_3, rfl, rfl⟩
  (first | refine wl_e0 (e_store0 (us := [_, _]) rfl rfl rfl (by kernel_rfl) (by simp [Value.oneCell']) rfl rfl) ?_ | refine wl_e0 (e_store1 (us := [_, _]) rfl rfl rfl (by kernel_rfl) (by simp [Value.oneCell']) rfl rfl) ?_ | refine wl_e0 (e_store2 (us := [_, _]) rfl rfl rfl (by kernel_rfl) (by simp [Value.oneCell']) rfl rfl) ?_ | refine wl_e0 (e_store3 (us := [_, _]) rfl rfl rfl (by kernel_rfl) (by simp [Value.oneCell']) rfl rfl) ?_)
  rintro _ _ w1_4 rfl
  refine wl_end [(0, _), (2, _), (3, _)] ⟨rfl, rfl, rfl, trivial⟩ ?_
  refine w_seq ?_
  refine w_reg ?_
  refine wl_f (f_move rfl) ?_
  refine wl_e (e_callv [rdr b (.slice A all.length c) (textF all s).2] [_, _] rfl rfl Try.func41 (by kernel_rfl) (List.Perm.swap ..) (fun w hh hs => by rw [feet_one] at hs ⊢; exact text_spec b A c all (textF all s).2 w (hV.old1 hh (List.Perm.swap ..)) hn hb hu1 hs)) ?_
  rintro _ _ w2 ⟨_, rfl, rfl, rfl⟩
  refine wl_f (f_fieldAddr 1 rfl Try.underlying52 rfl rfl (by kernel_rfl)) ?_
  (first | refine wl_e0 (e_store0 (us := [_]) rfl rfl rfl (by kernel_rfl) (by simp [Value.oneCell']) rfl rfl) ?_ | refine wl_e0 (e_store1 (us := [_]) rfl rfl rfl (by kernel_rfl) (by simp [Value.oneCell']) rfl rfl) ?_ | refine wl_e0 (e_store2 (us := [_]) rfl rfl rfl (by kernel_rfl) (by simp [Value.oneCell']) rfl rfl) ?_ | refine wl_e0 (e_store3 (us := [_]) rfl rfl rfl (by kernel_rfl) (by simp [Value.oneCell']) rfl rfl) ?_)
  rintro _ _ w2_3 rfl
  refine wl_end [(2, _), (3, _)] ⟨rfl, rfl, trivial⟩ ?_
  refine w_seq ?_
  refine w_reg ?_
  (first | refine wl_f (f_loadsb (cs := [_, _]) 0 rfl Try.underlying52 rfl (by kernel_rfl) rfl rfl) ?_ | refine wl_f (f_loadsb (cs := [_, _]) 1 rfl Try.underlying52 rfl (by kernel_rfl) rfl rfl) ?_ | refine wl_f (f_loadsb (cs := [_, _]) 2 rfl Try.underlying52 rfl (by kernel_rfl) rfl rfl) ?_ | refine wl_f (f_loadsb (cs := [_, _]) 3 rfl Try.underlying52 rfl (by kernel_rfl) rfl rfl) ?_ | refine wl_f (f_loadsb (cs := [_, _]) 4 rfl Try.underlying52 rfl (by kernel_rfl) rfl rfl) ?_ | refine wl_f (f_loadsb (cs := [_, _]) 5 rfl Try.underlying52 rfl (by kernel_rfl) rfl rfl) ?_ | refine wl_f (f_loadsb (cs := [_, _]) 6 rfl Try.underlying52 rfl (by kernel_rfl) rfl rfl) ?_)
  (first | refine wl_e0 (e_store0 (us := [_, _]) rfl rfl rfl (by kernel_rfl) (by simp [Value.oneCell']) rfl rfl) ?_ | refine wl_e0 (e_store1 (us := [_, _]) rfl rfl rfl (by kernel_rfl) (by simp [Value.oneCell']) rfl rfl) ?_ | refine wl_e0 (e_store2 (us := [_, _]) rfl rfl rfl (by kernel_rfl) (by simp [Value.oneCell']) rfl rfl) ?_ | refine wl_e0 (e_store3 (us := [_, _]) rfl rfl rfl (by kernel_rfl) (by simp [Value.oneCell']) rfl rfl) ?_)
  rintro _ _ w3_1 rfl
  refine wl_end [(2, _)] ⟨rfl, trivial⟩ ?_
  refine w_ret ?_
  refine ⟨_, _, fun a ha hh => results_mix Try.results40 (rm_cell (cell_agg 2 rfl Try.underlying52 rfl (by kernel_rfl) rfl) rm_nil) a ha _ hh, (List.Sublist.refl [_]).trans (List.sublist_append_left [_] [_, _]), ?_⟩
  exact ⟨rfl, rfl⟩

def DecSpec (f : FuncId) : Prop := ∀ (v : Value) (xs : List Nat) (w : World), Rd w Nil 1 v xs.length (bv xs) → xs.length ≤ 140737488355328 → (∀ b ∈ xs, b < 256) →
  Spec Try.prog f [v] w Nil fun r H => ∃ tv, r = .tuple #[.agg #[tv, .int .i64 ((decF xs).1.2.1 : Int), .int .u64 ((decF xs).1.2.2.1 : Int)], .int .i64 ((decF xs).1.2.2.2 : Int), .int .i64 (decF xs).2] ∧
    H = [row tv 52 2 (decF xs).1.1.length (tcells (decF xs).1.1)]

set_option maxHeartbeats 2000000 in
theorem decode_spec : DecSpec 26 := by
  intro v xs w hr hn hb
  obtain ⟨A, c, rfl, hlen, hcap, hA⟩ := id hr
  have hd : decF xs = if (tagsF xs (numF xs 8 5 (numF xs 18446744073709551615 1 (numF xs 1099511627776 1 (0, 0)).2).2).1 (numF xs 8 5 (numF xs 18446744073709551615 1 (numF xs 1099511627776 1 (0, 0)).2).2).2).2.2 ≠ 0 then
      (([], 0, 0, 0), (tagsF xs (numF xs 8 5 (numF xs 18446744073709551615 1 (numF xs 1099511627776 1 (0, 0)).2).2).1 (numF xs 8 5 (numF xs 18446744073709551615 1 (numF xs 1099511627776 1 (0, 0)).2).2).2).2.2)
    else (((tagsF xs (numF xs 8 5 (numF xs 18446744073709551615 1 (numF xs 1099511627776 1 (0, 0)).2).2).1 (numF xs 8 5 (numF xs 18446744073709551615 1 (numF xs 1099511627776 1 (0, 0)).2).2).2).1, (numF xs 1099511627776 1 (0, 0)).1,
      (numF xs 18446744073709551615 1 (numF xs 1099511627776 1 (0, 0)).2).1, (tagsF xs (numF xs 8 5 (numF xs 18446744073709551615 1 (numF xs 1099511627776 1 (0, 0)).2).2).1 (numF xs 8 5 (numF xs 18446744073709551615 1 (numF xs 1099511627776 1 (0, 0)).2).2).2).2.1), 0) := rfl
  have hx1 := numF_le xs 1099511627776 1 (0, 0)
  have hu1 := numF_used xs 1099511627776 1 (0, 0) (Nat.zero_le _)
  refine enter (n := 47) Try.func26 rfl rfl [(0, _)] rfl ⟨rfl, trivial⟩ (Holds.start _ _) ?_
  refine w_seq ?_
  refine w_reg ?_
  refine wl_e (e_allocs [.slice .none 0 0, .int .i64 0, .int .u64 0] (by kernel_rfl)) ?_
  rintro _ _ w0_0 ⟨b0_0, rfl, rfl⟩
  refine wl_f (f_assign rfl) ?_
  refine wl_f (f_assign rfl) ?_
  refine wl_end [(0, _), (2, _)] ⟨rfl, rfl, trivial⟩ ?_
  refine w_seq ?_
  refine w_reg ?_
  refine wl_f (f_move rfl) ?_
  refine wl_f (f_build rfl (fun w => build_reader _ _ _ w)) ?_
  refine wl_e (e_box (cs := [_, _, _]) rfl rfl) ?_
  rintro _ _ w1_2 ⟨b1_2, rfl, rfl⟩
  refine wl_f (f_assign rfl) ?_
  refine wl_end [(2, _), (5, _)] ⟨rfl, rfl, trivial⟩ ?_
  refine w_seq ?_
  refine w_reg ?_
  refine wl_f (f_move rfl) ?_
  refine wl_e (e_call1 (rdr b1_2 (.slice A xs.length c) (0, 0)) [_] rfl Try.func39 (by kernel_rfl) (List.Perm.refl _) (fun w hh hs => number_spec b1_2 A c xs (0, 0) 1099511627776 1 w (hr.old1 hh (List.Perm.refl _)) hn hb (Nat.zero_le _) hs)) ?_
  rintro _ _ w1 ⟨_, rfl, rfl, rfl⟩
  generalize numF xs 1099511627776 1 (0, 0) = x1 at hd hx1 hu1 ⊢
  have hx2 := numF_le xs 18446744073709551615 1 x1.2
  have hu2 := numF_used xs 18446744073709551615 1 x1.2 hu1
  refine wl_f (f_convi rfl Try.underlying38 Try.underlying3 (by omega)) ?_
  refine wl_f (f_build rfl (fun w => build_ev1 _ w)) ?_
  refine wl_e (e_allocs [.slice .none 0 0, .int .i64 0, .int .u64 0] (by kernel_rfl)) ?_
  rintro _ _ w2_4 ⟨b2_4, rfl, rfl⟩
  (first | refine wl_e0 (e_store0 (us := [_, _, _]) rfl rfl rfl (by kernel_rfl) (by simp [Value.oneCell']) rfl rfl) ?_ | refine wl_e0 (e_store1 (us := [_, _, _]) rfl rfl rfl (by kernel_rfl) (by simp [Value.oneCell']) rfl rfl) ?_ | refine wl_e0 (e_store2 (us := [_, _, _]) rfl rfl rfl (by kernel_rfl) (by simp [Value.oneCell']) rfl rfl) ?_ | refine wl_e0 (e_store3 (us := [_, _, _]) rfl rfl rfl (by kernel_rfl) (by simp [Value.oneCell']) rfl rfl) ?_)
  rintro _ _ w2_5 rfl
  refine wl_end [(2, _), (5, _), (6, _)] ⟨rfl, rfl, rfl, trivial⟩ ?_
  refine w_seq ?_
  refine w_reg ?_
  refine wl_f (f_move rfl) ?_
  refine wl_e (e_call1 (rdr b1_2 (.slice A xs.length c) x1.2) [_, _] rfl Try.func39 (by kernel_rfl) (List.Perm.swap ..) (fun w hh hs => number_spec b1_2 A c xs x1.2 18446744073709551615 1 w (hr.old1 hh (List.Perm.swap ..)) hn hb hu1 hs)) ?_
  rintro _ _ w2 ⟨_, rfl, rfl, rfl⟩
  generalize numF xs 18446744073709551615 1 x1.2 = x2 at hd hx2 hu2 ⊢
  have hx3 := numF_le xs 8 5 x2.2
  have hu3 := numF_used xs 8 5 x2.2 hu2
  refine wl_f (f_fieldAddr 2 rfl Try.underlying40 rfl rfl (by kernel_rfl)) ?_
  (first | refine wl_e0 (e_store0 (us := [_]) rfl rfl rfl (by kernel_rfl) (by simp [Value.oneCell']) rfl rfl) ?_ | refine wl_e0 (e_store1 (us := [_]) rfl rfl rfl (by kernel_rfl) (by simp [Value.oneCell']) rfl rfl) ?_ | refine wl_e0 (e_store2 (us := [_]) rfl rfl rfl (by kernel_rfl) (by simp [Value.oneCell']) rfl rfl) ?_ | refine wl_e0 (e_store3 (us := [_]) rfl rfl rfl (by kernel_rfl) (by simp [Value.oneCell']) rfl rfl) ?_)
  rintro _ _ w3_3 rfl
  refine wl_end [(2, _), (5, _), (6, _)] ⟨rfl, rfl, rfl, trivial⟩ ?_
  refine w_seq ?_
  refine w_seq ?_
  refine w_reg ?_
  refine wl_f (f_move rfl) ?_
  refine wl_e (e_call1 (rdr b1_2 (.slice A xs.length c) x2.2) [_, _] rfl Try.func39 (by kernel_rfl) (List.Perm.refl _) (fun w hh hs => number_spec b1_2 A c xs x2.2 8 5 w (hr.old1 hh (List.Perm.refl _)) hn hb hu2 hs)) ?_
  rintro _ _ w3 ⟨_, rfl, rfl, rfl⟩
  generalize numF xs 8 5 x2.2 = x3 at hd hx3 hu3 ⊢
  refine wl_f (f_assign rfl) ?_
  refine wl_end [(2, _), (5, _), (6, _), (7, _)] ⟨rfl, rfl, rfl, rfl, trivial⟩ ?_
  refine w_block ?_
  refine w_nilrow 52 2 ?_
  refine w_loop (fun k m H w => ∃ (tv : Value) (done : List Tg) (s : Nat × Int), m = [(2, .pointer (some ⟨b0_0, 0, .none⟩)), (5, .pointer (some ⟨b1_2, 0, .none⟩)), (6, .pointer (some ⟨b2_4, 0, .none⟩)), (7, .int .u64 k)] ∧
    H = [row tv 52 2 done.length (tcells done), rdr b1_2 (.slice A xs.length c) s, blk b2_4 [tv, .int .i64 x1.1, .int .u64 x2.1] 40, blk b0_0 [.slice .none 0 0, .int .i64 0, .int .u64 0] 40] ∧
    done.length + k = x3.1 ∧ s.1 ≤ xs.length ∧ tagsF xs x3.1 x3.2 = (done ++ (tagsF xs k s).1, (tagsF xs k s).2)) x3.1
    ⟨_, [], x3.2, rfl, rfl, by simp, hu3, by simp⟩ ?_
  rintro k _ _ w4 ⟨tv, done, s, rfl, rfl, hk, hsu, htf⟩
  refine w_with fun hh => ?_
  obtain ⟨U, cu, rfl⟩ := row_slice hh (i := 0) rfl
  clear hh
  refine w_seq ?_
  refine w_seq ?_
  refine w_reg ?_
  refine wl_f (f_move rfl) ?_
  refine wl_f (f_gtr rfl rfl) ?_
  refine wl_end [(2, _), (5, _), (6, _), (7, _), (21, _)] ⟨rfl, rfl, rfl, rfl, rfl, trivial⟩ ?_
  refine w_ifd rfl (fun hc1 => ?_) (fun hc1 => ?_)
  · skip
    obtain ⟨q, rfl⟩ : ∃ q, k = q + 1 := ⟨k - 1, by omega⟩
    simp only [tagsF] at htf
    have hu4 := textF_used xs s hsu
    have hu5 := textF_used xs _ hu4
    refine w_skip ?_
    refine w_seq ?_
    refine w_block ?_
    refine w_drawk [(0, true), (1, true), (2, true), (3, true), (4, false), (5, false), (6, false), (7, true), (8, false)] ([(blk b2_4 [.slice U done.length cu, .int .i64 x1.1, .int .u64 x2.1] 40, some 8)]) ([row (.slice U done.length cu) 52 2 done.length (tcells done), rdr b1_2 (.slice A xs.length c) s, blk b0_0 [.slice .none 0 0, .int .i64 0, .int .u64 0] 40]) mixed (by kernel_rfl) (by kernel_rfl) rfl rfl (pick_perm [2] _ rfl) (fun w7_ => ?_)
    refine wk_f rfl (f_fieldAddr 0 rfl Try.underlying40 rfl rfl (by kernel_rfl)) ?_
    (first | refine wk_f rfl (f_loadb 0 rfl Try.underlying37 rfl rfl rfl) ?_ | refine wk_f rfl (f_loadb 1 rfl Try.underlying37 rfl rfl rfl) ?_ | refine wk_f rfl (f_loadb 2 rfl Try.underlying37 rfl rfl rfl) ?_ | refine wk_f rfl (f_loadb 3 rfl Try.underlying37 rfl rfl rfl) ?_ | refine wk_f rfl (f_loadb 4 rfl Try.underlying37 rfl rfl rfl) ?_ | refine wk_f rfl (f_loadb 5 rfl Try.underlying37 rfl rfl rfl) ?_ | refine wk_f rfl (f_loadb 6 rfl Try.underlying37 rfl rfl rfl) ?_)
    refine wk_f rfl (f_move rfl) ?_
    refine wk_f rfl (f_makeFunc rfl rfl) ?_
    refine wk_e rfl (e_call1 (rdr b1_2 (.slice A xs.length c) s) [_, _, _] rfl Try.func40 (by kernel_rfl) (pk1 2 rfl) (fun w hh hs => tag_spec b1_2 A c xs s w (hr.old1 (r := rdr b1_2 (.slice A xs.length c) s) hh (pk1 2 rfl)) hn hb hsu hs)) ?_
    rintro _ _ w5 ⟨_, rfl, rfl, rfl⟩
    refine ⟨_, List.Perm.swap .., ?_⟩
    refine wk_e rfl (e_lit1 (cs := [_, _]) t37 rfl rfl rfl (by omega)) ?_
    rintro _ _ w7_5 ⟨b7_5, rfl, rfl⟩
    refine ⟨_, List.perm_middle.symm, ?_⟩
    refine wk_e rfl (e_appS3 t37 rfl rfl (fun w hh => Rd.held0 hh (i := 1) rfl) (by simp [Value.oneCell']) (by omega) (by omega)) ?_
    rintro _ _ w7 ⟨⟨A', cap', rfl⟩, rfl⟩
    refine ⟨_, List.Perm.refl _, ?_⟩
    refine wk_f rfl (f_fieldAddr 0 rfl Try.underlying40 rfl rfl (by kernel_rfl)) ?_
    (first | refine wk_e0 rfl (e_store0 (us := [_]) rfl rfl rfl (by kernel_rfl) (by simp [Value.oneCell']) rfl rfl) ?_ | refine wk_e0 rfl (e_store1 (us := [_]) rfl rfl rfl (by kernel_rfl) (by simp [Value.oneCell']) rfl rfl) ?_ | refine wk_e0 rfl (e_store2 (us := [_]) rfl rfl rfl (by kernel_rfl) (by simp [Value.oneCell']) rfl rfl) ?_ | refine wk_e0 rfl (e_store3 (us := [_]) rfl rfl rfl (by kernel_rfl) (by simp [Value.oneCell']) rfl rfl) ?_)
    rintro _ _ w7_8 rfl
    refine ⟨_, List.Perm.refl _, ?_⟩
    refine wk_endp [(2, _), (5, _), (6, _), (7, _)] [3, 2, 0, 1] ⟨rfl, rfl, rfl, rfl, trivial⟩ rfl ?_
    refine w_reg ?_
    refine wl_f (f_move rfl) ?_
    refine wl_f (f_subu rfl rfl (by omega)) ?_
    refine wl_f (f_assign rfl) ?_
    refine wl_end [(2, _), (5, _), (6, _), (7, _)] ⟨rfl, rfl, rfl, rfl, trivial⟩ ?_
    refine ⟨q, by omega, .slice A' (done.length + 1) cap', done ++ [((textF xs s).1, (textF xs (textF xs s).2).1)], (textF xs (textF xs s).2).2, ?_, ?_, by simp; omega, hu5, by rw [htf]; simp⟩
    · rw [show ((q + 1 : Nat) : Int) - 1 = (q : Int) by omega]
    · rw [List.length_append, tcells_app]; rfl
  · skip
    obtain rfl : k = 0 := by omega
    simp only [tagsF, List.append_nil] at htf
    rw [htf] at hd
    refine w_exit0 ?_
    refine w_seq ?_
    refine w_seq ?_
    refine w_reg ?_
    refine wl_f (f_move rfl) ?_
    refine wl_f (f_nilCheck rfl) ?_
    refine wl_f (f_fieldAddr 2 rfl Try.underlying74 rfl rfl (by kernel_rfl)) ?_
    (first | refine wl_f (f_loadb 0 rfl Try.underlying25 rfl rfl rfl) ?_ | refine wl_f (f_loadb 1 rfl Try.underlying25 rfl rfl rfl) ?_ | refine wl_f (f_loadb 2 rfl Try.underlying25 rfl rfl rfl) ?_ | refine wl_f (f_loadb 3 rfl Try.underlying25 rfl rfl rfl) ?_ | refine wl_f (f_loadb 4 rfl Try.underlying25 rfl rfl rfl) ?_ | refine wl_f (f_loadb 5 rfl Try.underlying25 rfl rfl rfl) ?_ | refine wl_f (f_loadb 6 rfl Try.underlying25 rfl rfl rfl) ?_)
    refine wl_f (f_neq rfl rfl) ?_
    refine wl_end [(2, _), (5, _), (6, _), (36, _)] ⟨rfl, rfl, rfl, rfl, trivial⟩ ?_
    refine w_ifd rfl (fun hc2 => ?_) (fun hc2 => ?_)
    · skip
      rw [if_pos hc2] at hd
      refine w_pick [1, 2] rfl ?_
      refine w_nilrow 52 2 ?_
      refine w_seq ?_
      refine w_draw [(0, true), (1, true), (2, true), (3, true), (4, true), (5, false), (6, true), (7, true)] ([_, _]) ([_]) mixed (by kernel_rfl) (by kernel_rfl) rfl (List.Perm.refl _) (fun w9_ => ?_)
      refine wd_f rfl (f_build rfl (fun w => build_ev0 w)) ?_
      refine wd_f rfl (f_move rfl) ?_
      refine wd_f rfl (f_nilCheck rfl) ?_
      refine wd_f rfl (f_fieldAddr 2 rfl Try.underlying74 rfl rfl (by kernel_rfl)) ?_
      (first | refine wd_f rfl (f_loadb 0 rfl Try.underlying25 rfl rfl rfl) ?_ | refine wd_f rfl (f_loadb 1 rfl Try.underlying25 rfl rfl rfl) ?_ | refine wd_f rfl (f_loadb 2 rfl Try.underlying25 rfl rfl rfl) ?_ | refine wd_f rfl (f_loadb 3 rfl Try.underlying25 rfl rfl rfl) ?_ | refine wd_f rfl (f_loadb 4 rfl Try.underlying25 rfl rfl rfl) ?_ | refine wd_f rfl (f_loadb 5 rfl Try.underlying25 rfl rfl rfl) ?_ | refine wd_f rfl (f_loadb 6 rfl Try.underlying25 rfl rfl rfl) ?_)
      (first | refine wd_e0 rfl (e_store0 (us := [_, _, _]) rfl rfl rfl (by kernel_rfl) (by simp [Value.oneCell']) rfl rfl) ?_ | refine wd_e0 rfl (e_store1 (us := [_, _, _]) rfl rfl rfl (by kernel_rfl) (by simp [Value.oneCell']) rfl rfl) ?_ | refine wd_e0 rfl (e_store2 (us := [_, _, _]) rfl rfl rfl (by kernel_rfl) (by simp [Value.oneCell']) rfl rfl) ?_ | refine wd_e0 rfl (e_store3 (us := [_, _, _]) rfl rfl rfl (by kernel_rfl) (by simp [Value.oneCell']) rfl rfl) ?_)
      rintro _ _ w9_5 rfl
      refine ⟨_, List.Perm.refl _, ?_⟩
      refine wd_f rfl (f_assign rfl) ?_
      refine wd_f rfl (f_assign rfl) ?_
      refine wd_end [(2, _), (3, _), (4, _)] ⟨rfl, rfl, rfl, trivial⟩ ?_
      refine w_ret ?_
      refine ⟨_, _, fun a ha hh => results_mix Try.results26 (rm_cell (cell_agg 2 rfl Try.underlying40 rfl (by kernel_rfl) rfl) (rm_tmp rfl (rm_tmp rfl rm_nil))) a ha _ hh, (List.Sublist.refl [_]).trans (List.sublist_append_left [_] [_, _]), ?_⟩
      exact ⟨_, by rw [hd]; rfl, by rw [hd]; rfl⟩
    · skip
      rw [if_neg hc2] at hd
      refine w_skip ?_
      refine w_seq ?_
      refine w_draw [(0, true), (1, true), (2, true), (3, true), (4, true), (5, false), (6, true), (7, true)] ([_, _, _]) ([_]) mixed (by kernel_rfl) (by kernel_rfl) rfl (List.Perm.refl _) (fun w10_ => ?_)
      (first | refine wd_f rfl (f_loadsb (cs := [_, _, _]) 0 rfl Try.underlying40 rfl (by kernel_rfl) rfl rfl) ?_ | refine wd_f rfl (f_loadsb (cs := [_, _, _]) 1 rfl Try.underlying40 rfl (by kernel_rfl) rfl rfl) ?_ | refine wd_f rfl (f_loadsb (cs := [_, _, _]) 2 rfl Try.underlying40 rfl (by kernel_rfl) rfl rfl) ?_ | refine wd_f rfl (f_loadsb (cs := [_, _, _]) 3 rfl Try.underlying40 rfl (by kernel_rfl) rfl rfl) ?_ | refine wd_f rfl (f_loadsb (cs := [_, _, _]) 4 rfl Try.underlying40 rfl (by kernel_rfl) rfl rfl) ?_ | refine wd_f rfl (f_loadsb (cs := [_, _, _]) 5 rfl Try.underlying40 rfl (by kernel_rfl) rfl rfl) ?_ | refine wd_f rfl (f_loadsb (cs := [_, _, _]) 6 rfl Try.underlying40 rfl (by kernel_rfl) rfl rfl) ?_)
      refine wd_f rfl (f_move rfl) ?_
      refine wd_f rfl (f_nilCheck rfl) ?_
      refine wd_f rfl (f_fieldAddr 1 rfl Try.underlying74 rfl rfl (by kernel_rfl)) ?_
      (first | refine wd_f rfl (f_loadb 0 rfl Try.underlying3 rfl rfl rfl) ?_ | refine wd_f rfl (f_loadb 1 rfl Try.underlying3 rfl rfl rfl) ?_ | refine wd_f rfl (f_loadb 2 rfl Try.underlying3 rfl rfl rfl) ?_ | refine wd_f rfl (f_loadb 3 rfl Try.underlying3 rfl rfl rfl) ?_ | refine wd_f rfl (f_loadb 4 rfl Try.underlying3 rfl rfl rfl) ?_ | refine wd_f rfl (f_loadb 5 rfl Try.underlying3 rfl rfl rfl) ?_ | refine wd_f rfl (f_loadb 6 rfl Try.underlying3 rfl rfl rfl) ?_)
      (first | refine wd_e0 rfl (e_store0 (us := [_, _, _]) rfl rfl rfl (by kernel_rfl) (by simp [Value.oneCell']) rfl rfl) ?_ | refine wd_e0 rfl (e_store1 (us := [_, _, _]) rfl rfl rfl (by kernel_rfl) (by simp [Value.oneCell']) rfl rfl) ?_ | refine wd_e0 rfl (e_store2 (us := [_, _, _]) rfl rfl rfl (by kernel_rfl) (by simp [Value.oneCell']) rfl rfl) ?_ | refine wd_e0 rfl (e_store3 (us := [_, _, _]) rfl rfl rfl (by kernel_rfl) (by simp [Value.oneCell']) rfl rfl) ?_)
      rintro _ _ w10_5 rfl
      refine ⟨_, List.Perm.refl _, ?_⟩
      refine wd_f rfl (f_assign rfl) ?_
      refine wd_f rfl (f_assign rfl) ?_
      refine wd_end [(2, _), (3, _), (4, _)] ⟨rfl, rfl, rfl, trivial⟩ ?_
      refine w_ret ?_
      refine ⟨_, _, fun a ha hh => results_mix Try.results26 (rm_cell (cell_agg 3 rfl Try.underlying40 rfl (by kernel_rfl) rfl) (rm_tmp rfl (rm_tmp rfl rm_nil))) a ha _ hh, (List.Sublist.refl [_]).trans (List.sublist_append_left [_] [_, _, _]), ?_⟩
      exact ⟨_, by rw [hd]; rfl, by rw [hd]⟩
end Go.Proofs.Ythbjjfpikfmmnaa