/- Reading a body: the program's walk. -/
import Derived.Test.YthbjjfpikfmmnaaF3
namespace Go.Proofs.Ythbjjfpikfmmnaa
open Go.RowKit

theorem tagsF_used (all : List Nat) : ∀ (n : Nat) (s : Nat × Int), s.1 ≤ all.length → (tagsF all n s).2.1 ≤ all.length
  | 0, s, h => h
  | n + 1, s, h => by simp only [tagsF]; exact tagsF_used all n _ (textF_used all _ (textF_used all _ h))
theorem textF_size (all : List Nat) (s : Nat × Int) : (textF all s).1.size ≤ 4096 := by
  have h := numF_le all 4096 4 s
  have h0 : (ByteArray.mk #[]).size ≤ 4096 := by decide
  unfold textF
  dsimp only
  split
  · exact h0
  split
  · exact h0
  · show (str _).size ≤ 4096
    rw [str_size, List.length_take]
    omega
theorem tagsF_size (all : List Nat) : ∀ (n : Nat) (s : Nat × Int), ∀ x ∈ (tagsF all n s).1, x.1.size ≤ 4096 ∧ x.2.size ≤ 4096
  | 0, s, x, hx => by simp [tagsF] at hx
  | n + 1, s, x, hx => by
    simp only [tagsF, List.mem_cons] at hx
    rcases hx with rfl | hx
    · exact ⟨textF_size _ _, textF_size _ _⟩
    · exact tagsF_size all n _ x hx
theorem decF_used (xs : List Nat) : (decF xs).1.2.2.2 ≤ xs.length := by
  unfold decF
  dsimp only
  split
  · exact Nat.zero_le _
  · exact tagsF_used _ _ _ (numF_used _ _ _ _ (numF_used _ _ _ _ (numF_used _ _ _ _ (Nat.zero_le _))))
theorem decF_size (xs : List Nat) : ∀ x ∈ (decF xs).1.1, x.1.size ≤ 4096 ∧ x.2.size ≤ 4096 := by
  unfold decF
  dsimp only
  split
  · simp
  · exact tagsF_size _ _ _

def ReadInSpec (f : FuncId) : Prop := ∀ (A : Option Addr) (c : Nat) (body : List Nat) (most : Int) (w : World), Rd w Nil 1 (.slice A body.length c) body.length (bv body) → body.length ≤ 140737488355328 → (∀ b ∈ body, b < 256) →
  Spec Try.prog f [.slice A body.length c, .int .i64 most] w Nil fun r H => H = [row r 46 4 (readF body most).length (incells (readF body most))]

theorem incells_snoc (o : List In) (x : In) : incells (o ++ [x]) = incells o ++ [.string (str x.1.1), .int .i64 x.1.2.1, .int .u64 (x.1.2.2 : Int), .int .i64 x.2] := by simp [incells]

set_option maxHeartbeats 4000000 in
theorem readIn_spec : ReadInSpec 13 := by
  intro A c body most w hx hn hb
  have hcn : body.length ≤ c := by
    obtain ⟨_, _, e, _, h, _⟩ := id hx
    injection e with _ _ e
    subst e
    exact h
  have hru := readL_used body
  have hrl := readL_lt body
  refine enter (n := 80) Try.func13 rfl rfl [(0, _), (1, _)] rfl ⟨rfl, rfl, trivial⟩ (Holds.start _ _) ?_
  refine w_seq ?_
  refine w_reg ?_
  refine wl_f (f_assign rfl) ?_
  refine wl_end [(0, _), (1, _)] ⟨rfl, rfl, trivial⟩ ?_
  refine w_scope ?_
  refine w_seq ?_
  refine w_reg ?_
  refine wl_f (f_move rfl) ?_
  refine wl_e (e_call0 rfl Try.func21 (by kernel_rfl) (fun w hh => read_spec _ body w (hx.old0 hh) hn hb)) ?_
  rintro _ _ w1 ⟨_, rfl, rfl, rfl⟩
  refine wl_f (f_move rfl) ?_
  refine wl_f (f_extract rfl rfl) ?_
  refine wl_f (f_extract rfl rfl) ?_
  refine wl_f (f_extract rfl rfl) ?_
  refine wl_f (f_assign rfl) ?_
  refine wl_f (f_assign rfl) ?_
  refine wl_f (f_assign rfl) ?_
  refine wl_end [(0, _), (1, _), (5, _), (6, _), (7, _)] ⟨rfl, rfl, rfl, rfl, rfl, trivial⟩ ?_
  refine w_seq ?_
  refine w_seq ?_
  refine w_reg ?_
  refine wl_f (f_move rfl) ?_
  refine wl_f (f_neq rfl rfl) ?_
  refine wl_f (f_move rfl) ?_
  refine wl_or (j := 2) (c := decide (((readL body).1 : Int) = 0)) 2 [(0, _), (1, _), (5, _), (6, _)] ⟨rfl, rfl, rfl, rfl, trivial⟩ rfl rfl rfl rfl rfl (fun hg2_5 => ?_) (fun w2_5 => ?_)
  · skip
    refine wl_gf rfl rfl (f_move rfl) ?_
    refine wl_gf rfl rfl (f_eql rfl rfl) ?_
    exact wl_pend rfl rfl ⟨rfl, rfl, rfl, rfl, trivial⟩ (List.Sublist.refl _)
  refine wl_f (f_move rfl) ?_
  refine wl_or (j := 6) (c := decide ((64 : Int) < ((readL body).1 : Int))) 2 [(0, _), (1, _), (5, _), (6, _)] ⟨rfl, rfl, rfl, rfl, trivial⟩ rfl rfl rfl rfl rfl (fun hg2_9 => ?_) (fun w2_9 => ?_)
  · skip
    refine wl_gf rfl rfl (f_move rfl) ?_
    refine wl_gf rfl rfl (f_gtr rfl rfl) ?_
    exact wl_pend rfl rfl ⟨rfl, rfl, rfl, rfl, trivial⟩ (List.Sublist.refl _)
  refine wl_end [(0, _), (1, _), (5, _), (6, _), (28, _)] ⟨rfl, rfl, rfl, rfl, rfl, trivial⟩ ?_
  refine w_ifb rfl (fun hc1 => ?_) (fun hc1 => ?_)
  · skip
    simp only [Bool.or_eq_true, decide_eq_true_eq] at hc1
    refine w_seq ?_
    refine w_reg ?_
    refine wl_f (f_build rfl (fun w => build_inbad _ w)) ?_
    refine wl_e (e_lit1 (cs := [_, _, _, _]) t34 rfl rfl rfl (by omega)) ?_
    rintro _ _ w3_1 ⟨b3_1, rfl, rfl⟩
    refine wl_f (f_assign rfl) ?_
    refine wl_end [(4, _)] ⟨rfl, trivial⟩ ?_
    refine w_ret ?_
    refine ⟨_, _, fun a ha hh => results_tmps Try.results13 rfl a ha _, List.Sublist.refl _, ?_⟩
    have h : readF body most = [badIn] := by rw [readF, if_pos (by omega)]
    rw [h]; rfl
  · skip
    simp only [Bool.or_eq_true, decide_eq_true_eq, not_or] at hc1
    have hrf : readF body most = if (inpsF most (readL body).1 (body.drop (readL body).2.1)).2.2 = true then (if (inpsF most (readL body).1 (body.drop (readL body).2.1)).2.1 = [] then (inpsF most (readL body).1 (body.drop (readL body).2.1)).1 else (inpsF most (readL body).1 (body.drop (readL body).2.1)).1 ++ [badIn])
      else (inpsF most (readL body).1 (body.drop (readL body).2.1)).1 ++ List.replicate ((readL body).1 - (inpsF most (readL body).1 (body.drop (readL body).2.1)).1.length) badIn := by
      rw [readF, if_neg (by omega)]
    generalize readL body = R at hru hrl hc1 hrf ⊢
    obtain ⟨n, used, e0⟩ := R
    dsimp only at hru hrl hc1 hrf ⊢
    refine w_skip ?_
    refine w_seq ?_
    refine w_reg ?_
    refine wl_f (f_assign rfl) ?_
    refine wl_end [(0, _), (1, _), (5, _), (6, _), (8, _)] ⟨rfl, rfl, rfl, rfl, rfl, trivial⟩ ?_
    refine w_seq ?_
    refine w_reg ?_
    refine wl_f (f_move rfl) ?_
    refine wl_f (f_move rfl) ?_
    refine wl_f (f_sliceA 1 (l := used) (u := body.length) rfl Try.underlying22 (by kernel_rfl) ⟨_, rfl⟩ rfl (by omega) hcn) ?_
    refine wl_f (f_assign rfl) ?_
    refine wl_end [(1, _), (5, _), (8, _), (9, _)] ⟨rfl, rfl, rfl, rfl, trivial⟩ ?_
    refine w_seq ?_
    refine w_label ?_
    refine w_seq ?_
    refine w_nilrow 46 4 ?_
    refine w_post (fun m H w' => ∃ (o : List In) (V : Value) (q : Nat) (A' : Option Addr) (ok : Bool), m = [(5, .int .u64 n), (8, V), (9, .slice A' (body.length - q) (c - q))] ∧ H = [row V 46 4 o.length (incells o)] ∧ q ≤ body.length ∧
      inpsF most n (body.drop used) = (o, body.drop q, ok) ∧ (ok = true → o.length = n) ∧ (ok = false → o.length < n)) ?_ ?_
    · skip
      refine w_block ?_
      refine w_loop (fun k m H w' => ∃ (o : List In) (V : Value) (q : Nat) (A' : Option Addr), m = [(1, .int .i64 most), (5, .int .u64 n), (8, V), (9, .slice A' (body.length - q) (c - q))] ∧ H = [row V 46 4 o.length (incells o)] ∧ q ≤ body.length ∧ (q < c → A' = A.map (·.add q)) ∧
        k + o.length = n ∧ inpsF most n (body.drop used) = (o ++ (inpsF most k (body.drop q)).1, (inpsF most k (body.drop q)).2)) n
        ⟨[], _, used, _, rfl, rfl, by omega, fun h => by rw [if_neg (by omega)]; simp, by simp, by simp⟩ ?_
      rintro k _ _ w2 ⟨o, V, q, A', rfl, rfl, hq, hA, hk, hin⟩
      refine w_with fun hh => ?_
      obtain ⟨V1, cv, rfl⟩ := row_slice hh (i := 0) rfl
      clear hh
      refine w_seq ?_
      refine w_seq ?_
      refine w_reg ?_
      refine wl_f (f_move rfl) ?_
      refine wl_f (f_len rfl Try.underlying34) ?_
      refine wl_f (f_move rfl) ?_
      refine wl_f (f_convi rfl Try.underlying38 Try.underlying3 (by omega)) ?_
      refine wl_f (f_lss rfl rfl) ?_
      refine wl_end [(1, _), (5, _), (8, _), (9, _), (38, _)] ⟨rfl, rfl, rfl, rfl, rfl, trivial⟩ ?_
      refine w_ifd rfl (fun hc2 => ?_) (fun hc2 => ?_)
      · skip
        obtain ⟨k', rfl⟩ : ∃ k', k = k' + 1 := ⟨k - 1, by omega⟩
        have hdu := decF_used (body.drop q)
        have hdl := decF_len (body.drop q)
        have hds := decF_size (body.drop q)
        rw [List.length_drop] at hdu
        rw [inpsF] at hin
        have hbd : ∀ b ∈ body.drop q, b < 256 := fun b h => hb b (List.mem_of_mem_drop h)
        refine w_skip ?_
        refine w_block ?_
        refine w_seq ?_
        refine w_reg ?_
        refine wl_f (f_move rfl) ?_
        refine wl_e (e_call0 rfl Try.func26 (by kernel_rfl) (fun w hh => decode_spec _ (body.drop q) w (rd_behind (hx.old0 hh) hq hA) (by rw [List.length_drop]; omega) hbd)) ?_
        rintro _ _ w3 ⟨_, rfl, tv, rfl, rfl⟩
        refine wl_with fun hh => ?_
        obtain ⟨T1, ct, rfl⟩ := row_slice hh (i := 0) rfl
        clear hh
        refine wl_f (f_move rfl) ?_
        refine wl_f (f_extract rfl rfl) ?_
        refine wl_f (f_extract rfl rfl) ?_
        refine wl_f (f_extract rfl rfl) ?_
        refine wl_e (e_allocs [.slice .none 0 0, .int .i64 0, .int .u64 0] (by kernel_rfl)) ?_
        rintro _ _ w7_6 ⟨b7_6, rfl, rfl⟩
        (first | refine wl_e0 (e_store0 (us := [_, _, _]) rfl rfl rfl (by kernel_rfl) (by simp [Value.oneCell']) rfl rfl) ?_ | refine wl_e0 (e_store1 (us := [_, _, _]) rfl rfl rfl (by kernel_rfl) (by simp [Value.oneCell']) rfl rfl) ?_ | refine wl_e0 (e_store2 (us := [_, _, _]) rfl rfl rfl (by kernel_rfl) (by simp [Value.oneCell']) rfl rfl) ?_ | refine wl_e0 (e_store3 (us := [_, _, _]) rfl rfl rfl (by kernel_rfl) (by simp [Value.oneCell']) rfl rfl) ?_)
        rintro _ _ w7_7 rfl
        refine wl_f (f_assign rfl) ?_
        refine wl_f (f_assign rfl) ?_
        refine wl_end [(1, _), (5, _), (8, _), (9, _), (10, _), (11, _), (12, _)] ⟨rfl, rfl, rfl, rfl, rfl, rfl, rfl, trivial⟩ ?_
        refine w_seq ?_
        refine w_seq ?_
        refine w_reg ?_
        refine wl_f (f_move rfl) ?_
        refine wl_f (f_neq rfl rfl) ?_
        refine wl_end [(1, _), (5, _), (8, _), (9, _), (10, _), (11, _), (46, _)] ⟨rfl, rfl, rfl, rfl, rfl, rfl, rfl, trivial⟩ ?_
        refine w_ifd rfl (fun hc3 => ?_) (fun hc3 => ?_)
        · skip
          refine w_sub [(5, _), (8, _), (9, _)] ⟨rfl, rfl, rfl, trivial⟩ (w_pick [2] rfl ?_)
          refine w_exit1 ?_ rfl
          rw [if_pos hc3] at hin
          exact ⟨o, _, q, A', false, rfl, rfl, hq, by rw [hin]; simp, by simp, fun _ => by omega⟩
        · skip
          rw [if_neg hc3] at hin
          refine w_skip ?_
          refine w_seq ?_
          refine w_reg ?_
          refine wl_f (f_move rfl) ?_
          refine wl_f (f_move rfl) ?_
          refine wl_f (f_sliceA 1 (l := (decF (body.drop q)).1.2.2.2) (u := body.length - q) rfl Try.underlying22 (by kernel_rfl) ⟨_, rfl⟩ rfl hdu (by omega)) ?_
          refine wl_f (f_assign rfl) ?_
          refine wl_end [(1, _), (5, _), (8, _), (9, _), (10, _)] ⟨rfl, rfl, rfl, rfl, rfl, trivial⟩ ?_
          refine w_reg ?_
          refine wl_f (f_move rfl) ?_
          (first | refine wl_f (f_loadsb (cs := [_, _, _]) 0 rfl Try.underlying40 rfl (by kernel_rfl) rfl rfl) ?_ | refine wl_f (f_loadsb (cs := [_, _, _]) 1 rfl Try.underlying40 rfl (by kernel_rfl) rfl rfl) ?_ | refine wl_f (f_loadsb (cs := [_, _, _]) 2 rfl Try.underlying40 rfl (by kernel_rfl) rfl rfl) ?_ | refine wl_f (f_loadsb (cs := [_, _, _]) 3 rfl Try.underlying40 rfl (by kernel_rfl) rfl rfl) ?_ | refine wl_f (f_loadsb (cs := [_, _, _]) 4 rfl Try.underlying40 rfl (by kernel_rfl) rfl rfl) ?_ | refine wl_f (f_loadsb (cs := [_, _, _]) 5 rfl Try.underlying40 rfl (by kernel_rfl) rfl rfl) ?_ | refine wl_f (f_loadsb (cs := [_, _, _]) 6 rfl Try.underlying40 rfl (by kernel_rfl) rfl rfl) ?_)
          refine wl_f (f_move rfl) ?_
          refine wl_e (e_call0 rfl Try.func27 (by kernel_rfl) (fun w hh => input_spec _ (decF (body.drop q)).1.1 _ _ most w (Rd.held0 hh (i := 1) rfl) (by omega) (fun x hx => by have := hds x hx; omega))) ?_
          rintro _ _ w4 ⟨_, rfl, rfl, rfl⟩
          refine wl_e (e_lit1 (cs := [_, _, _, _]) t34 rfl rfl rfl (by omega)) ?_
          rintro _ _ w10_4 ⟨b10_4, rfl, rfl⟩
          refine wl_e (e_appN 3 t34 rfl rfl rfl (fun w hh => Rd.held0 hh (i := 0) rfl) (by simp [Value.oneCell']) (by omega) (by omega)) ?_
          rintro _ _ w5 ⟨⟨U5, c5, rfl⟩, rfl⟩
          refine wl_f (f_assign rfl) ?_
          refine wl_pick [3] rfl ?_
          refine wl_end [(1, _), (5, _), (8, _), (9, _)] ⟨rfl, rfl, rfl, rfl, trivial⟩ ?_
          refine ⟨k', by omega, o ++ [inpF most (decF (body.drop q)).1.1 (decF (body.drop q)).1.2.1 (decF (body.drop q)).1.2.2.1], .slice U5 (o.length + 1) c5, q + (decF (body.drop q)).1.2.2.2, _, by rw [Nat.sub_sub, Nat.sub_sub], ?_, by omega, behind_step hA, by simp; omega, ?_⟩
          · rw [List.length_append, incells_snoc]; rfl
          · rw [hin, List.drop_drop]; simp
      · skip
        obtain rfl : k = 0 := by omega
        refine w_sub [(5, _), (8, _), (9, _)] ⟨rfl, rfl, rfl, trivial⟩ ?_
        refine w_exit0 ?_
        exact ⟨o, _, q, A', true, rfl, rfl, hq, by rw [hin]; simp [inpsF], fun _ => by omega, by simp⟩
    · rintro _ _ w6 ⟨o, V, q, A', ok, rfl, rfl, hq, hin, hok1, hok2⟩
      rw [hin] at hrf
      dsimp only at hrf
      refine w_with fun hh => ?_
      obtain ⟨V1, cv, rfl⟩ := row_slice hh (i := 0) rfl
      clear hh
      have hol : o.length ≤ n := by cases ok <;> simp at hok1 hok2 <;> omega
      refine w_seq ?_
      refine w_seq ?_
      refine w_reg ?_
      refine wl_f (f_move rfl) ?_
      refine wl_f (f_len rfl Try.underlying34) ?_
      refine wl_f (f_move rfl) ?_
      refine wl_f (f_convi rfl Try.underlying38 Try.underlying3 (by omega)) ?_
      refine wl_f (f_eql rfl rfl) ?_
      refine wl_f (f_move rfl) ?_
      refine wl_and (j := 5) (c := decide ((0 : Int) < ((body.length - q : Nat) : Int))) 3 [(5, _), (8, _)] ⟨rfl, rfl, trivial⟩ rfl rfl rfl rfl rfl (fun hg11_9 => ?_) (fun w11_9 => ?_)
      · skip
        refine wl_gf rfl rfl (f_move rfl) ?_
        refine wl_gf rfl rfl (f_len rfl Try.underlying22) ?_
        refine wl_gf rfl rfl (f_gtr rfl rfl) ?_
        exact wl_pend rfl rfl ⟨rfl, rfl, trivial⟩ (List.Sublist.refl _)
      refine wl_end [(5, _), (8, _), (65, _)] ⟨rfl, rfl, rfl, trivial⟩ ?_
      refine w_ifb rfl (fun hc4 => ?_) (fun hc4 => ?_)
      · skip
        simp only [Bool.and_eq_true, decide_eq_true_eq] at hc4
        have hokt : ok = true := by
          cases ok with
          | true => rfl
          | false => have := hok2 rfl; omega
        have hne : body.drop q ≠ [] := fun h => by have := congrArg List.length h; rw [List.length_drop] at this; simp at this; omega
        refine w_seq ?_
        refine w_reg ?_
        refine wl_f (f_move rfl) ?_
        refine wl_f (f_build rfl (fun w => build_inbad _ w)) ?_
        refine wl_e (e_lit1 (cs := [_, _, _, _]) t34 rfl rfl rfl (by omega)) ?_
        rintro _ _ w12_2 ⟨b12_2, rfl, rfl⟩
        refine wl_e (e_app1 t34 rfl rfl (fun w hh => Rd.held0 hh (i := 0) rfl) (by simp [Value.oneCell']) (by omega) (by omega)) ?_
        rintro v12_3 _ w12_3 rfl
        refine wl_f (f_assign rfl) ?_
        refine wl_end [(4, _)] ⟨rfl, trivial⟩ ?_
        refine w_pick [1] rfl ?_
        refine w_ret ?_
        refine ⟨_, _, fun a ha hh => results_tmps Try.results13 rfl a ha _, List.Sublist.refl _, ?_⟩
        rw [hrf, if_pos hokt, if_neg hne, List.length_append, incells_snoc]; rfl
      · skip
        simp only [Bool.and_eq_true, decide_eq_true_eq, not_and] at hc4
        refine w_sub [(5, _), (8, _)] ⟨rfl, rfl, trivial⟩ ?_
        refine w_skip ?_
        refine w_seq ?_
        refine w_block ?_
        refine w_loop (fun k m H w' => ∃ (V : Value) (j : Nat), m = [(5, .int .u64 n), (8, V)] ∧ H = [row V 46 4 (o ++ List.replicate j badIn).length (incells (o ++ List.replicate j badIn))] ∧ k + o.length + j = n) (n - o.length)
          ⟨_, 0, rfl, by simp, by omega⟩ ?_
        rintro k _ _ w7 ⟨V2, j, rfl, rfl, hk⟩
        refine w_with fun hh => ?_
        obtain ⟨V3, cv3, rfl⟩ := row_slice hh (i := 0) rfl
        clear hh
        have hjl : (o ++ List.replicate j badIn).length = o.length + j := by simp
        refine w_seq ?_
        refine w_seq ?_
        refine w_reg ?_
        refine wl_f (f_move rfl) ?_
        refine wl_f (f_len rfl Try.underlying34) ?_
        refine wl_f (f_move rfl) ?_
        refine wl_f (f_convi rfl Try.underlying38 Try.underlying3 (by omega)) ?_
        refine wl_f (f_lss rfl rfl) ?_
        refine wl_end [(5, _), (8, _), (74, _)] ⟨rfl, rfl, rfl, trivial⟩ ?_
        refine w_ifd rfl (fun hc5 => ?_) (fun hc5 => ?_)
        · skip
          refine w_skip ?_
          refine w_block ?_
          refine w_reg ?_
          refine wl_f (f_move rfl) ?_
          refine wl_f (f_build rfl (fun w => build_inbad _ w)) ?_
          refine wl_e (e_lit1 (cs := [_, _, _, _]) t34 rfl rfl rfl (by omega)) ?_
          rintro _ _ w14_2 ⟨b14_2, rfl, rfl⟩
          refine wl_e (e_app1 t34 rfl rfl (fun w hh => Rd.held0 hh (i := 0) rfl) (by simp [Value.oneCell']) (by omega) (by omega)) ?_
          rintro v14_3 _ w14_3 rfl
          refine wl_f (f_assign rfl) ?_
          refine wl_pick [1] rfl ?_
          refine wl_end [(5, _), (8, _)] ⟨rfl, rfl, trivial⟩ ?_
          refine ⟨k - 1, by omega, _, j + 1, rfl, ?_, by omega⟩
          rw [show List.replicate (j + 1) badIn = List.replicate j badIn ++ [badIn] from List.replicate_succ', ← List.append_assoc, List.length_append (bs := [badIn]), incells_snoc]
          rfl
        · skip
          have hj : j = n - o.length := by omega
          refine w_exit0 ?_
          refine w_seq ?_
          refine w_reg ?_
          refine wl_f (f_move rfl) ?_
          refine wl_f (f_assign rfl) ?_
          refine wl_end [(4, _)] ⟨rfl, trivial⟩ ?_
          refine w_ret ?_
          refine ⟨_, _, fun a ha hh => results_tmps Try.results13 rfl a ha _, List.Sublist.refl _, ?_⟩
          cases ok with
          | true =>
            have h1 := hok1 rfl
            have h0 : j = 0 := by omega
            have hnil : body.drop q = [] := List.drop_eq_nil_of_le (by have := hc4 (by omega); omega)
            have hz : o ++ List.replicate j badIn = o := by rw [h0]; simp
            rw [hrf, if_pos rfl, if_pos hnil, hz]
            rfl
          | false => rw [hrf, if_neg (by simp), hj]; rfl
end Go.Proofs.Ythbjjfpikfmmnaa
