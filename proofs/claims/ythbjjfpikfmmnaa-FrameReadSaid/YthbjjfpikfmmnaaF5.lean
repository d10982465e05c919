/- Reading a body: the reference's walk; comparing inputs. -/
import Derived.Test.YthbjjfpikfmmnaaF4
namespace Go.Proofs.Ythbjjfpikfmmnaa
open Go.RowKit

theorem verd_zero (e : Int) : verd e = 0 ↔ e = 0 := by unfold verd; split <;> (try split) <;> omega
theorem build_item00 (w : World) : (Instr.build 42 #[]).run Try.prog w = .ok (.agg [.string ⟨#[]⟩, .int .i64 0, .int .u64 0].toArray) w := by kernel_rfl

set_option maxHeartbeats 4000000 in
theorem rreadIn_spec : ReadInSpec 14 := by
  intro A c body most w hx hn hb
  have hcn : body.length ≤ c := by
    obtain ⟨_, _, e, _, h, _⟩ := id hx
    injection e with _ _ e
    subst e
    exact h
  have hru := readL_used body
  have hrl := readL_lt body
  refine enter (n := 96) Try.func14 rfl rfl [(0, _), (1, _)] rfl ⟨rfl, rfl, trivial⟩ (Holds.start _ _) ?_
  refine w_seq ?_
  refine w_reg ?_
  refine wl_f (f_assign rfl) ?_
  refine wl_end [(0, _), (1, _)] ⟨rfl, rfl, trivial⟩ ?_
  refine w_seq ?_
  refine w_reg ?_
  refine wl_f (f_move rfl) ?_
  refine wl_e (e_call0 rfl Try.func28 (by kernel_rfl) (fun w hh => rread_spec _ body w (hx.old0 hh) hn hb)) ?_
  rintro _ _ w1 ⟨_, rfl, rfl, rfl⟩
  refine wl_f (f_move rfl) ?_
  refine wl_f (f_extract rfl rfl) ?_
  refine wl_f (f_extract rfl rfl) ?_
  refine wl_f (f_extract rfl rfl) ?_
  refine wl_f (f_assign rfl) ?_
  refine wl_f (f_assign rfl) ?_
  refine wl_f (f_assign rfl) ?_
  refine wl_end [(0, _), (1, _), (5, _), (6, _), (7, _)] ⟨rfl, rfl, rfl, rfl, rfl, trivial⟩ ?_
  refine w_seq ?_
  refine w_seq ?_
  refine w_reg ?_
  refine wl_f (f_move rfl) ?_
  refine wl_f (f_neq rfl rfl) ?_
  refine wl_f (f_move rfl) ?_
  refine wl_or (j := 2) (c := decide (((readL body).1 : Int) < 1)) 2 [(0, _), (1, _), (5, _), (6, _)] ⟨rfl, rfl, rfl, rfl, trivial⟩ rfl rfl rfl rfl rfl (fun hg2_5 => ?_) (fun w2_5 => ?_)
  · skip
    refine wl_gf rfl rfl (f_move rfl) ?_
    refine wl_gf rfl rfl (f_lss rfl rfl) ?_
    exact wl_pend rfl rfl ⟨rfl, rfl, rfl, rfl, trivial⟩ (List.Sublist.refl _)
  refine wl_f (f_move rfl) ?_
  refine wl_or (j := 6) (c := decide ((64 : Int) < ((readL body).1 : Int))) 2 [(0, _), (1, _), (5, _), (6, _)] ⟨rfl, rfl, rfl, rfl, trivial⟩ rfl rfl rfl rfl rfl (fun hg2_9 => ?_) (fun w2_9 => ?_)
  · skip
    refine wl_gf rfl rfl (f_move rfl) ?_
    refine wl_gf rfl rfl (f_gtr rfl rfl) ?_
    exact wl_pend rfl rfl ⟨rfl, rfl, rfl, rfl, trivial⟩ (List.Sublist.refl _)
  refine wl_end [(0, _), (1, _), (5, _), (6, _), (31, _)] ⟨rfl, rfl, rfl, rfl, rfl, trivial⟩ ?_
  refine w_ifb rfl (fun hc1 => ?_) (fun hc1 => ?_)
  · skip
    simp only [Bool.or_eq_true, decide_eq_true_eq] at hc1
    refine w_seq ?_
    refine w_reg ?_
    refine wl_f (f_build rfl (fun w => build_inbad _ w)) ?_
    refine wl_e (e_lit1 (cs := [_, _, _, _]) t34 rfl rfl rfl (by omega)) ?_
    rintro _ _ w3_1 ⟨b3_1, rfl, rfl⟩
    refine wl_f (f_assign rfl) ?_
    refine wl_end [(4, _)] ⟨rfl, trivial⟩ ?_
    refine w_ret ?_
    refine ⟨_, _, fun a ha hh => results_tmps Try.results14 rfl a ha _, List.Sublist.refl _, ?_⟩
    have h : readF body most = [badIn] := by rw [readF, if_pos (by omega)]
    rw [h]; rfl
  · skip
    simp only [Bool.or_eq_true, decide_eq_true_eq, not_or] at hc1
    have hrf : readF body most = if (inpsF most (readL body).1 (body.drop (readL body).2.1)).2.2 = true then (if (inpsF most (readL body).1 (body.drop (readL body).2.1)).2.1 = [] then (inpsF most (readL body).1 (body.drop (readL body).2.1)).1 else (inpsF most (readL body).1 (body.drop (readL body).2.1)).1 ++ [badIn])
      else (inpsF most (readL body).1 (body.drop (readL body).2.1)).1 ++ List.replicate ((readL body).1 - (inpsF most (readL body).1 (body.drop (readL body).2.1)).1.length) badIn := by
      rw [readF, if_neg (by omega)]
    generalize readL body = R at hru hrl hc1 hrf ⊢
    obtain ⟨n, used, e0⟩ := R
    dsimp only at hru hrl hc1 hrf ⊢
    refine w_skip ?_
    refine w_seq ?_
    refine w_reg ?_
    refine wl_f (f_assign rfl) ?_
    refine wl_end [(0, _), (1, _), (5, _), (6, _), (8, _)] ⟨rfl, rfl, rfl, rfl, rfl, trivial⟩ ?_
    refine w_seq ?_
    refine w_reg ?_
    refine wl_f (f_move rfl) ?_
    refine wl_f (f_move rfl) ?_
    refine wl_f (f_sliceA 1 (l := used) (u := body.length) rfl Try.underlying22 (by kernel_rfl) ⟨_, rfl⟩ rfl (by omega) hcn) ?_
    refine wl_f (f_assign rfl) ?_
    refine wl_end [(1, _), (5, _), (8, _), (9, _)] ⟨rfl, rfl, rfl, rfl, trivial⟩ ?_
    refine w_seq ?_
    refine w_seq ?_
    refine w_reg ?_
    refine wl_f (f_assign rfl) ?_
    refine wl_end [(1, _), (5, _), (8, _), (9, _), (10, _)] ⟨rfl, rfl, rfl, rfl, rfl, trivial⟩ ?_
    refine w_block ?_
    refine w_nilrow 46 4 ?_
    refine w_loop (fun k m H w' => ∃ (o : List In) (V : Value) (q : Nat) (A' : Option Addr), m = [(1, .int .i64 most), (5, .int .u64 n), (8, V), (9, .slice A' (body.length - q) (c - q)), (10, .int .u64 (o.length : Nat))] ∧ H = [row V 46 4 o.length (incells o)] ∧ q ≤ body.length ∧ (q < c → A' = A.map (·.add q)) ∧
      k + o.length = n ∧ inpsF most n (body.drop used) = (o ++ (inpsF most k (body.drop q)).1, (inpsF most k (body.drop q)).2)) n
      ⟨[], _, used, _, rfl, rfl, by omega, fun h => by rw [if_neg (by omega)]; simp, by simp, by simp⟩ ?_
    rintro k _ _ w2 ⟨o, V, q, A', rfl, rfl, hq, hA, hk, hin⟩
    refine w_with fun hh => ?_
    obtain ⟨V1, cv, rfl⟩ := row_slice hh (i := 0) rfl
    clear hh
    refine w_seq ?_
    refine w_seq ?_
    refine w_reg ?_
    refine wl_f (f_move rfl) ?_
    refine wl_f (f_move rfl) ?_
    refine wl_f (f_lss rfl rfl) ?_
    refine wl_end [(1, _), (5, _), (8, _), (9, _), (10, _), (39, _)] ⟨rfl, rfl, rfl, rfl, rfl, rfl, trivial⟩ ?_
    refine w_ifd rfl (fun hc2 => ?_) (fun hc2 => ?_)
    · skip
      obtain ⟨k', rfl⟩ : ∃ k', k = k' + 1 := ⟨k - 1, by omega⟩
      have hdu := decF_used (body.drop q)
      have hdl := decF_len (body.drop q)
      have hds := decF_size (body.drop q)
      rw [List.length_drop] at hdu
      rw [inpsF] at hin
      have hbd : ∀ b ∈ body.drop q, b < 256 := fun b h => hb b (List.mem_of_mem_drop h)
      refine w_skip ?_
      refine w_seq ?_
      refine w_block ?_
      refine w_seq ?_
      refine w_reg ?_
      refine wl_f (f_move rfl) ?_
      refine wl_e (e_call0 rfl Try.func29 (by kernel_rfl) (fun w hh => rdecode_spec _ (body.drop q) w (rd_behind (hx.old0 hh) hq hA) (by rw [List.length_drop]; omega) hbd)) ?_
      rintro _ _ w3 ⟨_, rfl, tv, rfl, rfl⟩
      refine wl_with fun hh => ?_
      obtain ⟨T1, ct, rfl⟩ := row_slice hh (i := 0) rfl
      clear hh
      refine wl_f (f_move rfl) ?_
      refine wl_f (f_extract rfl rfl) ?_
      refine wl_f (f_extract rfl rfl) ?_
      refine wl_f (f_extract rfl rfl) ?_
      refine wl_e (e_allocs [.slice .none 0 0, .int .i64 0, .int .u64 0] (by kernel_rfl)) ?_
      rintro _ _ w9_6 ⟨b9_6, rfl, rfl⟩
      (first | refine wl_e0 (e_store0 (us := [_, _, _]) rfl rfl rfl (by kernel_rfl) (by simp [Value.oneCell']) rfl rfl) ?_ | refine wl_e0 (e_store1 (us := [_, _, _]) rfl rfl rfl (by kernel_rfl) (by simp [Value.oneCell']) rfl rfl) ?_ | refine wl_e0 (e_store2 (us := [_, _, _]) rfl rfl rfl (by kernel_rfl) (by simp [Value.oneCell']) rfl rfl) ?_ | refine wl_e0 (e_store3 (us := [_, _, _]) rfl rfl rfl (by kernel_rfl) (by simp [Value.oneCell']) rfl rfl) ?_)
      rintro _ _ w9_7 rfl
      refine wl_f (f_assign rfl) ?_
      refine wl_f (f_assign rfl) ?_
      refine wl_end [(1, _), (5, _), (8, _), (9, _), (10, _), (11, _), (12, _), (13, _)] ⟨rfl, rfl, rfl, rfl, rfl, rfl, rfl, rfl, trivial⟩ ?_
      refine w_seq ?_
      refine w_seq ?_
      refine w_reg ?_
      refine wl_f (f_move rfl) ?_
      refine wl_f (f_neq rfl rfl) ?_
      refine wl_end [(1, _), (5, _), (8, _), (9, _), (10, _), (11, _), (12, _), (49, _)] ⟨rfl, rfl, rfl, rfl, rfl, rfl, rfl, rfl, trivial⟩ ?_
      refine w_ifd rfl (fun hc3 => ?_) (fun hc3 => ?_)
      · skip
        rw [if_pos hc3] at hin
        rw [hin] at hrf
        dsimp only at hrf
        refine w_sub [(5, _), (8, _), (10, _)] ⟨rfl, rfl, rfl, trivial⟩ (w_pick [2] rfl ?_)
        refine w_seq ?_
        refine w_block ?_
        refine w_loop (fun k m H w' => ∃ (V : Value) (j : Nat), m = [(5, .int .u64 n), (8, V), (10, .int .u64 ((o.length + j : Nat) : Int))] ∧ H = [row V 46 4 (o ++ List.replicate j badIn).length (incells (o ++ List.replicate j badIn))] ∧ k + o.length + j = n) (n - o.length)
          ⟨_, 0, rfl, by simp, by omega⟩ ?_
        rintro k _ _ w7 ⟨V2, j, rfl, rfl, hk⟩
        refine w_with fun hh => ?_
        obtain ⟨V3, cv3, rfl⟩ := row_slice hh (i := 0) rfl
        clear hh
        have hjl : (o ++ List.replicate j badIn).length = o.length + j := by simp
        refine w_seq ?_
        refine w_seq ?_
        refine w_reg ?_
        refine wl_f (f_move rfl) ?_
        refine wl_f (f_move rfl) ?_
        refine wl_f (f_lss rfl rfl) ?_
        refine wl_end [(5, _), (8, _), (10, _), (52, _)] ⟨rfl, rfl, rfl, rfl, trivial⟩ ?_
        refine w_ifd rfl (fun hc4 => ?_) (fun hc4 => ?_)
        · skip
          refine w_skip ?_
          refine w_seq ?_
          refine w_block ?_
          refine w_reg ?_
          refine wl_f (f_move rfl) ?_
          refine wl_f (f_build rfl (fun w => build_inbad _ w)) ?_
          refine wl_e (e_lit1 (cs := [_, _, _, _]) t34 rfl rfl rfl (by omega)) ?_
          rintro _ _ w13_2 ⟨b13_2, rfl, rfl⟩
          refine wl_e (e_app1 t34 rfl rfl (fun w hh => Rd.held0 hh (i := 0) rfl) (by simp [Value.oneCell']) (by omega) (by omega)) ?_
          rintro v13_3 _ w13_3 rfl
          refine wl_f (f_assign rfl) ?_
          refine wl_pick [1] rfl ?_
          refine wl_end [(5, _), (8, _), (10, _)] ⟨rfl, rfl, rfl, trivial⟩ ?_
          refine w_reg ?_
          refine wl_f (f_move rfl) ?_
          refine wl_f (f_addu rfl rfl (by omega)) ?_
          refine wl_f (f_assign rfl) ?_
          refine wl_end [(5, _), (8, _), (10, _)] ⟨rfl, rfl, rfl, trivial⟩ ?_
          refine ⟨k - 1, by omega, _, j + 1, rfl, ?_, by omega⟩
          rw [show List.replicate (j + 1) badIn = List.replicate j badIn ++ [badIn] from List.replicate_succ', ← List.append_assoc, List.length_append (bs := [badIn]), incells_snoc]
          rfl
        · skip
          have hj : j = n - o.length := by omega
          refine w_exit0 ?_
          refine w_seq ?_
          refine w_reg ?_
          refine wl_f (f_move rfl) ?_
          refine wl_f (f_assign rfl) ?_
          refine wl_end [(4, _)] ⟨rfl, trivial⟩ ?_
          refine w_ret ?_
          refine ⟨_, _, fun a ha hh => results_tmps Try.results14 rfl a ha _, List.Sublist.refl _, ?_⟩
          rw [hrf, if_neg (by simp), List.append_nil, hj]; rfl
      · skip
        rw [if_neg hc3] at hin
        refine w_skip ?_
        refine w_seq ?_
        refine w_reg ?_
        refine wl_f (f_move rfl) ?_
        refine wl_f (f_move rfl) ?_
        refine wl_f (f_sliceA 1 (l := (decF (body.drop q)).1.2.2.2) (u := body.length - q) rfl Try.underlying22 (by kernel_rfl) ⟨_, rfl⟩ rfl hdu (by omega)) ?_
        refine wl_f (f_assign rfl) ?_
        refine wl_end [(1, _), (5, _), (8, _), (9, _), (10, _), (11, _)] ⟨rfl, rfl, rfl, rfl, rfl, rfl, trivial⟩ ?_
        refine w_seq ?_
        refine w_reg ?_
        (first | refine wl_f (f_loadsb (cs := [_, _, _]) 0 rfl Try.underlying40 rfl (by kernel_rfl) rfl rfl) ?_ | refine wl_f (f_loadsb (cs := [_, _, _]) 1 rfl Try.underlying40 rfl (by kernel_rfl) rfl rfl) ?_ | refine wl_f (f_loadsb (cs := [_, _, _]) 2 rfl Try.underlying40 rfl (by kernel_rfl) rfl rfl) ?_ | refine wl_f (f_loadsb (cs := [_, _, _]) 3 rfl Try.underlying40 rfl (by kernel_rfl) rfl rfl) ?_ | refine wl_f (f_loadsb (cs := [_, _, _]) 4 rfl Try.underlying40 rfl (by kernel_rfl) rfl rfl) ?_ | refine wl_f (f_loadsb (cs := [_, _, _]) 5 rfl Try.underlying40 rfl (by kernel_rfl) rfl rfl) ?_ | refine wl_f (f_loadsb (cs := [_, _, _]) 6 rfl Try.underlying40 rfl (by kernel_rfl) rfl rfl) ?_)
        refine wl_e (e_call0 rfl Try.func30 (by kernel_rfl) (fun w hh => ritem_spec _ (decF (body.drop q)).1.1 _ _ w (Rd.held0 hh (i := 1) rfl) (by omega) (fun x hx => by have := hds x hx; omega))) ?_
        rintro _ _ w4 ⟨_, rfl, rfl, rfl⟩
        have hinp : inpF most (decF (body.drop q)).1.1 (decF (body.drop q)).1.2.1 (decF (body.drop q)).1.2.2.1 = if (itemOut (decF (body.drop q)).1.1 (decF (body.drop q)).1.2.1 (decF (body.drop q)).1.2.2.1).2 ≠ 0 then (([], 0, 0), verd (itemOut (decF (body.drop q)).1.1 (decF (body.drop q)).1.2.1 (decF (body.drop q)).1.2.2.1).2)
          else if most < ((itemOut (decF (body.drop q)).1.1 (decF (body.drop q)).1.2.1 (decF (body.drop q)).1.2.2.1).1.1.length : Int) then (([], 0, 0), 2) else ((itemOut (decF (body.drop q)).1.1 (decF (body.drop q)).1.2.1 (decF (body.drop q)).1.2.2.1).1, 0) := rfl
        generalize itemOut (decF (body.drop q)).1.1 (decF (body.drop q)).1.2.1 (decF (body.drop q)).1.2.2.1 = I at hinp ⊢
        obtain ⟨⟨key, it, iw⟩, ie⟩ := I
        dsimp only at hinp ⊢
        refine wl_f (f_move rfl) ?_
        refine wl_f (f_extract rfl rfl) ?_
        refine wl_f (f_extract rfl rfl) ?_
        refine wl_e (e_allocs [.string ByteArray.empty, .int .i64 0, .int .u64 0] (by kernel_rfl)) ?_
        rintro _ _ w16_5 ⟨b16_5, rfl, rfl⟩
        (first | refine wl_e0 (e_store0 (us := [_, _, _]) rfl rfl rfl (by kernel_rfl) (by simp [Value.oneCell']) rfl rfl) ?_ | refine wl_e0 (e_store1 (us := [_, _, _]) rfl rfl rfl (by kernel_rfl) (by simp [Value.oneCell']) rfl rfl) ?_ | refine wl_e0 (e_store2 (us := [_, _, _]) rfl rfl rfl (by kernel_rfl) (by simp [Value.oneCell']) rfl rfl) ?_ | refine wl_e0 (e_store3 (us := [_, _, _]) rfl rfl rfl (by kernel_rfl) (by simp [Value.oneCell']) rfl rfl) ?_)
        rintro _ _ w16_6 rfl
        refine wl_f (f_assign rfl) ?_
        refine wl_end [(1, _), (5, _), (8, _), (9, _), (10, _), (13, _), (14, _)] ⟨rfl, rfl, rfl, rfl, rfl, rfl, rfl, trivial⟩ ?_
        refine w_seq ?_
        refine w_reg ?_
        refine wl_f (f_move rfl) ?_
        refine wl_e (e_call0 rfl Try.func31 (by kernel_rfl) (fun w hh => rverdict_spec _ w)) ?_
        rintro _ _ w5 ⟨_, rfl, rfl, rfl⟩
        refine wl_f (f_assign rfl) ?_
        refine wl_pick [0, 2] rfl ?_
        refine wl_end [(1, _), (5, _), (8, _), (9, _), (10, _), (14, _), (15, _)] ⟨rfl, rfl, rfl, rfl, rfl, rfl, rfl, trivial⟩ ?_
        refine w_seq ?_
        refine w_seq ?_
        refine w_reg ?_
        refine wl_f (f_move rfl) ?_
        refine wl_f (f_eql rfl rfl) ?_
        refine wl_f (f_move rfl) ?_
        refine wl_and (j := 2) (c := decide (most < ((str key).size : Int))) 5 [(1, _), (5, _), (8, _), (9, _), (10, _), (14, _), (15, _)] ⟨rfl, rfl, rfl, rfl, rfl, rfl, rfl, trivial⟩ rfl rfl rfl rfl rfl (fun hg18_8 => ?_) (fun w18_8 => ?_)
        · skip
          refine wl_gf rfl rfl (f_fieldAddr 0 rfl Try.underlying42 rfl rfl (by kernel_rfl)) ?_
          (first | refine wl_gf rfl rfl (f_loadb 0 rfl Try.underlying9 rfl rfl rfl) ?_ | refine wl_gf rfl rfl (f_loadb 1 rfl Try.underlying9 rfl rfl rfl) ?_ | refine wl_gf rfl rfl (f_loadb 2 rfl Try.underlying9 rfl rfl rfl) ?_ | refine wl_gf rfl rfl (f_loadb 3 rfl Try.underlying9 rfl rfl rfl) ?_ | refine wl_gf rfl rfl (f_loadb 4 rfl Try.underlying9 rfl rfl rfl) ?_ | refine wl_gf rfl rfl (f_loadb 5 rfl Try.underlying9 rfl rfl rfl) ?_ | refine wl_gf rfl rfl (f_loadb 6 rfl Try.underlying9 rfl rfl rfl) ?_)
          refine wl_gf rfl rfl (f_lens rfl Try.underlying9) ?_
          refine wl_gf rfl rfl (f_move rfl) ?_
          refine wl_gf rfl rfl (f_gtr rfl rfl) ?_
          exact wl_pend rfl rfl ⟨rfl, rfl, rfl, rfl, rfl, rfl, rfl, trivial⟩ (List.Sublist.refl _)
        refine wl_end [(1, _), (5, _), (8, _), (9, _), (10, _), (14, _), (15, _), (78, _)] ⟨rfl, rfl, rfl, rfl, rfl, rfl, rfl, rfl, trivial⟩ ?_
        refine w_post (fun m H w' => m = [(1, .int .i64 most), (5, .int .u64 n), (8, .slice V1 o.length cv), (9, .slice (if c - q = (decF (body.drop q)).1.2.2.2 then A' else A'.map (·.add ((decF (body.drop q)).1.2.2.2 * 1))) (body.length - q - (decF (body.drop q)).1.2.2.2) (c - q - (decF (body.drop q)).1.2.2.2)), (10, .int .u64 (o.length : Nat)), (14, .pointer (some ⟨b16_5, 0, .none⟩)), (15, .int .i64 (inpF most (decF (body.drop q)).1.1 (decF (body.drop q)).1.2.1 (decF (body.drop q)).1.2.2.1).2)] ∧
        H = [blk b16_5 [.string (str key), .int .i64 it, .int .u64 (iw : Int)] 42, row (.slice V1 o.length cv) 46 4 o.length (incells o)] ∧ ((inpF most (decF (body.drop q)).1.1 (decF (body.drop q)).1.2.1 (decF (body.drop q)).1.2.2.1).2 = 0 → (inpF most (decF (body.drop q)).1.1 (decF (body.drop q)).1.2.1 (decF (body.drop q)).1.2.2.1).1 = (key, it, iw)) ∧
          ((inpF most (decF (body.drop q)).1.1 (decF (body.drop q)).1.2.1 (decF (body.drop q)).1.2.2.1).2 ≠ 0 → (inpF most (decF (body.drop q)).1.1 (decF (body.drop q)).1.2.1 (decF (body.drop q)).1.2.2.1).1 = ([], 0, 0))) ?_ ?_
        · skip
          refine w_ifb rfl (fun hc5 => ?_) (fun hc5 => ?_)
          · skip
            refine w_reg ?_
            refine wl_f (f_assign rfl) ?_
            refine wl_end [(1, _), (5, _), (8, _), (9, _), (10, _), (14, _), (15, _)] ⟨rfl, rfl, rfl, rfl, rfl, rfl, rfl, trivial⟩ ?_
            simp only [Bool.and_eq_true, decide_eq_true_eq, str_size] at hc5
            have he : ie = 0 := (verd_zero ie).1 hc5.1
            rw [if_neg (by omega), if_pos hc5.2] at hinp
            rw [hinp]
            exact ⟨rfl, rfl, fun (h : (2 : Int) = 0) => absurd h (by decide), fun _ => rfl⟩
          · skip
            refine w_sub [(1, _), (5, _), (8, _), (9, _), (10, _), (14, _), (15, _)] ⟨rfl, rfl, rfl, rfl, rfl, rfl, rfl, trivial⟩ (w_skip ?_)
            simp only [Bool.and_eq_true, decide_eq_true_eq, str_size, not_and] at hc5
            by_cases he : ie = 0
            · have h2 := hc5 ((verd_zero ie).2 he)
              rw [if_neg (by omega), if_neg h2] at hinp
              rw [hinp, (verd_zero ie).2 he]
              exact ⟨rfl, rfl, fun _ => rfl, fun h => absurd rfl h⟩
            · rw [if_pos he] at hinp
              rw [hinp]
              exact ⟨rfl, rfl, fun h => absurd ((verd_zero ie).1 h) he, fun _ => rfl⟩
        · rintro _ _ w8 ⟨rfl, rfl, hz1, hz2⟩
          clear hinp
          generalize inpF most (decF (body.drop q)).1.1 (decF (body.drop q)).1.2.1 (decF (body.drop q)).1.2.2.1 = X at hz1 hz2 hin ⊢
          obtain ⟨⟨xk, xt, xw⟩, xv⟩ := X
          dsimp only at hz1 hz2 ⊢
          refine w_seq ?_
          refine w_seq ?_
          refine w_reg ?_
          refine wl_f (f_move rfl) ?_
          refine wl_f (f_neq rfl rfl) ?_
          refine wl_end [(1, _), (5, _), (8, _), (9, _), (10, _), (14, _), (15, _), (80, _)] ⟨rfl, rfl, rfl, rfl, rfl, rfl, rfl, rfl, trivial⟩ ?_
          refine w_post (fun m H w' => m = [(1, .int .i64 most), (5, .int .u64 n), (8, .slice V1 o.length cv), (9, .slice (if c - q = (decF (body.drop q)).1.2.2.2 then A' else A'.map (·.add ((decF (body.drop q)).1.2.2.2 * 1))) (body.length - q - (decF (body.drop q)).1.2.2.2) (c - q - (decF (body.drop q)).1.2.2.2)), (10, .int .u64 (o.length : Nat)), (14, .pointer (some ⟨b16_5, 0, .none⟩)), (15, .int .i64 xv)] ∧
          H = [blk b16_5 [.string (str xk), .int .i64 xt, .int .u64 (xw : Int)] 42, row (.slice V1 o.length cv) 46 4 o.length (incells o)]) ?_ ?_
          · skip
            refine w_ifd rfl (fun hc6 => ?_) (fun hc6 => ?_)
            · skip
              refine w_reg ?_
              refine wl_f (f_build rfl (fun w => build_item00 w)) ?_
              (first | refine wl_e0 (e_store0 (us := [_, _, _]) rfl rfl rfl (by kernel_rfl) (by simp [Value.oneCell']) rfl rfl) ?_ | refine wl_e0 (e_store1 (us := [_, _, _]) rfl rfl rfl (by kernel_rfl) (by simp [Value.oneCell']) rfl rfl) ?_ | refine wl_e0 (e_store2 (us := [_, _, _]) rfl rfl rfl (by kernel_rfl) (by simp [Value.oneCell']) rfl rfl) ?_ | refine wl_e0 (e_store3 (us := [_, _, _]) rfl rfl rfl (by kernel_rfl) (by simp [Value.oneCell']) rfl rfl) ?_)
              rintro _ _ w21_1 rfl
              refine wl_end [(1, _), (5, _), (8, _), (9, _), (10, _), (14, _), (15, _)] ⟨rfl, rfl, rfl, rfl, rfl, rfl, rfl, trivial⟩ ?_
              have h := hz2 hc6
              simp only [Prod.mk.injEq] at h
              obtain ⟨rfl, rfl, rfl⟩ := h
              exact ⟨rfl, rfl⟩
            · skip
              refine w_sub [(1, _), (5, _), (8, _), (9, _), (10, _), (14, _), (15, _)] ⟨rfl, rfl, rfl, rfl, rfl, rfl, rfl, trivial⟩ (w_skip ?_)
              have h := hz1 (by simpa using hc6)
              simp only [Prod.mk.injEq] at h
              obtain ⟨rfl, rfl, rfl⟩ := h
              exact ⟨rfl, rfl⟩
          · rintro _ _ w ⟨rfl, rfl⟩
            refine w_reg ?_
            refine wl_f (f_move rfl) ?_
            (first | refine wl_f (f_loadsb (cs := [_, _, _]) 0 rfl Try.underlying42 rfl (by kernel_rfl) rfl rfl) ?_ | refine wl_f (f_loadsb (cs := [_, _, _]) 1 rfl Try.underlying42 rfl (by kernel_rfl) rfl rfl) ?_ | refine wl_f (f_loadsb (cs := [_, _, _]) 2 rfl Try.underlying42 rfl (by kernel_rfl) rfl rfl) ?_ | refine wl_f (f_loadsb (cs := [_, _, _]) 3 rfl Try.underlying42 rfl (by kernel_rfl) rfl rfl) ?_ | refine wl_f (f_loadsb (cs := [_, _, _]) 4 rfl Try.underlying42 rfl (by kernel_rfl) rfl rfl) ?_ | refine wl_f (f_loadsb (cs := [_, _, _]) 5 rfl Try.underlying42 rfl (by kernel_rfl) rfl rfl) ?_ | refine wl_f (f_loadsb (cs := [_, _, _]) 6 rfl Try.underlying42 rfl (by kernel_rfl) rfl rfl) ?_)
            refine wl_f (f_move rfl) ?_
            refine wl_f (f_build rfl (fun w => build_in _ _ _ _ w)) ?_
            refine wl_e (e_lit1 (cs := [_, _, _, _]) t34 rfl rfl rfl (by omega)) ?_
            rintro _ _ w22_4 ⟨b22_4, rfl, rfl⟩
            refine wl_e (e_appN 2 t34 rfl rfl rfl (fun w hh => Rd.held0 hh (i := 0) rfl) (by simp [Value.oneCell']) (by omega) (by omega)) ?_
            rintro _ _ w9 ⟨⟨U5, c5, rfl⟩, rfl⟩
            refine wl_f (f_assign rfl) ?_
            refine wl_pick [2] rfl ?_
            refine wl_end [(1, _), (5, _), (8, _), (9, _), (10, _)] ⟨rfl, rfl, rfl, rfl, rfl, trivial⟩ ?_
            refine w_reg ?_
            refine wl_f (f_move rfl) ?_
            refine wl_f (f_addu rfl rfl (by omega)) ?_
            refine wl_f (f_assign rfl) ?_
            refine wl_end [(1, _), (5, _), (8, _), (9, _), (10, _)] ⟨rfl, rfl, rfl, rfl, rfl, trivial⟩ ?_
            refine ⟨k', by omega, o ++ [((xk, xt, xw), xv)], .slice U5 (o.length + 1) c5, q + (decF (body.drop q)).1.2.2.2, _, by rw [Nat.sub_sub, Nat.sub_sub, List.length_append]; rfl, ?_, by omega, behind_step hA, by simp; omega, ?_⟩
            · rw [List.length_append, incells_snoc]; rfl
            · rw [hin, List.drop_drop]; simp
    · skip
      obtain rfl : k = 0 := by omega
      rw [hin] at hrf
      simp only [inpsF, List.append_nil, if_true] at hrf
      refine w_exit0 ?_
      refine w_seq ?_
      refine w_seq ?_
      refine w_reg ?_
      refine wl_f (f_move rfl) ?_
      refine wl_f (f_len rfl Try.underlying22) ?_
      refine wl_f (f_gtr rfl rfl) ?_
      refine wl_end [(8, _), (90, _)] ⟨rfl, rfl, trivial⟩ ?_
      refine w_post (fun m H w' => ∃ V, m = [(8, V)] ∧ H = [row V 46 4 (readF body most).length (incells (readF body most))]) ?_ ?_
      · skip
        refine w_ifd rfl (fun hc7 => ?_) (fun hc7 => ?_)
        · skip
          have hne : body.drop q ≠ [] := fun h => by have := congrArg List.length h; rw [List.length_drop] at this; simp at this; omega
          refine w_reg ?_
          refine wl_f (f_move rfl) ?_
          refine wl_f (f_build rfl (fun w => build_inbad _ w)) ?_
          refine wl_e (e_lit1 (cs := [_, _, _, _]) t34 rfl rfl rfl (by omega)) ?_
          rintro _ _ w24_2 ⟨b24_2, rfl, rfl⟩
          refine wl_e (e_app1 t34 rfl rfl (fun w hh => Rd.held0 hh (i := 0) rfl) (by simp [Value.oneCell']) (by omega) (by omega)) ?_
          rintro v24_3 _ w24_3 rfl
          refine wl_f (f_assign rfl) ?_
          refine wl_pick [1] rfl ?_
          refine wl_end [(8, _)] ⟨rfl, trivial⟩ ?_
          exact ⟨_, rfl, by rw [hrf, if_neg hne, List.length_append, incells_snoc]; rfl⟩
        · skip
          refine w_sub [(8, _)] ⟨rfl, trivial⟩ (w_skip ?_)
          exact ⟨_, rfl, by rw [hrf, if_pos (List.drop_eq_nil_of_le (by omega))]⟩
      · rintro _ _ w10 ⟨V9, rfl, rfl⟩
        refine w_seq ?_
        refine w_reg ?_
        refine wl_f (f_move rfl) ?_
        refine wl_f (f_assign rfl) ?_
        refine wl_end [(4, _)] ⟨rfl, trivial⟩ ?_
        refine w_ret ?_
        refine ⟨_, _, fun a ha hh => results_tmps Try.results14 rfl a ha _, List.Sublist.refl _, ?_⟩
        rfl
end Go.Proofs.Ythbjjfpikfmmnaa
