/- The law FrameLength: the call returns true. -/
import Derived.Test.YthbjjfpikfmmnaaF7
namespace Go.Proofs.Ythbjjfpikfmmnaa
open Go.RowKit

theorem held_rdE {w0 w : World} {F0 : Nat → Prop} {H : List Res} {r : Value} {E : List Ev} {i j : Nat} (hh : Holds w0 F0 H w) (hi : H[i]? = some (row r 40 3 E.length (ecells E))) (hj : H[j]? = some (bun (E.map trow))) (hd : ∀ x ∈ E, deckEv 50 x) : RdE w r E :=
  deck_rdE (Rd.held0 hh hi) (fun x hx => by
    obtain ⟨k, hk⟩ := List.getElem?_of_mem hx
    exact Rd.heldB hh hj (j := k) (by rw [List.getElem?_map, hk]; rfl)) hd

set_option maxHeartbeats 4000000 in
theorem frameLength_spec (D : Option Addr) (dc : Nat) (L : List Int) (w : World) (hd : Rd w Nil 1 (.slice D L.length dc) L.length (iv L)) (hL : L.length ≤ 140737488355328) :
    Spec Try.prog 7 [.slice D L.length dc] w Nil fun r _ => r = .bool true := by
  refine enter (n := 63) Try.func7 rfl rfl [(0, _)] rfl ⟨rfl, trivial⟩ (Holds.start _ _) ?_
  refine w_seq ?_
  refine w_reg ?_
  refine wl_f (f_assign rfl) ?_
  refine wl_end [(0, _)] ⟨rfl, trivial⟩ ?_
  refine w_seq ?_
  refine w_reg ?_
  refine wl_f (f_move rfl) ?_
  refine wl_e (e_call0 rfl Try.func10 (by kernel_rfl) (fun w hh => new_spec D _ dc w)) ?_
  rintro _ _ w1 ⟨_, rfl, b1, rfl, rfl⟩
  refine wl_e (e_call1 (deck b1 (.slice D L.length dc) 0) [] rfl Try.func11 (by kernel_rfl) (List.Perm.refl _) (fun w hh hs' => events_spec b1 _ L 0 50 10 w (by omega) (by omega) ⟨hd.old1 hh (Hr := []) (List.Perm.refl _), hL, Nat.zero_le _⟩ hs')) ?_
  rintro V _ w2 ⟨_, rfl, E, p1, hE1, hE2, hE, rfl, hp1⟩
  refine wl_f (f_assign rfl) ?_
  refine wl_pick [0, 0] rfl ?_
  refine wl_end [(3, _)] ⟨rfl, trivial⟩ ?_
  refine w_seq ?_
  refine w_reg ?_
  refine wl_f (f_move rfl) ?_
  refine wl_e (e_call0 rfl Try.func15 (by kernel_rfl) (fun w hh => body_spec _ E w (held_rdE hh (i := 0) (j := 1) rfl rfl hE) (by omega))) ?_
  rintro _ _ w3 ⟨_, rfl, V2, rfl, rfl⟩
  refine wl_f (f_move rfl) ?_
  refine wl_f (f_extract rfl rfl) ?_
  refine wl_f (f_extract rfl rfl) ?_
  refine wl_f (f_assign rfl) ?_
  refine wl_f (f_assign rfl) ?_
  refine wl_end [(3, _), (4, _), (5, _)] ⟨rfl, rfl, rfl, trivial⟩ ?_
  refine w_seq ?_
  refine w_reg ?_
  refine wl_f (f_move rfl) ?_
  refine wl_e (e_call0 rfl Try.func18 (by kernel_rfl) (fun w hh => frame_spec _ E w (held_rdE hh (i := 1) (j := 2) rfl rfl hE) (by omega))) ?_
  rintro _ _ w4 ⟨_, rfl, V3, rfl, rfl⟩
  have hbo := bodyOut_deck hE1 (by omega) hE
  have hle := bodyOut_le E
  have hlt := bodyOut_lt E (by omega) fun x hx => (hE x hx).2.2.2.2
  have hfo : frameOut E = (venc (bodyOut E).1.length ++ (bodyOut E).1, 0) := by rw [frameOut, if_neg (by rw [hbo]; simp)]
  have hb0 : (bodyOut E).2 = 0 := by rw [hbo]
  rw [hfo]
  generalize bodyOut E = B at hle hlt hb0 ⊢
  obtain ⟨B, e⟩ := B
  dsimp only at hle hlt hb0 ⊢
  subst hb0
  have hvl := venc_len B.length
  have hfl : (venc B.length ++ B).length = (venc B.length).length + B.length := List.length_append
  have hflt : ∀ b ∈ venc B.length ++ B, b < 256 := fun b hb => (List.mem_append.1 hb).elim (venc_lt (by omega) b) (hlt b)
  refine wl_with fun hh => ?_
  obtain ⟨A2, c2, rfl⟩ := row_slice hh (i := 1) rfl
  obtain ⟨A3, c3, rfl⟩ := row_slice hh (i := 0) rfl
  have hc3 : (venc B.length ++ B).length ≤ c3 := by
    obtain ⟨_, _, e, _, h, _⟩ := Rd.held0 hh (i := 0) rfl
    injection e with _ _ e
    subst e
    exact h
  clear hh
  refine wl_f (f_move rfl) ?_
  refine wl_f (f_extract rfl rfl) ?_
  refine wl_f (f_extract rfl rfl) ?_
  refine wl_f (f_assign rfl) ?_
  refine wl_f (f_assign rfl) ?_
  refine wl_pick [0, 0] rfl ?_
  refine wl_end [(4, _), (5, _), (6, _), (7, _)] ⟨rfl, rfl, rfl, rfl, trivial⟩ ?_
  refine w_seq ?_
  refine w_reg ?_
  refine wl_f (f_move rfl) ?_
  refine wl_e (e_call0 rfl Try.func21 (by kernel_rfl) (fun w hh => read_spec _ (venc B.length ++ B) w (Rd.held0 hh (i := 0) rfl) (by omega) hflt)) ?_
  rintro _ _ w5 ⟨_, rfl, rfl, rfl⟩
  rw [readL_venc _ _ (by omega)]
  dsimp only
  refine wl_f (f_move rfl) ?_
  refine wl_f (f_extract rfl rfl) ?_
  refine wl_f (f_extract rfl rfl) ?_
  refine wl_f (f_extract rfl rfl) ?_
  refine wl_f (f_assign rfl) ?_
  refine wl_f (f_assign rfl) ?_
  refine wl_f (f_assign rfl) ?_
  refine wl_end [(4, _), (5, _), (6, _), (7, _), (8, _), (9, _), (10, _)] ⟨rfl, rfl, rfl, rfl, rfl, rfl, rfl, trivial⟩ ?_
  refine w_seq ?_
  refine w_reg ?_
  refine wl_f (f_move rfl) ?_
  refine wl_f (f_eql rfl rfl) ?_
  refine wl_f (f_move rfl) ?_
  refine wl_and (j := 2) (c := decide ((0 : Int) = 0)) 2 [(4, _), (6, _), (8, _), (9, _), (10, _)] ⟨rfl, rfl, rfl, rfl, rfl, trivial⟩ rfl rfl rfl rfl rfl (fun hg5_5 => ?_) (fun w5_5 => ?_)
  · skip
    refine wl_gf rfl rfl (f_move rfl) ?_
    refine wl_gf rfl rfl (f_eql rfl rfl) ?_
    exact wl_pend rfl rfl ⟨rfl, rfl, rfl, rfl, rfl, trivial⟩ (List.Sublist.refl _)
  refine wl_f (f_move rfl) ?_
  refine wl_and (j := 6) (c := decide ((0 : Int) = 0)) 2 [(4, _), (6, _), (8, _), (9, _)] ⟨rfl, rfl, rfl, rfl, trivial⟩ rfl rfl rfl rfl rfl (fun hg5_9 => ?_) (fun w5_9 => ?_)
  · skip
    refine wl_gf rfl rfl (f_move rfl) ?_
    refine wl_gf rfl rfl (f_eql rfl rfl) ?_
    exact wl_pend rfl rfl ⟨rfl, rfl, rfl, rfl, trivial⟩ (List.Sublist.refl _)
  refine wl_f (f_move rfl) ?_
  refine wl_and (j := 10) (c := decide ((B.length : Int) = (B.length : Int))) 5 [(4, _), (6, _), (9, _)] ⟨rfl, rfl, rfl, trivial⟩ rfl rfl rfl rfl rfl (fun hg5_16 => ?_) (fun w5_16 => ?_)
  · skip
    refine wl_gf rfl rfl (f_move rfl) ?_
    refine wl_gf rfl rfl (f_move rfl) ?_
    refine wl_gf rfl rfl (f_len rfl Try.underlying22) ?_
    refine wl_gf rfl rfl (f_convu rfl Try.underlying3 Try.underlying38 (by omega)) ?_
    refine wl_gf rfl rfl (f_eql rfl rfl) ?_
    exact wl_pend rfl rfl ⟨rfl, rfl, rfl, trivial⟩ (List.Sublist.refl _)
  refine wl_f (f_move rfl) ?_
  refine wl_and (j := 17) (c := decide (((venc B.length).length : Int) ≤ ((venc B.length ++ B).length : Int))) 4 [(4, _), (6, _), (9, _)] ⟨rfl, rfl, rfl, trivial⟩ rfl rfl rfl rfl rfl (fun hg5_22 => ?_) (fun w5_22 => ?_)
  · skip
    refine wl_gf rfl rfl (f_move rfl) ?_
    refine wl_gf rfl rfl (f_move rfl) ?_
    refine wl_gf rfl rfl (f_len rfl Try.underlying22) ?_
    refine wl_gf rfl rfl (f_leq rfl rfl) ?_
    exact wl_pend rfl rfl ⟨rfl, rfl, rfl, trivial⟩ (List.Sublist.refl _)
  refine wl_f (f_move rfl) ?_
  refine wl_and (j := 23) (c := decide (B = B)) 5 [] trivial rfl rfl rfl rfl rfl (fun hg5_29 => ?_) (fun w5_29 => ?_)
  · skip
    refine wl_gf rfl rfl (f_move rfl) ?_
    refine wl_gf rfl rfl (f_move rfl) ?_
    refine wl_gf rfl rfl (f_sliceA 1 (l := (venc B.length).length) (u := (venc B.length ++ B).length) rfl Try.underlying22 (by kernel_rfl) ⟨_, rfl⟩ rfl (by omega) (by omega)) ?_
    refine wl_gf rfl rfl (f_move rfl) ?_
    refine wl_ge rfl rfl (e_call0 rfl Try.func20 (by kernel_rfl) (fun w hh => same_spec _ _ B B w (by have h := rd_behind (A' := if c3 = (venc B.length).length then A3 else A3.map (·.add ((venc B.length).length * 1))) (q := (venc B.length).length) (Rd.held0 hh (i := 0) rfl) (by omega) (fun h => (by rw [if_neg (by omega)]; simp)); rw [List.drop_left] at h; exact h) (Rd.held0 hh (i := 1) rfl) (by omega) (by omega))) ?_
    rintro _ _ w6 ⟨_, rfl, rfl, rfl⟩
    exact wl_pend rfl rfl trivial (List.Sublist.refl _)
  refine wl_f (f_move rfl) ?_
  refine wl_and (j := 30) (c := true) 1 [] trivial rfl rfl rfl rfl rfl (fun hg5_32 => ?_) (fun w5_32 => ?_)
  · skip
    refine wl_ge rfl rfl (e_call0 rfl Try.func8 (by kernel_rfl) (fun w hh => fawake_spec w)) ?_
    rintro _ _ w7 ⟨_, rfl, rfl, rfl⟩
    exact wl_pend rfl rfl trivial (List.Sublist.refl _)
  refine wl_f (f_assign rfl) ?_
  refine wl_end [(2, _)] ⟨rfl, trivial⟩ ?_
  refine w_ret ?_
  refine ⟨_, _, fun a ha hh => results_tmps Try.results7 rfl a ha _, List.Sublist.refl _, ?_⟩
  simp [tup]; omega
end Go.Proofs.Ythbjjfpikfmmnaa
