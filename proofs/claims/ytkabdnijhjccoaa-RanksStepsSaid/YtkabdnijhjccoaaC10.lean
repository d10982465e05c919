/- Linked lists: all values. -/
import Derived.Test.YtkabdnijhjccoaaC9
namespace Go.Proofs.Ytkabdnijhjccoaa
open Go.RowKit

theorem nodes_cons {α : Type} {l : List (Nat × α)} {x : Nat} {t : List Nat} (h : nodes l = x :: t) : ∃ a B, l = (x, a) :: B := by
  cases l with
  | nil => simp at h
  | cons p B =>
    simp only [nodes, List.map_cons, List.cons.injEq] at h
    obtain ⟨rfl, _⟩ := h
    exact ⟨p.2, B, rfl⟩
set_option maxHeartbeats 1000000 in
theorem ivalues_spec (b n : Nat) (l : List (Nat × (Int))) (r : Res) (w : World) (hn : n ≤ 8192) (hr : ChR kInt b n l r) (hs : Holds w r.foot [r] w) :
    Spec Try.prog 38 [.pointer (some ⟨b, 0, .none⟩)] w r.foot fun u H => H = [row u 3 1 l.length (vcells kInt (l.map Prod.snd)), r] := by
  obtain ⟨uV, nV, pV, vV, used, nx, pv, vs, rfl, hc⟩ := id hr
  have hle := hc.le
  have hln := hc.len
  refine enter (n := 31) Try.func38 rfl rfl [(0, _)] rfl ⟨rfl, trivial⟩ hs ?_
  refine w_seq ?_
  refine w_reg ?_
  refine wl_f (f_assign rfl) ?_
  refine wl_end [(0, _)] ⟨rfl, trivial⟩ ?_
  refine w_seq ?_
  refine w_seq ?_
  refine w_reg ?_
  refine wl_f (f_move rfl) ?_
  refine wl_f (f_eqlnil rfl rfl Try.underlying34) ?_
  refine wl_end [(0, _), (6, _)] ⟨rfl, rfl, trivial⟩ ?_
  refine w_iff rfl ?_
  refine w_skip ?_
  refine w_seq ?_
  refine w_reg ?_
  refine wl_f (f_assign rfl) ?_
  refine wl_end [(0, _), (3, _)] ⟨rfl, rfl, trivial⟩ ?_
  refine w_seq ?_
  refine w_seq ?_
  refine w_reg ?_
  refine wl_f (f_move rfl) ?_
  refine wl_f (f_nilCheck rfl) ?_
  refine wl_f (f_fieldAddr 2 rfl Try.underlying86 rfl rfl (by kernel_rfl)) ?_
  refine wl_f (f_loadB 0 0 rfl rfl rfl Try.underlying3 rfl rfl) ?_
  refine wl_f (f_assign rfl) ?_
  refine wl_end [(0, _), (3, _), (4, _)] ⟨rfl, rfl, rfl, trivial⟩ ?_
  refine w_block ?_
  refine w_nilrow 3 1 ?_
  refine w_loop (fun k m H w => ∃ (u : Value) (done rest : List (Nat × (Int))), m = [(0, .pointer (some ⟨b, 0, .none⟩)), (3, u), (4, .int .i64 (hdE (-1) (nodes rest)))] ∧
    H = [row u 3 1 done.length (vcells kInt (done.map Prod.snd)), bun (chs kInt b n l uV nV pV vV used nx pv vs)] ∧ k = rest.length ∧ l = done ++ rest) l.length ⟨_, [], l, rfl, rfl, rfl, rfl⟩ ?_
  rintro k _ _ w1 ⟨u, done, rest, rfl, rfl, rfl, hl⟩
  refine w_seq ?_
  refine w_seq ?_
  refine w_reg ?_
  refine wl_f (f_move rfl) ?_
  refine wl_f (f_neq rfl rfl) ?_
  refine wl_end [(0, _), (3, _), (4, _), (12, _)] ⟨rfl, rfl, rfl, rfl, trivial⟩ ?_
  refine w_ifd rfl (fun hc2 => ?_) (fun hc2 => ?_)
  · skip
    obtain ⟨x, t, hx⟩ := hdE_cons hc2
    obtain ⟨a, B, rfl⟩ := nodes_cons hx
    clear hx
    subst hl
    have hlt := hc.atlt
    have hdl : (done ++ (x, a) :: B).length = done.length + B.length + 1 := by simp; omega
    refine w_with fun hh => ?_
    obtain ⟨g2, c2, e2⟩ := rowB_form hh (i := 1) (j := 2) rfl rfl (by omega)
    obtain ⟨g4, c4, e4⟩ := rowB_form hh (i := 1) (j := 4) rfl rfl (by omega)
    subst e2; subst e4
    clear hh
    refine w_skip ?_
    refine w_seq ?_
    refine w_block ?_
    refine w_reg ?_
    refine wl_f (f_move rfl) ?_
    refine wl_f (f_move rfl) ?_
    refine wl_f (f_nilCheck rfl) ?_
    refine wl_f (f_fieldAddr 7 rfl Try.underlying86 rfl rfl (by kernel_rfl)) ?_
    refine wl_f (f_loadB 1 0 rfl rfl rfl Try.underlying33 rfl rfl) ?_
    refine wl_f (f_move rfl) ?_
    refine wl_f (f_indexAddr 1 (i := x) rfl rfl Try.underlying33 (by kernel_rfl) rfl hlt) ?_
    refine wl_f (f_loadBr1 (v := .int .i64 a) 1 4 rfl rfl rfl Try.underlying3 rfl (vcells_get kInt kInt_len hc.at)) ?_
    refine wl_e (e_lit1 (cs := [_]) t33 rfl rfl rfl (by omega)) ?_
    rintro _ _ w7_8 ⟨b7_8, rfl, rfl⟩
    refine wl_e (e_app1 t33 rfl rfl (fun w hh => Rd.held0 hh (i := 0) rfl) (by simp [Value.oneCell', kBuc]) (by omega) (by omega)) ?_
    rintro v7_9 _ w7_9 rfl
    refine wl_f (f_assign rfl) ?_
    refine wl_pick [1, 1] rfl ?_
    refine wl_end [(0, _), (3, _), (4, _)] ⟨rfl, rfl, rfl, trivial⟩ ?_
    refine w_reg ?_
    refine wl_f (f_move rfl) ?_
    refine wl_f (f_nilCheck rfl) ?_
    refine wl_f (f_fieldAddr 5 rfl Try.underlying86 rfl rfl (by kernel_rfl)) ?_
    refine wl_f (f_loadB 1 0 rfl rfl rfl Try.underlying33 rfl rfl) ?_
    refine wl_f (f_move rfl) ?_
    refine wl_f (f_indexAddr 1 (i := x) rfl rfl Try.underlying33 (by kernel_rfl) rfl hlt) ?_
    refine wl_f (f_loadBr (v := .int .i64 (hdE (-1) (nodes B))) 1 2 rfl rfl rfl Try.underlying3 rfl (map_get (Value.int .i64) hc.next)) ?_
    refine wl_f (f_assign rfl) ?_
    refine wl_end [(0, _), (3, _), (4, _)] ⟨rfl, rfl, rfl, trivial⟩ ?_
    exact ⟨B.length, by simp, _, done ++ [(x, a)], B, rfl, by rw [List.length_append, List.map_append, vcells_app]; rfl, rfl, by simp⟩
  · skip
    have hr0 : rest = [] := by simpa using hdE_nil (Classical.not_not.1 hc2)
    subst hr0
    rw [List.append_nil] at hl
    subst hl
    refine w_exit0 ?_
    refine w_seq ?_
    refine w_reg ?_
    refine wl_f (f_move rfl) ?_
    refine wl_f (f_assign rfl) ?_
    refine wl_end [(2, _)] ⟨rfl, trivial⟩ ?_
    refine w_ret ?_
    refine ⟨_, _, fun a ha hh => results_tmps Try.results38 rfl a ha _, List.Sublist.refl _, ?_⟩
    rfl
set_option maxHeartbeats 1000000 in
theorem svalues_spec (b n : Nat) (l : List (Nat × (ByteArray))) (r : Res) (w : World) (hn : n ≤ 8192) (hr : ChR kStr b n l r) (hs : Holds w r.foot [r] w) :
    Spec Try.prog 15 [.pointer (some ⟨b, 0, .none⟩)] w r.foot fun u H => H = [row u 9 1 l.length (vcells kStr (l.map Prod.snd)), r] := by
  obtain ⟨uV, nV, pV, vV, used, nx, pv, vs, rfl, hc⟩ := id hr
  have hle := hc.le
  have hln := hc.len
  refine enter (n := 31) Try.func15 rfl rfl [(0, _)] rfl ⟨rfl, trivial⟩ hs ?_
  refine w_seq ?_
  refine w_reg ?_
  refine wl_f (f_assign rfl) ?_
  refine wl_end [(0, _)] ⟨rfl, trivial⟩ ?_
  refine w_seq ?_
  refine w_seq ?_
  refine w_reg ?_
  refine wl_f (f_move rfl) ?_
  refine wl_f (f_eqlnil rfl rfl Try.underlying23) ?_
  refine wl_end [(0, _), (6, _)] ⟨rfl, rfl, trivial⟩ ?_
  refine w_iff rfl ?_
  refine w_skip ?_
  refine w_seq ?_
  refine w_reg ?_
  refine wl_f (f_assign rfl) ?_
  refine wl_end [(0, _), (3, _)] ⟨rfl, rfl, trivial⟩ ?_
  refine w_seq ?_
  refine w_seq ?_
  refine w_reg ?_
  refine wl_f (f_move rfl) ?_
  refine wl_f (f_nilCheck rfl) ?_
  refine wl_f (f_fieldAddr 2 rfl Try.underlying83 rfl rfl (by kernel_rfl)) ?_
  refine wl_f (f_loadB 0 0 rfl rfl rfl Try.underlying3 rfl rfl) ?_
  refine wl_f (f_assign rfl) ?_
  refine wl_end [(0, _), (3, _), (4, _)] ⟨rfl, rfl, rfl, trivial⟩ ?_
  refine w_block ?_
  refine w_nilrow 9 1 ?_
  refine w_loop (fun k m H w => ∃ (u : Value) (done rest : List (Nat × (ByteArray))), m = [(0, .pointer (some ⟨b, 0, .none⟩)), (3, u), (4, .int .i64 (hdE (-1) (nodes rest)))] ∧
    H = [row u 9 1 done.length (vcells kStr (done.map Prod.snd)), bun (chs kStr b n l uV nV pV vV used nx pv vs)] ∧ k = rest.length ∧ l = done ++ rest) l.length ⟨_, [], l, rfl, rfl, rfl, rfl⟩ ?_
  rintro k _ _ w1 ⟨u, done, rest, rfl, rfl, rfl, hl⟩
  refine w_seq ?_
  refine w_seq ?_
  refine w_reg ?_
  refine wl_f (f_move rfl) ?_
  refine wl_f (f_neq rfl rfl) ?_
  refine wl_end [(0, _), (3, _), (4, _), (12, _)] ⟨rfl, rfl, rfl, rfl, trivial⟩ ?_
  refine w_ifd rfl (fun hc2 => ?_) (fun hc2 => ?_)
  · skip
    obtain ⟨x, t, hx⟩ := hdE_cons hc2
    obtain ⟨a, B, rfl⟩ := nodes_cons hx
    clear hx
    subst hl
    have hlt := hc.atlt
    have hdl : (done ++ (x, a) :: B).length = done.length + B.length + 1 := by simp; omega
    refine w_with fun hh => ?_
    obtain ⟨g2, c2, e2⟩ := rowB_form hh (i := 1) (j := 2) rfl rfl (by omega)
    obtain ⟨g4, c4, e4⟩ := rowB_form hh (i := 1) (j := 4) rfl rfl (by omega)
    subst e2; subst e4
    clear hh
    refine w_skip ?_
    refine w_seq ?_
    refine w_block ?_
    refine w_reg ?_
    refine wl_f (f_move rfl) ?_
    refine wl_f (f_move rfl) ?_
    refine wl_f (f_nilCheck rfl) ?_
    refine wl_f (f_fieldAddr 7 rfl Try.underlying83 rfl rfl (by kernel_rfl)) ?_
    refine wl_f (f_loadB 1 0 rfl rfl rfl Try.underlying22 rfl rfl) ?_
    refine wl_f (f_move rfl) ?_
    refine wl_f (f_indexAddr 1 (i := x) rfl rfl Try.underlying22 (by kernel_rfl) rfl hlt) ?_
    refine wl_f (f_loadBr1 (v := .string a) 1 4 rfl rfl rfl Try.underlying9 rfl (vcells_get kStr kStr_len hc.at)) ?_
    refine wl_e (e_lit1 (cs := [_]) t22 rfl rfl rfl (by omega)) ?_
    rintro _ _ w7_8 ⟨b7_8, rfl, rfl⟩
    refine wl_e (e_app1 t22 rfl rfl (fun w hh => Rd.held0 hh (i := 0) rfl) (by simp [Value.oneCell', kBuc]) (by omega) (by omega)) ?_
    rintro v7_9 _ w7_9 rfl
    refine wl_f (f_assign rfl) ?_
    refine wl_pick [1, 1] rfl ?_
    refine wl_end [(0, _), (3, _), (4, _)] ⟨rfl, rfl, rfl, trivial⟩ ?_
    refine w_reg ?_
    refine wl_f (f_move rfl) ?_
    refine wl_f (f_nilCheck rfl) ?_
    refine wl_f (f_fieldAddr 5 rfl Try.underlying83 rfl rfl (by kernel_rfl)) ?_
    refine wl_f (f_loadB 1 0 rfl rfl rfl Try.underlying33 rfl rfl) ?_
    refine wl_f (f_move rfl) ?_
    refine wl_f (f_indexAddr 1 (i := x) rfl rfl Try.underlying33 (by kernel_rfl) rfl hlt) ?_
    refine wl_f (f_loadBr (v := .int .i64 (hdE (-1) (nodes B))) 1 2 rfl rfl rfl Try.underlying3 rfl (map_get (Value.int .i64) hc.next)) ?_
    refine wl_f (f_assign rfl) ?_
    refine wl_end [(0, _), (3, _), (4, _)] ⟨rfl, rfl, rfl, trivial⟩ ?_
    exact ⟨B.length, by simp, _, done ++ [(x, a)], B, rfl, by rw [List.length_append, List.map_append, vcells_app]; rfl, rfl, by simp⟩
  · skip
    have hr0 : rest = [] := by simpa using hdE_nil (Classical.not_not.1 hc2)
    subst hr0
    rw [List.append_nil] at hl
    subst hl
    refine w_exit0 ?_
    refine w_seq ?_
    refine w_reg ?_
    refine wl_f (f_move rfl) ?_
    refine wl_f (f_assign rfl) ?_
    refine wl_end [(2, _)] ⟨rfl, trivial⟩ ?_
    refine w_ret ?_
    refine ⟨_, _, fun a ha hh => results_tmps Try.results15 rfl a ha _, List.Sublist.refl _, ?_⟩
    rfl
set_option maxHeartbeats 1000000 in
theorem bvalues_spec (b n : Nat) (l : List (Nat × (Nat × Option Nat))) (r : Res) (w : World) (hn : n ≤ 8192) (hr : ChR kBuc b n l r) (hs : Holds w r.foot [r] w) :
    Spec Try.prog 72 [.pointer (some ⟨b, 0, .none⟩)] w r.foot fun u H => H = [row u 92 2 l.length (vcells kBuc (l.map Prod.snd)), r] := by
  obtain ⟨uV, nV, pV, vV, used, nx, pv, vs, rfl, hc⟩ := id hr
  have hle := hc.le
  have hln := hc.len
  refine enter (n := 31) Try.func72 rfl rfl [(0, _)] rfl ⟨rfl, trivial⟩ hs ?_
  refine w_seq ?_
  refine w_reg ?_
  refine wl_f (f_assign rfl) ?_
  refine wl_end [(0, _)] ⟨rfl, trivial⟩ ?_
  refine w_seq ?_
  refine w_seq ?_
  refine w_reg ?_
  refine wl_f (f_move rfl) ?_
  refine wl_f (f_eqlnil rfl rfl Try.underlying88) ?_
  refine wl_end [(0, _), (6, _)] ⟨rfl, rfl, trivial⟩ ?_
  refine w_iff rfl ?_
  refine w_skip ?_
  refine w_seq ?_
  refine w_reg ?_
  refine wl_f (f_assign rfl) ?_
  refine wl_end [(0, _), (3, _)] ⟨rfl, rfl, trivial⟩ ?_
  refine w_seq ?_
  refine w_seq ?_
  refine w_reg ?_
  refine wl_f (f_move rfl) ?_
  refine wl_f (f_nilCheck rfl) ?_
  refine wl_f (f_fieldAddr 2 rfl Try.underlying107 rfl rfl (by kernel_rfl)) ?_
  refine wl_f (f_loadB 0 0 rfl rfl rfl Try.underlying3 rfl rfl) ?_
  refine wl_f (f_assign rfl) ?_
  refine wl_end [(0, _), (3, _), (4, _)] ⟨rfl, rfl, rfl, trivial⟩ ?_
  refine w_block ?_
  refine w_nilrow 92 2 ?_
  refine w_loop (fun k m H w => ∃ (u : Value) (done rest : List (Nat × (Nat × Option Nat))), m = [(0, .pointer (some ⟨b, 0, .none⟩)), (3, u), (4, .int .i64 (hdE (-1) (nodes rest)))] ∧
    H = [row u 92 2 done.length (vcells kBuc (done.map Prod.snd)), bun (chs kBuc b n l uV nV pV vV used nx pv vs)] ∧ k = rest.length ∧ l = done ++ rest) l.length ⟨_, [], l, rfl, rfl, rfl, rfl⟩ ?_
  rintro k _ _ w1 ⟨u, done, rest, rfl, rfl, rfl, hl⟩
  refine w_seq ?_
  refine w_seq ?_
  refine w_reg ?_
  refine wl_f (f_move rfl) ?_
  refine wl_f (f_neq rfl rfl) ?_
  refine wl_end [(0, _), (3, _), (4, _), (12, _)] ⟨rfl, rfl, rfl, rfl, trivial⟩ ?_
  refine w_ifd rfl (fun hc2 => ?_) (fun hc2 => ?_)
  · skip
    obtain ⟨x, t, hx⟩ := hdE_cons hc2
    obtain ⟨a, B, rfl⟩ := nodes_cons hx
    clear hx
    subst hl
    have hlt := hc.atlt
    have hdl : (done ++ (x, a) :: B).length = done.length + B.length + 1 := by simp; omega
    refine w_with fun hh => ?_
    obtain ⟨g2, c2, e2⟩ := rowB_form hh (i := 1) (j := 2) rfl rfl (by omega)
    obtain ⟨g4, c4, e4⟩ := rowB_form hh (i := 1) (j := 4) rfl rfl (by omega)
    subst e2; subst e4
    clear hh
    refine w_skip ?_
    refine w_seq ?_
    refine w_block ?_
    refine w_reg ?_
    refine wl_f (f_move rfl) ?_
    refine wl_f (f_move rfl) ?_
    refine wl_f (f_nilCheck rfl) ?_
    refine wl_f (f_fieldAddr 7 rfl Try.underlying107 rfl rfl (by kernel_rfl)) ?_
    refine wl_f (f_loadB 1 0 rfl rfl rfl Try.underlying103 rfl rfl) ?_
    refine wl_f (f_move rfl) ?_
    refine wl_f (f_indexAddr 2 (i := x) rfl rfl Try.underlying103 (by kernel_rfl) rfl hlt) ?_
    refine wl_f (f_loadsBr (cs := kBuc.cells a) 1 4 rfl rfl rfl Try.underlying92 rfl (by kernel_rfl) (vcells_get kBuc kBuc_len hc.at)) ?_
    refine wl_e (e_lit1 (cs := [_, _]) t103 rfl rfl rfl (by omega)) ?_
    rintro _ _ w7_8 ⟨b7_8, rfl, rfl⟩
    refine wl_e (e_app1 t103 rfl rfl (fun w hh => Rd.held0 hh (i := 0) rfl) (by simp [Value.oneCell', kBuc]) (by omega) (by omega)) ?_
    rintro v7_9 _ w7_9 rfl
    refine wl_f (f_assign rfl) ?_
    refine wl_pick [1, 1] rfl ?_
    refine wl_end [(0, _), (3, _), (4, _)] ⟨rfl, rfl, rfl, trivial⟩ ?_
    refine w_reg ?_
    refine wl_f (f_move rfl) ?_
    refine wl_f (f_nilCheck rfl) ?_
    refine wl_f (f_fieldAddr 5 rfl Try.underlying107 rfl rfl (by kernel_rfl)) ?_
    refine wl_f (f_loadB 1 0 rfl rfl rfl Try.underlying33 rfl rfl) ?_
    refine wl_f (f_move rfl) ?_
    refine wl_f (f_indexAddr 1 (i := x) rfl rfl Try.underlying33 (by kernel_rfl) rfl hlt) ?_
    refine wl_f (f_loadBr (v := .int .i64 (hdE (-1) (nodes B))) 1 2 rfl rfl rfl Try.underlying3 rfl (map_get (Value.int .i64) hc.next)) ?_
    refine wl_f (f_assign rfl) ?_
    refine wl_end [(0, _), (3, _), (4, _)] ⟨rfl, rfl, rfl, trivial⟩ ?_
    exact ⟨B.length, by simp, _, done ++ [(x, a)], B, rfl, by rw [List.length_append, List.map_append, vcells_app]; rfl, rfl, by simp⟩
  · skip
    have hr0 : rest = [] := by simpa using hdE_nil (Classical.not_not.1 hc2)
    subst hr0
    rw [List.append_nil] at hl
    subst hl
    refine w_exit0 ?_
    refine w_seq ?_
    refine w_reg ?_
    refine wl_f (f_move rfl) ?_
    refine wl_f (f_assign rfl) ?_
    refine wl_end [(2, _)] ⟨rfl, trivial⟩ ?_
    refine w_ret ?_
    refine ⟨_, _, fun a ha hh => results_tmps Try.results72 rfl a ha _, List.Sublist.refl _, ?_⟩
    rfl
end Go.Proofs.Ytkabdnijhjccoaa
