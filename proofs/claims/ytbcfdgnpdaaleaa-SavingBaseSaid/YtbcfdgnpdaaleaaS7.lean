/- Tables of tracked keys: all entries. -/
import Derived.Test.YtbcfdgnpdaaleaaS6
namespace Go.Proofs.Ytbcfdgnpdaaleaa
open Go.RowKit

def encs (l : List En) : List Value := ecells (l.map some)
def lsum (l : List En) : Nat := (l.map fun x => x.2.1 + x.2.2).sum
theorem esum_fm (E : List (Option En)) : esum E = lsum (E.filterMap id) := by
  induction E with
  | nil => rfl
  | cons x E ih =>
    cases x with
    | none => rw [List.filterMap_cons]; simp only [id]; rw [← ih]; simp [esum, ecnt]
    | some x => rw [List.filterMap_cons]; simp only [id, lsum, List.map_cons, List.sum_cons] at ih ⊢; rw [← ih]; simp [esum, ecnt]
theorem mem_fm {E : List (Option En)} {x : En} : x ∈ E.filterMap id ↔ ∃ i, Has E x.1 i x.2.1 x.2.2 := by
  rw [List.mem_filterMap]
  constructor
  · rintro ⟨a, ha, e⟩
    have e : a = some x := e
    subst e
    exact List.mem_iff_getElem?.1 ha
  · rintro ⟨i, hi⟩
    exact ⟨some x, List.mem_iff_getElem?.2 ⟨i, hi⟩, rfl⟩
theorem fm_nodup {m : Nat} {E : List (Option En)} {l : Ord} {M : List (ByteArray × Int)} (h : SInv m E l M) (hM : (keys M).Nodup) : (E.filterMap id).Nodup := by
  rw [List.Nodup, List.pairwise_filterMap, List.pairwise_iff_getElem]
  intro i j hi hj hij b hb c hc e
  subst e
  have h1 : E[i]? = some (some (b.1, b.2.1, b.2.2)) := by rw [List.getElem?_eq_getElem hi]; exact congrArg some hb
  have h2 : E[j]? = some (some (b.1, b.2.1, b.2.2)) := by rw [List.getElem?_eq_getElem hj]; exact congrArg some hc
  have := h.uniq hM h1 h2
  omega
theorem fm_perm {m : Nat} {E : List (Option En)} {l : Ord} {M : List (ByteArray × Int)} (h : SInv m E l M) (hM : (keys M).Nodup) {es : List En} {ks : List ByteArray} (hk : es.map Prod.fst = ks) (hp : ks.Perm (keys M)) (hes : ∀ x ∈ es, ∃ i, Has E x.1 i x.2.1 x.2.2) : es.Perm (E.filterMap id) := by
  have hnd : es.Nodup := by
    have h1 : (es.map Prod.fst).Nodup := by rw [hk]; exact hp.nodup_iff.2 hM
    exact (List.pairwise_map.1 h1).imp fun h e => h (by rw [e])
  rw [List.perm_ext_iff_of_nodup hnd (fm_nodup h hM)]
  intro x
  rw [mem_fm]
  refine ⟨hes x, fun ⟨i, hi⟩ => ?_⟩
  have h1 : x.1 ∈ ks := hp.mem_iff.2 ((keys_free h).2 ⟨i, x.2.1, x.2.2, hi⟩)
  rw [← hk] at h1
  obtain ⟨y, hy, e⟩ := List.mem_map.1 h1
  obtain ⟨j, hj⟩ := hes y hy
  rw [e] at hj
  have hij := h.uniq hM hi hj
  subst hij
  have hi' : E[i]? = some (some (x.1, x.2.1, x.2.2)) := hi
  have hj' : E[i]? = some (some (x.1, y.2.1, y.2.2)) := hj
  rw [hi'] at hj'
  injection hj' with a; injection a with a; injection a with _ a; injection a with a1 a2
  have : y = x := by
    obtain ⟨y1, y2, y3⟩ := y
    obtain ⟨x1, x2, x3⟩ := x
    dsimp only at e a1 a2
    rw [e, a1, a2]
  rw [← this]; exact hy
theorem encs_snoc (l : List En) (x : En) : encs (l ++ [x]) = encs l ++ [.string x.1, .int .u64 (x.2.1 : Int), .int .u64 (x.2.2 : Int)] := by
  rw [encs, List.map_append, ecells_app]; rfl

set_option maxHeartbeats 4000000 in
theorem sventries_spec (t m : Nat) (E : List (Option En)) (base total : Nat) (r : Res) (w : World) (hm12 : m ≤ 12) (hr : SvR t m E base total r) (hs : Holds w r.foot [r] w) :
    Spec Try.prog 15 [.pointer (some ⟨t, 0, .none⟩)] w r.foot fun v H => ∃ es : List En, H = [row v 34 3 es.length (encs es), r] ∧ es.Perm (E.filterMap id) := by
  obtain ⟨L, rfl, hm1, hm2, bR, bX, eV, rR, rX, l, M, T, rfl, hR, hX, hI⟩ := hr
  have hEl := hI.len
  have hMl := hX.len
  refine enter (n := 43) Try.func15 rfl rfl [(0, _)] rfl ⟨rfl, trivial⟩ hs ?_
  refine w_seq ?_
  refine w_reg ?_
  refine wl_f (f_assign rfl) ?_
  refine wl_end [(0, _)] ⟨rfl, trivial⟩ ?_
  refine w_seq ?_
  refine w_seq ?_
  refine w_reg ?_
  refine wl_f (f_move rfl) ?_
  refine wl_f (f_eqlnil rfl rfl Try.underlying24) ?_
  refine wl_end [(0, _), (9, _)] ⟨rfl, rfl, trivial⟩ ?_
  refine w_iff rfl ?_
  refine w_skip ?_
  refine w_seq ?_
  refine w_reg ?_
  refine wl_f (f_assign rfl) ?_
  refine wl_end [(0, _), (3, _)] ⟨rfl, rfl, trivial⟩ ?_
  refine w_seq ?_
  refine w_seq ?_
  refine w_unb (svl t m bR bX eV E base total rR rX) ?_
  refine w_with fun hh => ?_
  obtain ⟨g, cc, e2⟩ := row_form hh (i := 1) rfl (by omega)
  subst e2
  clear hh
  refine w_reg ?_
  refine wl_f (f_move rfl) ?_
  refine wl_f (f_nilCheck rfl) ?_
  refine wl_f (f_fieldAddr 1 rfl Try.underlying68 rfl rfl (by kernel_rfl)) ?_
  refine wl_f (f_fieldAddr 0 rfl Try.underlying66 rfl rfl (by kernel_rfl)) ?_
  (first | refine wl_f (f_loadb 0 rfl Try.underlying59 rfl rfl rfl) ?_ | refine wl_f (f_loadb 1 rfl Try.underlying59 rfl rfl rfl) ?_ | refine wl_f (f_loadb 2 rfl Try.underlying59 rfl rfl rfl) ?_ | refine wl_f (f_loadb 3 rfl Try.underlying59 rfl rfl rfl) ?_ | refine wl_f (f_loadb 4 rfl Try.underlying59 rfl rfl rfl) ?_ | refine wl_f (f_loadb 5 rfl Try.underlying59 rfl rfl rfl) ?_ | refine wl_f (f_loadb 6 rfl Try.underlying59 rfl rfl rfl) ?_)
  refine wl_e (e_call1 rX [_, _, _] rfl Try.func29 (by kernel_rfl) (pk1 3 rfl) (fun w hh hs' => ikeys_spec bX m T 0 M rX w hm12 hX hs')) ?_
  rintro vk _ w4 ⟨_, rfl, ks, rfl, hkp, hks⟩
  refine wl_with fun hh => ?_
  obtain ⟨Ak, ck, rfl⟩ := row_slice hh (i := 0) rfl
  clear hh
  have hkl : ks.length = M.length := by rw [hkp.length_eq, keys, List.length_map]
  refine wl_f (f_len rfl Try.underlying41) ?_
  refine wl_f (f_move rfl) ?_
  refine wl_end [(0, _), (3, _), (15, _), (16, _), (17, _)] ⟨rfl, rfl, rfl, rfl, rfl, trivial⟩ ?_
  refine w_block ?_
  refine w_nilrow 34 3 ?_
  refine w_loop (fun kk m' H w => ∃ (v : Value) (es : List En) (rest : List ByteArray), m' = [(0, .pointer (some ⟨t, 0, .none⟩)), (3, v), (15, .slice Ak ks.length ck), (16, .int .i64 ks.length), (17, .int .i64 es.length)] ∧
    H = [row v 34 3 es.length (encs es), row (.slice Ak ks.length ck) 9 1 ks.length (sv ks), rX, blk t [.pointer (some ⟨bR, 0, .none⟩), .pointer (some ⟨bX, 0, .none⟩), .int .i64 (m : Int), .slice (some ⟨g, 0, .none⟩) m cc, .int .u64 (base : Int), .int .u64 (total : Int)] 68, row (.slice (some ⟨g, 0, .none⟩) m cc) 34 3 m (ecells E), rR] ∧
    kk = rest.length ∧ ks = es.map Prod.fst ++ rest ∧ ∀ x ∈ es, ∃ i, Has E x.1 i x.2.1 x.2.2) ks.length ⟨_, [], ks, rfl, rfl, rfl, rfl, by simp⟩ ?_
  rintro kk _ _ w5 ⟨v, es, rest, rfl, rfl, rfl, hke, hes⟩
  have hel : ks.length = es.length + rest.length := by rw [hke]; simp
  refine w_seq ?_
  refine w_reg ?_
  refine wl_f (f_lss rfl rfl) ?_
  refine wl_end [(0, _), (3, _), (15, _), (16, _), (17, _), (18, _)] ⟨rfl, rfl, rfl, rfl, rfl, rfl, trivial⟩ ?_
  refine w_seq ?_
  refine w_ifd rfl (fun hc2 => ?_) (fun hc2 => ?_)
  · skip
    obtain ⟨k, rest2, rfl⟩ : ∃ k rest2, rest = k :: rest2 := by
      cases rest with
      | nil =>
        have : (es.length : Int) < (ks.length : Int) := hc2
        simp at hel
        omega
      | cons k rest2 => exact ⟨k, rest2, rfl⟩
    rw [List.length_cons] at hel
    have hkk : ks[es.length]? = some k := by rw [hke]; simp
    have hkM : k ∈ keys M := hkp.mem_iff.1 (List.mem_of_getElem? hkk)
    obtain ⟨i, o, s, hi⟩ := (keys_free hI).1 hkM
    have hg := mget_some hX.nd ((hI.idx k i).2 ⟨i, o, s, rfl, hi⟩)
    have hksm := (hI.sm i k o s hi).1
    have hil : i < E.length := (List.getElem?_eq_some_iff.1 hi).1
    refine w_with fun hh => ?_
    obtain ⟨gk, cpk, e⟩ := row_form hh (i := 1) rfl (by omega)
    cases e
    clear hh
    refine w_skip ?_
    refine w_seq ?_
    refine w_block ?_
    refine w_seq ?_
    refine w_reg ?_
    refine wl_f (f_indexAddr 1 (i := es.length) rfl rfl Try.underlying41 (by kernel_rfl) rfl (by omega)) ?_
    refine wl_f (f_loadr (v := .string k) 1 rfl Try.underlying9 rfl rfl (map_get Value.string hkk)) ?_
    refine wl_f (f_assign rfl) ?_
    refine wl_end [(0, _), (3, _), (5, _), (15, _), (16, _), (17, _)] ⟨rfl, rfl, rfl, rfl, rfl, rfl, trivial⟩ ?_
    refine w_seq ?_
    refine w_reg ?_
    refine wl_f (f_move rfl) ?_
    refine wl_f (f_nilCheck rfl) ?_
    refine wl_f (f_fieldAddr 1 rfl Try.underlying68 rfl rfl (by kernel_rfl)) ?_
    refine wl_f (f_fieldAddr 0 rfl Try.underlying66 rfl rfl (by kernel_rfl)) ?_
    (first | refine wl_f (f_loadb 0 rfl Try.underlying59 rfl rfl rfl) ?_ | refine wl_f (f_loadb 1 rfl Try.underlying59 rfl rfl rfl) ?_ | refine wl_f (f_loadb 2 rfl Try.underlying59 rfl rfl rfl) ?_ | refine wl_f (f_loadb 3 rfl Try.underlying59 rfl rfl rfl) ?_ | refine wl_f (f_loadb 4 rfl Try.underlying59 rfl rfl rfl) ?_ | refine wl_f (f_loadb 5 rfl Try.underlying59 rfl rfl rfl) ?_ | refine wl_f (f_loadb 6 rfl Try.underlying59 rfl rfl rfl) ?_)
    refine wl_f (f_move rfl) ?_
    refine wl_e (e_call1 rX [_, _, _, _, _] rfl Try.func24 (by kernel_rfl) (pk1 2 rfl) (fun w hh hs' => ixget_spec bX m T 0 M rX k w hksm hX hs')) ?_
    rw [hg]
    rintro _ _ w7 ⟨_, rfl, rfl, rfl⟩
    refine wl_f (f_move rfl) ?_
    refine wl_f (f_extract rfl rfl) ?_
    refine wl_f (f_extract rfl rfl) ?_
    refine wl_f (f_assign rfl) ?_
    refine wl_f (f_assign rfl) ?_
    refine wl_end [(0, _), (3, _), (6, _), (15, _), (16, _), (17, _)] ⟨rfl, rfl, rfl, rfl, rfl, rfl, trivial⟩ ?_
    refine w_reg ?_
    refine wl_f (f_move rfl) ?_
    refine wl_f (f_move rfl) ?_
    refine wl_f (f_nilCheck rfl) ?_
    refine wl_f (f_fieldAddr 3 rfl Try.underlying68 rfl rfl (by kernel_rfl)) ?_
    (first | refine wl_f (f_loadb 0 rfl Try.underlying43 rfl rfl rfl) ?_ | refine wl_f (f_loadb 1 rfl Try.underlying43 rfl rfl rfl) ?_ | refine wl_f (f_loadb 2 rfl Try.underlying43 rfl rfl rfl) ?_ | refine wl_f (f_loadb 3 rfl Try.underlying43 rfl rfl rfl) ?_ | refine wl_f (f_loadb 4 rfl Try.underlying43 rfl rfl rfl) ?_ | refine wl_f (f_loadb 5 rfl Try.underlying43 rfl rfl rfl) ?_ | refine wl_f (f_loadb 6 rfl Try.underlying43 rfl rfl rfl) ?_)
    refine wl_f (f_move rfl) ?_
    refine wl_f (f_indexAddr 3 (i := i) rfl rfl Try.underlying43 (by kernel_rfl) rfl (by omega)) ?_
    refine wl_f (f_loadsr (cs := ecell (some (k, o, s))) 4 rfl Try.underlying34 rfl (by kernel_rfl) rfl (ecells_get hi)) ?_
    refine wl_e (e_lit1 (cs := [_, _, _]) t43 rfl rfl rfl (by omega)) ?_
    rintro _ _ w8_8 ⟨b8_8, rfl, rfl⟩
    refine wl_e (e_appN 2 t43 rfl rfl rfl (fun w hh => Rd.held0 hh (i := 0) rfl) (by simp [Value.oneCell']) (by omega) (by omega)) ?_
    rintro v2 _ w8 ⟨_, rfl⟩
    refine wl_f (f_assign rfl) ?_
    refine wl_pick [2, 2, 1, 1, 1, 1] rfl ?_
    refine wl_end [(0, _), (3, _), (15, _), (16, _), (17, _)] ⟨rfl, rfl, rfl, rfl, rfl, trivial⟩ ?_
    refine w_reg ?_
    refine wl_f (f_add rfl rfl (by omega)) ?_
    refine wl_f (f_move rfl) ?_
    refine wl_end [(0, _), (3, _), (15, _), (16, _), (17, _)] ⟨rfl, rfl, rfl, rfl, rfl, trivial⟩ ?_
    refine ⟨rest2.length, Nat.lt_succ_self _, v2, es ++ [(k, o, s)], rest2, ?_, ?_, rfl, ?_, fun x hx => ?_⟩
    · rw [show ((es ++ [(k, o, s)]).length : Int) = (es.length : Int) + 1 by simp]
    · rw [encs_snoc, List.length_append]; rfl
    · rw [hke]; simp
    · rcases List.mem_append.1 hx with h | h
      · exact hes x h
      · rw [List.mem_singleton] at h; subst h; exact ⟨i, hi⟩
  · skip
    obtain rfl : rest = [] := by
      cases rest with
      | nil => rfl
      | cons k rest2 =>
        rw [List.length_cons] at hel
        exact absurd (show (es.length : Int) < (ks.length : Int) by omega) hc2
    rw [List.append_nil] at hke
    refine w_exit0 ?_
    refine w_seq ?_
    refine w_reg ?_
    refine wl_f (f_move rfl) ?_
    refine wl_f (f_assign rfl) ?_
    refine wl_end [(2, _)] ⟨rfl, trivial⟩ ?_
    refine w_pick [3, 3, 3, 2, 0] rfl ?_
    refine w_bun (H := [_]) [_, _, _, _] ?_
    refine w_pick [1, 0] rfl ?_
    refine w_ret ?_
    refine ⟨_, _, fun a ha hh => results_tmps Try.results15 rfl a ha _, List.Sublist.refl _, ?_⟩
    exact ⟨es, rfl, fm_perm hI hX.nd hke.symm hkp hes⟩
end Go.Proofs.Ytbcfdgnpdaaleaa
