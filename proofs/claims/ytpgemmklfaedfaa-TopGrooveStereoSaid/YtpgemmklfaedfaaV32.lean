/- TopGrooveStereo is proved: for every input that can be read the law returns true, and each argument reads afterwards as it read before; nothing is asked of package variables. -/
import Derived.Test.YtpgemmklfaedfaaV31
set_option linter.unusedSimpArgs false
set_option linter.unnecessarySimpa false
set_option linter.unusedVariables false
set_option linter.unusedSectionVars false
set_option maxRecDepth 100000
namespace Go.Lq
open Go
open Go.Proofs

theorem velGo_get : ∀ (l : List Int) (i : Nat), i + 1 < l.length → (velGo l).getD i 0 = l.getD (i + 1) 0 - l.getD i 0
  | [], i, h => by simp at h
  | [a], i, h => by simp at h
  | a :: b :: r, 0, _ => by simp [velGo]
  | a :: b :: r, i + 1, h => by
    have := velGo_get (b :: r) i (by simp at h ⊢; omega)
    simpa [velGo] using this
theorem take_snoc {l : List Int} {i : Nat} (hi : i < l.length) : l.take (i + 1) = l.take i ++ [l.getD i 0] := by
  rw [List.take_succ_eq_append_getElem hi]
  simp [List.getD, hi]
theorem takeP_snoc {l : List (Int × Int)} {i : Nat} (hi : i < l.length) : l.take (i + 1) = l.take i ++ [l.getD i (0, 0)] := by
  rw [List.take_succ_eq_append_getElem hi]
  simp [List.getD, hi]
theorem posErr_of {l : List Int} (h : ∀ n ∈ l, -1000000 ≤ n ∧ n ≤ 1000000) (hl : l.length ≤ 200) : positionsErrL l = 0 := by
  unfold positionsErrL
  rw [if_neg (by omega), if_pos]
  rw [List.all_eq_true]
  exact fun n hn => sizedB_t (h n hn)
def sumsL (w : List (Int × Int)) : List (Int × Int) := w.map fun p => (p.1 + p.2, p.2 - p.1)
theorem mats_of {w : List (Int × Int)} (h : ∀ p ∈ w, (matF p).2 = 0) : w.map (fun p => (matF p).1) = sumsL w :=
  List.map_congr_left fun p hp => (matF_ok (h p hp)).1
theorem wids_of {w : List (Int × Int)} (h : ∀ p ∈ w, (matF p).2 = 0) : w.map (fun p => (widF p).1) = w.map fun p => p.2 - p.1 :=
  List.map_congr_left fun p hp => by show (matF p).1.2 = _; rw [(matF_ok (h p hp)).1]
set_option maxRecDepth 100000 in
set_option maxHeartbeats 8000000 in
theorem law3 {H : AHeap} {avs : List Value} (h : RepAll Try.prog H [22] avs) : ACall Try.prog 3 avs H fun v _ => v = .bool true := by
  obtain ⟨v, rfl, h1⟩ := h.one
  obtain ⟨w, hw, hwm, iw⟩ := repWalls h1
  (refine a3 ?_; simp only [n3, List.replicate, yq, yr, yt, yu]; first | refine q1 ?_ | refine q2 ?_ | refine q6 ?_ | refine q7 ?_ | refine qh rfl ?_ | skip)
  (refine yg ?_)
  (refine aops_call_to (shown_c) ?_)
  (refine yg ?_)
  refine cond_f rfl ?_
  by_cases h0 : w.length = 0
  · (repeat (first | refine yw ?_ | ((first | apply yd | apply ye); simp (disch := first|exact zz|fail) only [go_sem, hw.len, hw.idx, hw.load, dec_t (show (w.length : Int) = 0 by omega)]; with_reducible rfl)))
    refine cond_t rfl ?_
    (refine yg ?_)
    exact fin_1 rfl
  by_cases h60 : 60 < w.length
  · (repeat (first | refine yw ?_ | ((first | apply yd | apply ye); simp (disch := first|exact zz|fail) only [go_sem, hw.len, hw.idx, hw.load, dec_f (show ¬ (w.length : Int) = 0 by omega), dec_t (show (60 : Int) < (w.length : Int) by omega)]; with_reducible rfl)))
    refine cond_t rfl ?_
    (refine yg ?_)
    exact fin_1 rfl
  (repeat (first | refine yw ?_ | ((first | apply yd | apply ye); simp (disch := first|exact zz|fail) only [go_sem, hw.len, hw.idx, hw.load, dec_f (show ¬ (w.length : Int) = 0 by omega), dec_f (show ¬ (60 : Int) < (w.length : Int) by omega)]; with_reducible rfl)))
  (refine aops_call_to (refWallsErr_c hw (by omega)) ?_)
  by_cases hd : (mappedL matF w).2 = 0
  rotate_left 1
  · (repeat (first | refine yw ?_ | ((first | apply yd | apply ye); simp (disch := first|exact zz|fail) only [go_sem, dec_t (show (mappedL matF w).2 ≠ 0 from hd)]; with_reducible rfl)))
    refine cond_t rfl ?_
    (refine yg ?_)
    exact fin_1 rfl
  rw [hd]
  (refine yg ?_)
  refine cond_f rfl ?_
  (refine yg ?_)
  refine aops_call ((copyWalls_u hw (by omega)).mono fun v1 H1 ⟨i1, x1⟩ => ?_)
  (refine yg ?_)
  refine aops_call ((matrices_c i1 iw (by omega)).mono fun v2 H2 h => ?_)
  obtain ⟨sm, rfl, im, x2⟩ := h.use
  have x02 := x1.trans x2
  (refine yg ?_)
  refine aops_call ((copyWalls_u (hw.ext x02) (by omega)).mono fun v3 H3 ⟨i3, x3⟩ => ?_)
  (refine yg ?_)
  refine aops_call ((widths_c i3 iw (by omega)).mono fun v4 G0 h => ?_)
  obtain ⟨sw, rfl, iu, x4⟩ := h.use
  have x04 := x02.trans (x3.trans x4)
  have e1 : (mappedL widF w).2 = 0 := (mappedL_same (f := widF) (g := matF) fun p => rfl).trans hd
  obtain ⟨e3, e4, e5⟩ := mappedL_ok hd
  obtain ⟨e2, -, -⟩ := mappedL_ok e1
  rw [e2, wids_of e4] at iu
  rw [e3, mats_of e4] at im
  replace im := im.ext (x3.trans x4)
  have hw0 := hw.ext x04
  have hsl : (sumsL w).length = w.length := by simp [sumsL]
  have hul : (w.map fun p => p.2 - p.1).length = w.length := by simp
  obtain ⟨U, hU⟩ : ∃ U, U = w.map fun p : Int × Int => p.2 - p.1 := ⟨_, rfl⟩
  rw [← hU] at iu hul
  obtain ⟨M, hM⟩ : ∃ M, M = sumsL w := ⟨_, rfl⟩
  rw [← hM] at im hsl
  (repeat (first | refine yw ?_ | ((first | apply yd | apply ye); simp (disch := first|exact zz|fail) only [go_sem, im.len, im.idx, im.load, iu.len, iu.idx, iu.load, hw0.len, hw0.idx, hw0.load, e1, hd, hsl, hul]; with_reducible rfl)))
  refine cond_f rfl ?_
  have mg : ∀ i : Nat, i < w.length → M.getD i (0, 0) = ((w.getD i (0, 0)).1 + (w.getD i (0, 0)).2, (w.getD i (0, 0)).2 - (w.getD i (0, 0)).1) := fun i hi => by rw [hM]; exact getD_map_mat hi
  have ug : ∀ i : Nat, i < w.length → U.getD i 0 = (w.getD i (0, 0)).2 - (w.getD i (0, 0)).1 := fun i hi => by rw [hU]; exact getD_map_mat hi
  obtain ⟨LA, hA⟩ : ∃ L, L = w.map fun p : Int × Int => p.1 := ⟨_, rfl⟩
  obtain ⟨LB, hB⟩ : ∃ L, L = w.map fun p : Int × Int => p.2 := ⟨_, rfl⟩
  obtain ⟨LC, hC⟩ : ∃ L, L = w.map fun p : Int × Int => p.1 + p.2 := ⟨_, rfl⟩
  have lA : LA.length = w.length := by rw [hA]; simp
  have lB : LB.length = w.length := by rw [hB]; simp
  have lC : LC.length = w.length := by rw [hC]; simp
  have ag : ∀ i : Nat, i < w.length → LA.getD i 0 = (w.getD i (0, 0)).1 := fun i hi => by rw [hA]; exact getD_map_mat hi
  have bg : ∀ i : Nat, i < w.length → LB.getD i 0 = (w.getD i (0, 0)).2 := fun i hi => by rw [hB]; exact getD_map_mat hi
  have cg : ∀ i : Nat, i < w.length → LC.getD i 0 = (w.getD i (0, 0)).1 + (w.getD i (0, 0)).2 := fun i hi => by rw [hC]; exact getD_map_mat hi
  have hbd : ∀ i : Nat, i < w.length → (-1000000 ≤ (w.getD i (0, 0)).1 ∧ (w.getD i (0, 0)).1 ≤ 1000000) ∧ (-1000000 ≤ (w.getD i (0, 0)).2 ∧ (w.getD i (0, 0)).2 ≤ 1000000) := fun i hi => by
    have hm : w.getD i (0, 0) ∈ w := by rw [List.getD_eq_getElem?_getD, List.getElem?_eq_getElem hi]; exact List.getElem_mem _
    obtain ⟨_, k1, k2, _⟩ := matF_ok (e4 _ hm)
    exact ⟨k1, k2⟩
  clear hA hB hC
  (refine yg ?_)
  refine awp_loop_n [true, false, false, true, false, true, false, true, true, true, true, true, false, false, false, false, false, false, false, false, false, false, false, false, false, false, false, false, false, false, false, false, false, false, false, false, false, false, false, false, false, false, false, false, false, false, false, false, false, false, false, false, false, false, false, false, false, false, false, false, false, false, false, false, false, false, false, false, false, false, false, false, false, false, false, false, false, false, false, false, false, false, false, false, false, false, false, false, false, false, false, false, false, false, false, false, false, false, false, false, false, false, false, false, false, false, false, false, false, false, false, false, false, false, false, false, false, false, false, false, false, false, false, false, false, false, false, false, false, false, false, false, false, false, false, false, false, false, false, false, false, false, false, false, false, false, false, false, false, false, false, false, false, false, false, false, false, false, false, false, false, false, false, false, false, false, false, false, false, false, false, false, false, false, false, false, false, false, false, false, false, false, false, false, false, false, false, false, false, false, false, false, false, false, false, false, false, false, false, false, false, false, false, false, false, false, false, false, false, false, false, false, false, false, false, false, false, false, false, false, false, false, false, false, false, false, false, false, false, false, false, false, false, false, false, false, false, false, false, false, false, false, false, false, false, false, false, false, false, false, false, false, false, false, false, false, false, false, false, false, false, false, false, false, false, false, false, false, false, false, false, false, false, false, false, false, false, false, false, false, false, false, false, false, false, false, false, false, false, false, false, false, false, false, false, false, false, false, false, false, false, false, false, false, false, false, false, false, false, false, false, false, false, false, false] w.length (fun i e J => ∃ va vb vc vd, e = [v, junk, junk, sm, junk, sw, junk, va, vb, vc, vd, .int .i64 (i : Nat), junk, junk, junk, junk, junk, junk, junk, junk, junk, junk, junk, junk, junk, junk, junk, junk, junk, junk, junk, junk, junk, junk, junk, junk, junk, junk, junk, junk, junk, junk, junk, junk, junk, junk, junk, junk, junk, junk, junk, junk, junk, junk, junk, junk, junk, junk, junk, junk, junk, junk, junk, junk, junk, junk, junk, junk, junk, junk, junk, junk, junk, junk, junk, junk, junk, junk, junk, junk, junk, junk, junk, junk, junk, junk, junk, junk, junk, junk, junk, junk, junk, junk, junk, junk, junk, junk, junk, junk, junk, junk, junk, junk, junk, junk, junk, junk, junk, junk, junk, junk, junk, junk, junk, junk, junk, junk, junk, junk, junk, junk, junk, junk, junk, junk, junk, junk, junk, junk, junk, junk, junk, junk, junk, junk, junk, junk, junk, junk, junk, junk, junk, junk, junk, junk, junk, junk, junk, junk, junk, junk, junk, junk, junk, junk, junk, junk, junk, junk, junk, junk, junk, junk, junk, junk, junk, junk, junk, junk, junk, junk, junk, junk, junk, junk, junk, junk, junk, junk, junk, junk, junk, junk, junk, junk, junk, junk, junk, junk, junk, junk, junk, junk, junk, junk, junk, junk, junk, junk, junk, junk, junk, junk, junk, junk, junk, junk, junk, junk, junk, junk, junk, junk, junk, junk, junk, junk, junk, junk, junk, junk, junk, junk, junk, junk, junk, junk, junk, junk, junk, junk, junk, junk, junk, junk, junk, junk, junk, junk, junk, junk, junk, junk, junk, junk, junk, junk, junk, junk, junk, junk, junk, junk, junk, junk, junk, junk, junk, junk, junk, junk, junk, junk, junk, junk, junk, junk, junk, junk, junk, junk, junk, junk, junk, junk, junk, junk, junk, junk, junk, junk, junk, junk, junk, junk, junk, junk, junk, junk, junk, junk, junk, junk, junk, junk, junk, junk, junk, junk, junk, junk, junk, junk, junk, junk, junk, junk, junk, junk, junk, junk, junk, junk, junk] ∧ Fam G0 J [(LA.take i, va), (LB.take i, vb), (LC.take i, vc), (U.take i, vd)]) ?_ ?_
  · exact ⟨.slice none 0 0, .slice none 0 0, .slice none 0 0, .slice none 0 0, by simp [forget], by simp only [List.take_zero]; exact Fam.nil G0 4⟩
  rintro i e K0 hi ⟨va, vb, vc, vd, rfl, hF⟩
  have hwK := hw0.ext hF.ext
  (repeat (first | refine yw ?_ | ((first | apply yd | apply ye); simp (disch := first|exact zz|fail) only [go_sem, hwK.len, hwK.idx, hwK.load]; with_reducible rfl)))
  refine cond_p rfl (fun hlt => ?_) (fun hge => ?_)
  · have hi' : i < w.length := by omega
    have hiM : i < M.length := by omega
    have imK := im.ext hF.ext
    have iuK := iu.ext hF.ext
    obtain ⟨b1, b2⟩ := hbd i hi'
    have tA := take_snoc (l := LA) (i := i) (by omega)
    have tB := take_snoc (l := LB) (i := i) (by omega)
    have tC := take_snoc (l := LC) (i := i) (by omega)
    have tU := take_snoc (l := U) (i := i) (by omega)
    rw [ag i hi'] at tA
    rw [bg i hi'] at tB
    rw [cg i hi'] at tC
    rw [ug i hi'] at tU
    have mgi := mg i hi'
    (repeat (first | refine yw ?_ | ((first | apply yd | apply ye); simp (disch := first|exact zz|fail) only [go_sem, imK.len, imK.idx, imK.load, iuK.len, iuK.idx, iuK.load, mg i hi', ug i hi', bne_self_eq_false, dec_f (show ¬ (w.getD i (0, 0)).2 - (w.getD i (0, 0)).1 ≠ (w.getD i (0, 0)).2 - (w.getD i (0, 0)).1 from fun h => h rfl)]; with_reducible rfl)))
    refine cond_f rfl ?_
    generalize hga : (w.getD i (0, 0)).1 = a at *
    generalize hgb : (w.getD i (0, 0)).2 = b at *
    refine yx ?_
    refine yx ?_
    refine awp_mid [true, false, false, true, false, true, false, true, true, true, true, true, false, false, false, false, false, false, false, false, false, false, false, false, false, false, false, false, false, false, false, false, false, false, false, false, false, false, false, false, false, false, false, false, false, false, false, false, false, false, false, false, false, false, false, false, false, false, false, false, false, false, false, false, false, false, false, false, false, false, false, false, false, false, false, false, false, false, false, false, false, false, false, false, false, false, false, false, false, false, false, false, false, false, false, false, false, false, false, false, false, false, false, false, false, false, false, false, false, false, false, false, false, false, false, false, false, false, false, false, false, false, false, false, false, false, false, false, false, false, false, false, false, false, false, false, false, false, false, false, false, false, false, false, false, false, false, false, false, false, false, false, false, false, false, false, false, false, false, false, false, false, false, false, false, false, false, false, false, false, false, false, false, false, false, false, false, false, false, false, false, false, false, false, false, false, false, false, false, false, false, false, false, false, false, false, false, false, false, false, false, false, false, false, false, false, false, false, false, false, false, false, false, false, false, false, false, false, false, false, false, false, false, false, false, false, false, false, false, false, false, false, false, false, false, false, false, false, false, false, false, false, false, false, false, false, false, false, false, false, false, false, false, false, false, false, false, false, false, false, false, false, false, false, false, false, false, false, false, false, false, false, false, false, false, false, false, false, false, false, false, false, false, false, false, false, false, false, false, false, false, false, false, false, false, false, false, false, false, false, false, false, false, false, false, false, false, false, false, false, false, false, false, false, false] (fun e J => ∃ va vb, e = [v, junk, junk, sm, junk, sw, junk, va, vb, vc, vd, .int .i64 (i : Nat), junk, junk, junk, junk, junk, junk, junk, junk, junk, junk, junk, junk, junk, junk, junk, junk, junk, junk, junk, junk, junk, junk, junk, junk, junk, junk, junk, junk, junk, junk, junk, junk, junk, junk, junk, junk, junk, junk, junk, junk, junk, junk, junk, junk, junk, junk, junk, junk, junk, junk, junk, junk, junk, junk, junk, junk, junk, junk, junk, junk, junk, junk, junk, junk, junk, junk, junk, junk, junk, junk, junk, junk, junk, junk, junk, junk, junk, junk, junk, junk, junk, junk, junk, junk, junk, junk, junk, junk, junk, junk, junk, junk, junk, junk, junk, junk, junk, junk, junk, junk, junk, junk, junk, junk, junk, junk, junk, junk, junk, junk, junk, junk, junk, junk, junk, junk, junk, junk, junk, junk, junk, junk, junk, junk, junk, junk, junk, junk, junk, junk, junk, junk, junk, junk, junk, junk, junk, junk, junk, junk, junk, junk, junk, junk, junk, junk, junk, junk, junk, junk, junk, junk, junk, junk, junk, junk, junk, junk, junk, junk, junk, junk, junk, junk, junk, junk, junk, junk, junk, junk, junk, junk, junk, junk, junk, junk, junk, junk, junk, junk, junk, junk, junk, junk, junk, junk, junk, junk, junk, junk, junk, junk, junk, junk, junk, junk, junk, junk, junk, junk, junk, junk, junk, junk, junk, junk, junk, junk, junk, junk, junk, junk, junk, junk, junk, junk, junk, junk, junk, junk, junk, junk, junk, junk, junk, junk, junk, junk, junk, junk, junk, junk, junk, junk, junk, junk, junk, junk, junk, junk, junk, junk, junk, junk, junk, junk, junk, junk, junk, junk, junk, junk, junk, junk, junk, junk, junk, junk, junk, junk, junk, junk, junk, junk, junk, junk, junk, junk, junk, junk, junk, junk, junk, junk, junk, junk, junk, junk, junk, junk, junk, junk, junk, junk, junk, junk, junk, junk, junk, junk, junk, junk, junk, junk, junk, junk, junk, junk, junk, junk, junk, junk, junk] ∧ Fam G0 J [(LA.take i ++ [a], va), (LB.take i ++ [b], vb), (LC.take i, vc), (U.take i, vd)]) ?_ ?_
    · refine awp_any ?_
      refine aany_pures (n := 8) [0, 1, 2, 3, 4, 8, 9, 10, 11, 12] _ _ _ _ rfl (by decide +kernel) ?_
      simp only [takeOps, List.filterMap_cons, List.filterMap_nil, List.getElem?_cons_zero, List.getElem?_cons_succ, Option.map_some]
      (repeat (first | refine yw ?_ | ((first | apply yd | apply ye); simp (disch := first|exact zz|fail) only [go_sem, hwK.len, hwK.idx, hwK.load]; with_reducible rfl)))
      refine aany_2 (i := 5) (k := 13) rfl rfl rfl ?_ ?_
      · skip
        obtain ⟨l1, l2, l3, l4, l5⟩ := (hw0.ext hF.ext).load (Ext.refl _) hi'
        rw [hga] at l4
        (repeat (first | refine yw ?_ | ((first | apply yd | apply ye); simp (disch := first|exact zz|fail) only [go_sem, l4]; with_reducible rfl)))
        refine aany_2 (i := 6) (k := 13) rfl rfl rfl ?_ ?_
        · skip
          (refine yg ?_)
          obtain ⟨hF, rL, hrow⟩ := hF.lay (a)
          clear hrow
          generalize (Value.slice (some ⟨K0.length, 0, none⟩) 1 1) = wL at rL ⊢
          generalize (K0 ++ [AObj.cells true 1 [.int .i64 (a)]] : AHeap) = K1 at *
          refine aany_2 (i := 7) (k := 13) rfl rfl rfl ?_ ?_
          · skip
            obtain ⟨v0', K2, hap, hF, -, hrow⟩ := hF.push (k := 0) (by simp) rL (by show (LA.take i).length < _; simp; omega)
            have hap : appendA 1 8 K1 va wL = some (v0', K2) := hap
            have hF : Fam G0 K2 [(LA.take i ++ [a], v0'), (LB.take i, vb), (LC.take i, vc), (U.take i, vd)] := hF
            (repeat (first | refine yw ?_ | ((first | apply yd | apply ye); simp (disch := first|exact zz|fail) only [go_sem, hap]; with_reducible rfl)))
            refine aany_1 (i := 13) rfl rfl ?_
            obtain ⟨l1, l2, l3, l4, l5⟩ := (hw0.ext hF.ext).load (Ext.refl _) hi'
            rw [hgb] at l5
            (repeat (first | refine yw ?_ | ((first | apply yd | apply ye); simp (disch := first|exact zz|fail) only [go_sem, l5]; with_reducible rfl)))
            refine aany_1 (i := 14) rfl rfl ?_
            (refine yg ?_)
            obtain ⟨hF, rR, hrow⟩ := hF.lay (b)
            clear hrow
            generalize (Value.slice (some ⟨K2.length, 0, none⟩) 1 1) = wR at rR ⊢
            generalize (K2 ++ [AObj.cells true 1 [.int .i64 (b)]] : AHeap) = K3 at *
            refine aany_1 (i := 15) rfl rfl ?_
            obtain ⟨v1', K4, hap, hF, -, hrow⟩ := hF.push (k := 1) (by simp) rR (by show (LB.take i).length < _; simp; omega)
            have hap : appendA 1 8 K3 vb wR = some (v1', K4) := hap
            have hF : Fam G0 K4 [(LA.take i ++ [a], v0'), (LB.take i ++ [b], v1'), (LC.take i, vc), (U.take i, vd)] := hF
            (repeat (first | refine yw ?_ | ((first | apply yd | apply ye); simp (disch := first|exact zz|fail) only [go_sem, hap]; with_reducible rfl)))
            refine aany_1 (i := 16) rfl rfl ?_
            (refine yg ?_)
            refine aany_1 (i := 17) rfl rfl ?_
            (refine yg ?_)
            refine aany_e rfl ?_
            first | exact ⟨trivial, _, _, by simp [forget], hF⟩ | exact ⟨rfl, _, _, by simp [forget], hF⟩
          · skip
            obtain ⟨l1, l2, l3, l4, l5⟩ := (hw0.ext hF.ext).load (Ext.refl _) hi'
            rw [hgb] at l5
            (repeat (first | refine yw ?_ | ((first | apply yd | apply ye); simp (disch := first|exact zz|fail) only [go_sem, l5]; with_reducible rfl)))
            refine aany_2 (i := 7) (k := 14) rfl rfl rfl ?_ ?_
            · skip
              obtain ⟨v0', K2, hap, hF, -, hrow⟩ := hF.push (k := 0) (by simp) rL (by show (LA.take i).length < _; simp; omega)
              have hap : appendA 1 8 K1 va wL = some (v0', K2) := hap
              have hF : Fam G0 K2 [(LA.take i ++ [a], v0'), (LB.take i, vb), (LC.take i, vc), (U.take i, vd)] := hF
              (repeat (first | refine yw ?_ | ((first | apply yd | apply ye); simp (disch := first|exact zz|fail) only [go_sem, hap]; with_reducible rfl)))
              refine aany_1 (i := 14) rfl rfl ?_
              (refine yg ?_)
              obtain ⟨hF, rR, hrow⟩ := hF.lay (b)
              clear hrow
              generalize (Value.slice (some ⟨K2.length, 0, none⟩) 1 1) = wR at rR ⊢
              generalize (K2 ++ [AObj.cells true 1 [.int .i64 (b)]] : AHeap) = K3 at *
              refine aany_1 (i := 15) rfl rfl ?_
              obtain ⟨v1', K4, hap, hF, -, hrow⟩ := hF.push (k := 1) (by simp) rR (by show (LB.take i).length < _; simp; omega)
              have hap : appendA 1 8 K3 vb wR = some (v1', K4) := hap
              have hF : Fam G0 K4 [(LA.take i ++ [a], v0'), (LB.take i ++ [b], v1'), (LC.take i, vc), (U.take i, vd)] := hF
              (repeat (first | refine yw ?_ | ((first | apply yd | apply ye); simp (disch := first|exact zz|fail) only [go_sem, hap]; with_reducible rfl)))
              refine aany_1 (i := 16) rfl rfl ?_
              (refine yg ?_)
              refine aany_1 (i := 17) rfl rfl ?_
              (refine yg ?_)
              refine aany_e rfl ?_
              first | exact ⟨trivial, _, _, by simp [forget], hF⟩ | exact ⟨rfl, _, _, by simp [forget], hF⟩
            · skip
              (refine yg ?_)
              obtain ⟨hF, rR, hrow⟩ := hF.lay (b)
              have rL := hrow _ _ rL
              clear hrow
              generalize (Value.slice (some ⟨K1.length, 0, none⟩) 1 1) = wR at rR ⊢
              generalize (K1 ++ [AObj.cells true 1 [.int .i64 (b)]] : AHeap) = K2 at *
              refine aany_1 (i := 7) rfl rfl ?_
              obtain ⟨v0', K3, hap, hF, -, hrow⟩ := hF.push (k := 0) (by simp) rL (by show (LA.take i).length < _; simp; omega)
              have hap : appendA 1 8 K2 va wL = some (v0', K3) := hap
              have hF : Fam G0 K3 [(LA.take i ++ [a], v0'), (LB.take i, vb), (LC.take i, vc), (U.take i, vd)] := hF
              have rR : RowF K3 (b) wR [(LA.take i ++ [a], v0'), (LB.take i, vb), (LC.take i, vc), (U.take i, vd)] := hrow _ _ rR
              (repeat (first | refine yw ?_ | ((first | apply yd | apply ye); simp (disch := first|exact zz|fail) only [go_sem, hap]; with_reducible rfl)))
              refine aany_1 (i := 15) rfl rfl ?_
              obtain ⟨v1', K4, hap, hF, -, hrow⟩ := hF.push (k := 1) (by simp) rR (by show (LB.take i).length < _; simp; omega)
              have hap : appendA 1 8 K3 vb wR = some (v1', K4) := hap
              have hF : Fam G0 K4 [(LA.take i ++ [a], v0'), (LB.take i ++ [b], v1'), (LC.take i, vc), (U.take i, vd)] := hF
              (repeat (first | refine yw ?_ | ((first | apply yd | apply ye); simp (disch := first|exact zz|fail) only [go_sem, hap]; with_reducible rfl)))
              refine aany_1 (i := 16) rfl rfl ?_
              (refine yg ?_)
              refine aany_1 (i := 17) rfl rfl ?_
              (refine yg ?_)
              refine aany_e rfl ?_
              first | exact ⟨trivial, _, _, by simp [forget], hF⟩ | exact ⟨rfl, _, _, by simp [forget], hF⟩
        · skip
          obtain ⟨l1, l2, l3, l4, l5⟩ := (hw0.ext hF.ext).load (Ext.refl _) hi'
          rw [hgb] at l5
          (repeat (first | refine yw ?_ | ((first | apply yd | apply ye); simp (disch := first|exact zz|fail) only [go_sem, l5]; with_reducible rfl)))
          refine aany_2 (i := 6) (k := 14) rfl rfl rfl ?_ ?_
          · skip
            (refine yg ?_)
            obtain ⟨hF, rL, hrow⟩ := hF.lay (a)
            clear hrow
            generalize (Value.slice (some ⟨K0.length, 0, none⟩) 1 1) = wL at rL ⊢
            generalize (K0 ++ [AObj.cells true 1 [.int .i64 (a)]] : AHeap) = K1 at *
            refine aany_2 (i := 7) (k := 14) rfl rfl rfl ?_ ?_
            · skip
              obtain ⟨v0', K2, hap, hF, -, hrow⟩ := hF.push (k := 0) (by simp) rL (by show (LA.take i).length < _; simp; omega)
              have hap : appendA 1 8 K1 va wL = some (v0', K2) := hap
              have hF : Fam G0 K2 [(LA.take i ++ [a], v0'), (LB.take i, vb), (LC.take i, vc), (U.take i, vd)] := hF
              (repeat (first | refine yw ?_ | ((first | apply yd | apply ye); simp (disch := first|exact zz|fail) only [go_sem, hap]; with_reducible rfl)))
              refine aany_1 (i := 14) rfl rfl ?_
              (refine yg ?_)
              obtain ⟨hF, rR, hrow⟩ := hF.lay (b)
              clear hrow
              generalize (Value.slice (some ⟨K2.length, 0, none⟩) 1 1) = wR at rR ⊢
              generalize (K2 ++ [AObj.cells true 1 [.int .i64 (b)]] : AHeap) = K3 at *
              refine aany_1 (i := 15) rfl rfl ?_
              obtain ⟨v1', K4, hap, hF, -, hrow⟩ := hF.push (k := 1) (by simp) rR (by show (LB.take i).length < _; simp; omega)
              have hap : appendA 1 8 K3 vb wR = some (v1', K4) := hap
              have hF : Fam G0 K4 [(LA.take i ++ [a], v0'), (LB.take i ++ [b], v1'), (LC.take i, vc), (U.take i, vd)] := hF
              (repeat (first | refine yw ?_ | ((first | apply yd | apply ye); simp (disch := first|exact zz|fail) only [go_sem, hap]; with_reducible rfl)))
              refine aany_1 (i := 16) rfl rfl ?_
              (refine yg ?_)
              refine aany_1 (i := 17) rfl rfl ?_
              (refine yg ?_)
              refine aany_e rfl ?_
              first | exact ⟨trivial, _, _, by simp [forget], hF⟩ | exact ⟨rfl, _, _, by simp [forget], hF⟩
            · skip
              (refine yg ?_)
              obtain ⟨hF, rR, hrow⟩ := hF.lay (b)
              have rL := hrow _ _ rL
              clear hrow
              generalize (Value.slice (some ⟨K1.length, 0, none⟩) 1 1) = wR at rR ⊢
              generalize (K1 ++ [AObj.cells true 1 [.int .i64 (b)]] : AHeap) = K2 at *
              refine aany_1 (i := 7) rfl rfl ?_
              obtain ⟨v0', K3, hap, hF, -, hrow⟩ := hF.push (k := 0) (by simp) rL (by show (LA.take i).length < _; simp; omega)
              have hap : appendA 1 8 K2 va wL = some (v0', K3) := hap
              have hF : Fam G0 K3 [(LA.take i ++ [a], v0'), (LB.take i, vb), (LC.take i, vc), (U.take i, vd)] := hF
              have rR : RowF K3 (b) wR [(LA.take i ++ [a], v0'), (LB.take i, vb), (LC.take i, vc), (U.take i, vd)] := hrow _ _ rR
              (repeat (first | refine yw ?_ | ((first | apply yd | apply ye); simp (disch := first|exact zz|fail) only [go_sem, hap]; with_reducible rfl)))
              refine aany_1 (i := 15) rfl rfl ?_
              obtain ⟨v1', K4, hap, hF, -, hrow⟩ := hF.push (k := 1) (by simp) rR (by show (LB.take i).length < _; simp; omega)
              have hap : appendA 1 8 K3 vb wR = some (v1', K4) := hap
              have hF : Fam G0 K4 [(LA.take i ++ [a], v0'), (LB.take i ++ [b], v1'), (LC.take i, vc), (U.take i, vd)] := hF
              (repeat (first | refine yw ?_ | ((first | apply yd | apply ye); simp (disch := first|exact zz|fail) only [go_sem, hap]; with_reducible rfl)))
              refine aany_1 (i := 16) rfl rfl ?_
              (refine yg ?_)
              refine aany_1 (i := 17) rfl rfl ?_
              (refine yg ?_)
              refine aany_e rfl ?_
              first | exact ⟨trivial, _, _, by simp [forget], hF⟩ | exact ⟨rfl, _, _, by simp [forget], hF⟩
          · skip
            (refine yg ?_)
            obtain ⟨hF, rR, hrow⟩ := hF.lay (b)
            clear hrow
            generalize (Value.slice (some ⟨K0.length, 0, none⟩) 1 1) = wR at rR ⊢
            generalize (K0 ++ [AObj.cells true 1 [.int .i64 (b)]] : AHeap) = K1 at *
            refine aany_1 (i := 6) rfl rfl ?_
            (refine yg ?_)
            obtain ⟨hF, rL, hrow⟩ := hF.lay (a)
            have rR := hrow _ _ rR
            clear hrow
            generalize (Value.slice (some ⟨K1.length, 0, none⟩) 1 1) = wL at rL ⊢
            generalize (K1 ++ [AObj.cells true 1 [.int .i64 (a)]] : AHeap) = K2 at *
            refine aany_1 (i := 7) rfl rfl ?_
            obtain ⟨v0', K3, hap, hF, -, hrow⟩ := hF.push (k := 0) (by simp) rL (by show (LA.take i).length < _; simp; omega)
            have hap : appendA 1 8 K2 va wL = some (v0', K3) := hap
            have hF : Fam G0 K3 [(LA.take i ++ [a], v0'), (LB.take i, vb), (LC.take i, vc), (U.take i, vd)] := hF
            have rR : RowF K3 (b) wR [(LA.take i ++ [a], v0'), (LB.take i, vb), (LC.take i, vc), (U.take i, vd)] := hrow _ _ rR
            (repeat (first | refine yw ?_ | ((first | apply yd | apply ye); simp (disch := first|exact zz|fail) only [go_sem, hap]; with_reducible rfl)))
            refine aany_1 (i := 15) rfl rfl ?_
            obtain ⟨v1', K4, hap, hF, -, hrow⟩ := hF.push (k := 1) (by simp) rR (by show (LB.take i).length < _; simp; omega)
            have hap : appendA 1 8 K3 vb wR = some (v1', K4) := hap
            have hF : Fam G0 K4 [(LA.take i ++ [a], v0'), (LB.take i ++ [b], v1'), (LC.take i, vc), (U.take i, vd)] := hF
            (repeat (first | refine yw ?_ | ((first | apply yd | apply ye); simp (disch := first|exact zz|fail) only [go_sem, hap]; with_reducible rfl)))
            refine aany_1 (i := 16) rfl rfl ?_
            (refine yg ?_)
            refine aany_1 (i := 17) rfl rfl ?_
            (refine yg ?_)
            refine aany_e rfl ?_
            first | exact ⟨trivial, _, _, by simp [forget], hF⟩ | exact ⟨rfl, _, _, by simp [forget], hF⟩
      · skip
        obtain ⟨l1, l2, l3, l4, l5⟩ := (hw0.ext hF.ext).load (Ext.refl _) hi'
        rw [hgb] at l5
        (repeat (first | refine yw ?_ | ((first | apply yd | apply ye); simp (disch := first|exact zz|fail) only [go_sem, l5]; with_reducible rfl)))
        refine aany_2 (i := 5) (k := 14) rfl rfl rfl ?_ ?_
        · skip
          obtain ⟨l1, l2, l3, l4, l5⟩ := (hw0.ext hF.ext).load (Ext.refl _) hi'
          rw [hga] at l4
          (repeat (first | refine yw ?_ | ((first | apply yd | apply ye); simp (disch := first|exact zz|fail) only [go_sem, l4]; with_reducible rfl)))
          refine aany_2 (i := 6) (k := 14) rfl rfl rfl ?_ ?_
          · skip
            (refine yg ?_)
            obtain ⟨hF, rL, hrow⟩ := hF.lay (a)
            clear hrow
            generalize (Value.slice (some ⟨K0.length, 0, none⟩) 1 1) = wL at rL ⊢
            generalize (K0 ++ [AObj.cells true 1 [.int .i64 (a)]] : AHeap) = K1 at *
            refine aany_2 (i := 7) (k := 14) rfl rfl rfl ?_ ?_
            · skip
              obtain ⟨v0', K2, hap, hF, -, hrow⟩ := hF.push (k := 0) (by simp) rL (by show (LA.take i).length < _; simp; omega)
              have hap : appendA 1 8 K1 va wL = some (v0', K2) := hap
              have hF : Fam G0 K2 [(LA.take i ++ [a], v0'), (LB.take i, vb), (LC.take i, vc), (U.take i, vd)] := hF
              (repeat (first | refine yw ?_ | ((first | apply yd | apply ye); simp (disch := first|exact zz|fail) only [go_sem, hap]; with_reducible rfl)))
              refine aany_1 (i := 14) rfl rfl ?_
              (refine yg ?_)
              obtain ⟨hF, rR, hrow⟩ := hF.lay (b)
              clear hrow
              generalize (Value.slice (some ⟨K2.length, 0, none⟩) 1 1) = wR at rR ⊢
              generalize (K2 ++ [AObj.cells true 1 [.int .i64 (b)]] : AHeap) = K3 at *
              refine aany_1 (i := 15) rfl rfl ?_
              obtain ⟨v1', K4, hap, hF, -, hrow⟩ := hF.push (k := 1) (by simp) rR (by show (LB.take i).length < _; simp; omega)
              have hap : appendA 1 8 K3 vb wR = some (v1', K4) := hap
              have hF : Fam G0 K4 [(LA.take i ++ [a], v0'), (LB.take i ++ [b], v1'), (LC.take i, vc), (U.take i, vd)] := hF
              (repeat (first | refine yw ?_ | ((first | apply yd | apply ye); simp (disch := first|exact zz|fail) only [go_sem, hap]; with_reducible rfl)))
              refine aany_1 (i := 16) rfl rfl ?_
              (refine yg ?_)
              refine aany_1 (i := 17) rfl rfl ?_
              (refine yg ?_)
              refine aany_e rfl ?_
              first | exact ⟨trivial, _, _, by simp [forget], hF⟩ | exact ⟨rfl, _, _, by simp [forget], hF⟩
            · skip
              (refine yg ?_)
              obtain ⟨hF, rR, hrow⟩ := hF.lay (b)
              have rL := hrow _ _ rL
              clear hrow
              generalize (Value.slice (some ⟨K1.length, 0, none⟩) 1 1) = wR at rR ⊢
              generalize (K1 ++ [AObj.cells true 1 [.int .i64 (b)]] : AHeap) = K2 at *
              refine aany_1 (i := 7) rfl rfl ?_
              obtain ⟨v0', K3, hap, hF, -, hrow⟩ := hF.push (k := 0) (by simp) rL (by show (LA.take i).length < _; simp; omega)
              have hap : appendA 1 8 K2 va wL = some (v0', K3) := hap
              have hF : Fam G0 K3 [(LA.take i ++ [a], v0'), (LB.take i, vb), (LC.take i, vc), (U.take i, vd)] := hF
              have rR : RowF K3 (b) wR [(LA.take i ++ [a], v0'), (LB.take i, vb), (LC.take i, vc), (U.take i, vd)] := hrow _ _ rR
              (repeat (first | refine yw ?_ | ((first | apply yd | apply ye); simp (disch := first|exact zz|fail) only [go_sem, hap]; with_reducible rfl)))
              refine aany_1 (i := 15) rfl rfl ?_
              obtain ⟨v1', K4, hap, hF, -, hrow⟩ := hF.push (k := 1) (by simp) rR (by show (LB.take i).length < _; simp; omega)
              have hap : appendA 1 8 K3 vb wR = some (v1', K4) := hap
              have hF : Fam G0 K4 [(LA.take i ++ [a], v0'), (LB.take i ++ [b], v1'), (LC.take i, vc), (U.take i, vd)] := hF
              (repeat (first | refine yw ?_ | ((first | apply yd | apply ye); simp (disch := first|exact zz|fail) only [go_sem, hap]; with_reducible rfl)))
              refine aany_1 (i := 16) rfl rfl ?_
              (refine yg ?_)
              refine aany_1 (i := 17) rfl rfl ?_
              (refine yg ?_)
              refine aany_e rfl ?_
              first | exact ⟨trivial, _, _, by simp [forget], hF⟩ | exact ⟨rfl, _, _, by simp [forget], hF⟩
          · skip
            (refine yg ?_)
            obtain ⟨hF, rR, hrow⟩ := hF.lay (b)
            clear hrow
            generalize (Value.slice (some ⟨K0.length, 0, none⟩) 1 1) = wR at rR ⊢
            generalize (K0 ++ [AObj.cells true 1 [.int .i64 (b)]] : AHeap) = K1 at *
            refine aany_1 (i := 6) rfl rfl ?_
            (refine yg ?_)
            obtain ⟨hF, rL, hrow⟩ := hF.lay (a)
            have rR := hrow _ _ rR
            clear hrow
            generalize (Value.slice (some ⟨K1.length, 0, none⟩) 1 1) = wL at rL ⊢
            generalize (K1 ++ [AObj.cells true 1 [.int .i64 (a)]] : AHeap) = K2 at *
            refine aany_1 (i := 7) rfl rfl ?_
            obtain ⟨v0', K3, hap, hF, -, hrow⟩ := hF.push (k := 0) (by simp) rL (by show (LA.take i).length < _; simp; omega)
            have hap : appendA 1 8 K2 va wL = some (v0', K3) := hap
            have hF : Fam G0 K3 [(LA.take i ++ [a], v0'), (LB.take i, vb), (LC.take i, vc), (U.take i, vd)] := hF
            have rR : RowF K3 (b) wR [(LA.take i ++ [a], v0'), (LB.take i, vb), (LC.take i, vc), (U.take i, vd)] := hrow _ _ rR
            (repeat (first | refine yw ?_ | ((first | apply yd | apply ye); simp (disch := first|exact zz|fail) only [go_sem, hap]; with_reducible rfl)))
            refine aany_1 (i := 15) rfl rfl ?_
            obtain ⟨v1', K4, hap, hF, -, hrow⟩ := hF.push (k := 1) (by simp) rR (by show (LB.take i).length < _; simp; omega)
            have hap : appendA 1 8 K3 vb wR = some (v1', K4) := hap
            have hF : Fam G0 K4 [(LA.take i ++ [a], v0'), (LB.take i ++ [b], v1'), (LC.take i, vc), (U.take i, vd)] := hF
            (repeat (first | refine yw ?_ | ((first | apply yd | apply ye); simp (disch := first|exact zz|fail) only [go_sem, hap]; with_reducible rfl)))
            refine aany_1 (i := 16) rfl rfl ?_
            (refine yg ?_)
            refine aany_1 (i := 17) rfl rfl ?_
            (refine yg ?_)
            refine aany_e rfl ?_
            first | exact ⟨trivial, _, _, by simp [forget], hF⟩ | exact ⟨rfl, _, _, by simp [forget], hF⟩
        · skip
          (refine yg ?_)
          obtain ⟨hF, rR, hrow⟩ := hF.lay (b)
          clear hrow
          generalize (Value.slice (some ⟨K0.length, 0, none⟩) 1 1) = wR at rR ⊢
          generalize (K0 ++ [AObj.cells true 1 [.int .i64 (b)]] : AHeap) = K1 at *
          refine aany_1 (i := 5) rfl rfl ?_
          obtain ⟨l1, l2, l3, l4, l5⟩ := (hw0.ext hF.ext).load (Ext.refl _) hi'
          rw [hga] at l4
          (repeat (first | refine yw ?_ | ((first | apply yd | apply ye); simp (disch := first|exact zz|fail) only [go_sem, l4]; with_reducible rfl)))
          refine aany_1 (i := 6) rfl rfl ?_
          (refine yg ?_)
          obtain ⟨hF, rL, hrow⟩ := hF.lay (a)
          have rR := hrow _ _ rR
          clear hrow
          generalize (Value.slice (some ⟨K1.length, 0, none⟩) 1 1) = wL at rL ⊢
          generalize (K1 ++ [AObj.cells true 1 [.int .i64 (a)]] : AHeap) = K2 at *
          refine aany_1 (i := 7) rfl rfl ?_
          obtain ⟨v0', K3, hap, hF, -, hrow⟩ := hF.push (k := 0) (by simp) rL (by show (LA.take i).length < _; simp; omega)
          have hap : appendA 1 8 K2 va wL = some (v0', K3) := hap
          have hF : Fam G0 K3 [(LA.take i ++ [a], v0'), (LB.take i, vb), (LC.take i, vc), (U.take i, vd)] := hF
          have rR : RowF K3 (b) wR [(LA.take i ++ [a], v0'), (LB.take i, vb), (LC.take i, vc), (U.take i, vd)] := hrow _ _ rR
          (repeat (first | refine yw ?_ | ((first | apply yd | apply ye); simp (disch := first|exact zz|fail) only [go_sem, hap]; with_reducible rfl)))
          refine aany_1 (i := 15) rfl rfl ?_
          obtain ⟨v1', K4, hap, hF, -, hrow⟩ := hF.push (k := 1) (by simp) rR (by show (LB.take i).length < _; simp; omega)
          have hap : appendA 1 8 K3 vb wR = some (v1', K4) := hap
          have hF : Fam G0 K4 [(LA.take i ++ [a], v0'), (LB.take i ++ [b], v1'), (LC.take i, vc), (U.take i, vd)] := hF
          (repeat (first | refine yw ?_ | ((first | apply yd | apply ye); simp (disch := first|exact zz|fail) only [go_sem, hap]; with_reducible rfl)))
          refine aany_1 (i := 16) rfl rfl ?_
          (refine yg ?_)
          refine aany_1 (i := 17) rfl rfl ?_
          (refine yg ?_)
          refine aany_e rfl ?_
          first | exact ⟨trivial, _, _, by simp [forget], hF⟩ | exact ⟨rfl, _, _, by simp [forget], hF⟩
    clear hF hwK imK iuK
    rintro e K0 ⟨va, vb, rfl, hF⟩
    have imK := im.ext hF.ext
    have hg1 : (M.getD i (0, 0)).1 = a + b := by rw [mgi]
    have hg2 : (M.getD i (0, 0)).2 = b - a := by rw [mgi]
    have hiM' := hiM
    refine awp_midB [true, false, false, true, false, true, false, true, true, true, true, true, false, false, false, false, false, false, false, false, false, false, false, false, false, false, false, false, false, false, false, false, false, false, false, false, false, false, false, false, false, false, false, false, false, false, false, false, false, false, false, false, false, false, false, false, false, false, false, false, false, false, false, false, false, false, false, false, false, false, false, false, false, false, false, false, false, false, false, false, false, false, false, false, false, false, false, false, false, false, false, false, false, false, false, false, false, false, false, false, false, false, false, false, false, false, false, false, false, false, false, false, false, false, false, false, false, false, false, false, false, false, false, false, false, false, false, false, false, false, false, false, false, false, false, false, false, false, false, false, false, false, false, false, false, false, false, false, false, false, false, false, false, false, false, false, false, false, false, false, false, false, false, false, false, false, false, false, false, false, false, false, false, false, false, false, false, false, false, false, false, false, false, false, false, false, false, false, false, false, false, false, false, false, false, false, false, false, false, false, false, false, false, false, false, false, false, false, false, false, false, false, false, false, false, false, false, false, false, false, false, false, false, false, false, false, false, false, false, false, false, false, false, false, false, false, false, false, false, false, false, false, false, false, false, false, false, false, false, false, false, false, false, false, false, false, false, false, false, false, false, false, false, false, false, false, false, false, false, false, false, false, false, false, false, false, false, false, false, false, false, false, false, false, false, false, false, false, false, false, false, false, false, false, false, false, false, false, false, false, false, false, false, false, false, false, false, false, false, false, false, false, false, false, false] (fun e J => ∃ vc vd, e = [v, junk, junk, sm, junk, sw, junk, va, vb, vc, vd, .int .i64 (i : Nat), junk, junk, junk, junk, junk, junk, junk, junk, junk, junk, junk, junk, junk, junk, junk, junk, junk, junk, junk, junk, junk, junk, junk, junk, junk, junk, junk, junk, junk, junk, junk, junk, junk, junk, junk, junk, junk, junk, junk, junk, junk, junk, junk, junk, junk, junk, junk, junk, junk, junk, junk, junk, junk, junk, junk, junk, junk, junk, junk, junk, junk, junk, junk, junk, junk, junk, junk, junk, junk, junk, junk, junk, junk, junk, junk, junk, junk, junk, junk, junk, junk, junk, junk, junk, junk, junk, junk, junk, junk, junk, junk, junk, junk, junk, junk, junk, junk, junk, junk, junk, junk, junk, junk, junk, junk, junk, junk, junk, junk, junk, junk, junk, junk, junk, junk, junk, junk, junk, junk, junk, junk, junk, junk, junk, junk, junk, junk, junk, junk, junk, junk, junk, junk, junk, junk, junk, junk, junk, junk, junk, junk, junk, junk, junk, junk, junk, junk, junk, junk, junk, junk, junk, junk, junk, junk, junk, junk, junk, junk, junk, junk, junk, junk, junk, junk, junk, junk, junk, junk, junk, junk, junk, junk, junk, junk, junk, junk, junk, junk, junk, junk, junk, junk, junk, junk, junk, junk, junk, junk, junk, junk, junk, junk, junk, junk, junk, junk, junk, junk, junk, junk, junk, junk, junk, junk, junk, junk, junk, junk, junk, junk, junk, junk, junk, junk, junk, junk, junk, junk, junk, junk, junk, junk, junk, junk, junk, junk, junk, junk, junk, junk, junk, junk, junk, junk, junk, junk, junk, junk, junk, junk, junk, junk, junk, junk, junk, junk, junk, junk, junk, junk, junk, junk, junk, junk, junk, junk, junk, junk, junk, junk, junk, junk, junk, junk, junk, junk, junk, junk, junk, junk, junk, junk, junk, junk, junk, junk, junk, junk, junk, junk, junk, junk, junk, junk, junk, junk, junk, junk, junk, junk, junk, junk, junk, junk, junk, junk, junk, junk, junk, junk, junk, junk] ∧ Fam G0 J [(LA.take i ++ [a], va), (LB.take i ++ [b], vb), (LC.take i ++ [a + b], vc), (U.take i ++ [b - a], vd)]) ?_ ?_
    · refine awp_any ?_
      refine aany_pures (n := 8) [0, 1, 2, 3, 4, 8, 9, 10, 11, 12] _ _ _ _ rfl (by decide +kernel) ?_
      simp only [takeOps, List.filterMap_cons, List.filterMap_nil, List.getElem?_cons_zero, List.getElem?_cons_succ, Option.map_some]
      (repeat (first | refine yw ?_ | ((first | apply yd | apply ye); simp (disch := first|exact zz|fail) only [go_sem, imK.len, imK.idx, imK.load]; with_reducible rfl)))
      refine aany_2 (i := 5) (k := 13) rfl rfl rfl ?_ ?_
      · skip
        obtain ⟨l1, l2, l3, l4, l5⟩ := (im.ext hF.ext).load (Ext.refl _) hiM
        rw [hg1] at l4
        (repeat (first | refine yw ?_ | ((first | apply yd | apply ye); simp (disch := first|exact zz|fail) only [go_sem, l4]; with_reducible rfl)))
        refine aany_2 (i := 6) (k := 13) rfl rfl rfl ?_ ?_
        · skip
          (refine yg ?_)
          obtain ⟨hF, rL, hrow⟩ := hF.lay (a + b)
          clear hrow
          generalize (Value.slice (some ⟨K0.length, 0, none⟩) 1 1) = wL at rL ⊢
          generalize (K0 ++ [AObj.cells true 1 [.int .i64 (a + b)]] : AHeap) = K1 at *
          refine aany_2 (i := 7) (k := 13) rfl rfl rfl ?_ ?_
          · skip
            obtain ⟨v2', K2, hap, hF, -, hrow⟩ := hF.push (k := 2) (by simp) rL (by show (LC.take i).length < _; simp; omega)
            have hap : appendA 1 8 K1 vc wL = some (v2', K2) := hap
            have hF : Fam G0 K2 [(LA.take i ++ [a], va), (LB.take i ++ [b], vb), (LC.take i ++ [a + b], v2'), (U.take i, vd)] := hF
            (repeat (first | refine yw ?_ | ((first | apply yd | apply ye); simp (disch := first|exact zz|fail) only [go_sem, hap]; with_reducible rfl)))
            refine aany_1 (i := 13) rfl rfl ?_
            obtain ⟨l1, l2, l3, l4, l5⟩ := (im.ext hF.ext).load (Ext.refl _) hiM
            rw [hg2] at l5
            (repeat (first | refine yw ?_ | ((first | apply yd | apply ye); simp (disch := first|exact zz|fail) only [go_sem, l5]; with_reducible rfl)))
            refine aany_1 (i := 14) rfl rfl ?_
            (refine yg ?_)
            obtain ⟨hF, rR, hrow⟩ := hF.lay (b - a)
            clear hrow
            generalize (Value.slice (some ⟨K2.length, 0, none⟩) 1 1) = wR at rR ⊢
            generalize (K2 ++ [AObj.cells true 1 [.int .i64 (b - a)]] : AHeap) = K3 at *
            refine aany_1 (i := 15) rfl rfl ?_
            obtain ⟨v3', K4, hap, hF, -, hrow⟩ := hF.push (k := 3) (by simp) rR (by show (U.take i).length < _; simp; omega)
            have hap : appendA 1 8 K3 vd wR = some (v3', K4) := hap
            have hF : Fam G0 K4 [(LA.take i ++ [a], va), (LB.take i ++ [b], vb), (LC.take i ++ [a + b], v2'), (U.take i ++ [b - a], v3')] := hF
            (repeat (first | refine yw ?_ | ((first | apply yd | apply ye); simp (disch := first|exact zz|fail) only [go_sem, hap]; with_reducible rfl)))
            refine aany_1 (i := 16) rfl rfl ?_
            (refine yg ?_)
            refine aany_1 (i := 17) rfl rfl ?_
            (refine yg ?_)
            refine aany_e rfl ?_
            first | exact ⟨trivial, _, _, by simp [forget], hF⟩ | exact ⟨rfl, _, _, by simp [forget], hF⟩
          · skip
            obtain ⟨l1, l2, l3, l4, l5⟩ := (im.ext hF.ext).load (Ext.refl _) hiM
            rw [hg2] at l5
            (repeat (first | refine yw ?_ | ((first | apply yd | apply ye); simp (disch := first|exact zz|fail) only [go_sem, l5]; with_reducible rfl)))
            refine aany_2 (i := 7) (k := 14) rfl rfl rfl ?_ ?_
            · skip
              obtain ⟨v2', K2, hap, hF, -, hrow⟩ := hF.push (k := 2) (by simp) rL (by show (LC.take i).length < _; simp; omega)
              have hap : appendA 1 8 K1 vc wL = some (v2', K2) := hap
              have hF : Fam G0 K2 [(LA.take i ++ [a], va), (LB.take i ++ [b], vb), (LC.take i ++ [a + b], v2'), (U.take i, vd)] := hF
              (repeat (first | refine yw ?_ | ((first | apply yd | apply ye); simp (disch := first|exact zz|fail) only [go_sem, hap]; with_reducible rfl)))
              refine aany_1 (i := 14) rfl rfl ?_
              (refine yg ?_)
              obtain ⟨hF, rR, hrow⟩ := hF.lay (b - a)
              clear hrow
              generalize (Value.slice (some ⟨K2.length, 0, none⟩) 1 1) = wR at rR ⊢
              generalize (K2 ++ [AObj.cells true 1 [.int .i64 (b - a)]] : AHeap) = K3 at *
              refine aany_1 (i := 15) rfl rfl ?_
              obtain ⟨v3', K4, hap, hF, -, hrow⟩ := hF.push (k := 3) (by simp) rR (by show (U.take i).length < _; simp; omega)
              have hap : appendA 1 8 K3 vd wR = some (v3', K4) := hap
              have hF : Fam G0 K4 [(LA.take i ++ [a], va), (LB.take i ++ [b], vb), (LC.take i ++ [a + b], v2'), (U.take i ++ [b - a], v3')] := hF
              (repeat (first | refine yw ?_ | ((first | apply yd | apply ye); simp (disch := first|exact zz|fail) only [go_sem, hap]; with_reducible rfl)))
              refine aany_1 (i := 16) rfl rfl ?_
              (refine yg ?_)
              refine aany_1 (i := 17) rfl rfl ?_
              (refine yg ?_)
              refine aany_e rfl ?_
              first | exact ⟨trivial, _, _, by simp [forget], hF⟩ | exact ⟨rfl, _, _, by simp [forget], hF⟩
            · skip
              (refine yg ?_)
              obtain ⟨hF, rR, hrow⟩ := hF.lay (b - a)
              have rL := hrow _ _ rL
              clear hrow
              generalize (Value.slice (some ⟨K1.length, 0, none⟩) 1 1) = wR at rR ⊢
              generalize (K1 ++ [AObj.cells true 1 [.int .i64 (b - a)]] : AHeap) = K2 at *
              refine aany_1 (i := 7) rfl rfl ?_
              obtain ⟨v2', K3, hap, hF, -, hrow⟩ := hF.push (k := 2) (by simp) rL (by show (LC.take i).length < _; simp; omega)
              have hap : appendA 1 8 K2 vc wL = some (v2', K3) := hap
              have hF : Fam G0 K3 [(LA.take i ++ [a], va), (LB.take i ++ [b], vb), (LC.take i ++ [a + b], v2'), (U.take i, vd)] := hF
              have rR : RowF K3 (b - a) wR [(LA.take i ++ [a], va), (LB.take i ++ [b], vb), (LC.take i ++ [a + b], v2'), (U.take i, vd)] := hrow _ _ rR
              (repeat (first | refine yw ?_ | ((first | apply yd | apply ye); simp (disch := first|exact zz|fail) only [go_sem, hap]; with_reducible rfl)))
              refine aany_1 (i := 15) rfl rfl ?_
              obtain ⟨v3', K4, hap, hF, -, hrow⟩ := hF.push (k := 3) (by simp) rR (by show (U.take i).length < _; simp; omega)
              have hap : appendA 1 8 K3 vd wR = some (v3', K4) := hap
              have hF : Fam G0 K4 [(LA.take i ++ [a], va), (LB.take i ++ [b], vb), (LC.take i ++ [a + b], v2'), (U.take i ++ [b - a], v3')] := hF
              (repeat (first | refine yw ?_ | ((first | apply yd | apply ye); simp (disch := first|exact zz|fail) only [go_sem, hap]; with_reducible rfl)))
              refine aany_1 (i := 16) rfl rfl ?_
              (refine yg ?_)
              refine aany_1 (i := 17) rfl rfl ?_
              (refine yg ?_)
              refine aany_e rfl ?_
              first | exact ⟨trivial, _, _, by simp [forget], hF⟩ | exact ⟨rfl, _, _, by simp [forget], hF⟩
        · skip
          obtain ⟨l1, l2, l3, l4, l5⟩ := (im.ext hF.ext).load (Ext.refl _) hiM
          rw [hg2] at l5
          (repeat (first | refine yw ?_ | ((first | apply yd | apply ye); simp (disch := first|exact zz|fail) only [go_sem, l5]; with_reducible rfl)))
          refine aany_2 (i := 6) (k := 14) rfl rfl rfl ?_ ?_
          · skip
            (refine yg ?_)
            obtain ⟨hF, rL, hrow⟩ := hF.lay (a + b)
            clear hrow
            generalize (Value.slice (some ⟨K0.length, 0, none⟩) 1 1) = wL at rL ⊢
            generalize (K0 ++ [AObj.cells true 1 [.int .i64 (a + b)]] : AHeap) = K1 at *
            refine aany_2 (i := 7) (k := 14) rfl rfl rfl ?_ ?_
            · skip
              obtain ⟨v2', K2, hap, hF, -, hrow⟩ := hF.push (k := 2) (by simp) rL (by show (LC.take i).length < _; simp; omega)
              have hap : appendA 1 8 K1 vc wL = some (v2', K2) := hap
              have hF : Fam G0 K2 [(LA.take i ++ [a], va), (LB.take i ++ [b], vb), (LC.take i ++ [a + b], v2'), (U.take i, vd)] := hF
              (repeat (first | refine yw ?_ | ((first | apply yd | apply ye); simp (disch := first|exact zz|fail) only [go_sem, hap]; with_reducible rfl)))
              refine aany_1 (i := 14) rfl rfl ?_
              (refine yg ?_)
              obtain ⟨hF, rR, hrow⟩ := hF.lay (b - a)
              clear hrow
              generalize (Value.slice (some ⟨K2.length, 0, none⟩) 1 1) = wR at rR ⊢
              generalize (K2 ++ [AObj.cells true 1 [.int .i64 (b - a)]] : AHeap) = K3 at *
              refine aany_1 (i := 15) rfl rfl ?_
              obtain ⟨v3', K4, hap, hF, -, hrow⟩ := hF.push (k := 3) (by simp) rR (by show (U.take i).length < _; simp; omega)
              have hap : appendA 1 8 K3 vd wR = some (v3', K4) := hap
              have hF : Fam G0 K4 [(LA.take i ++ [a], va), (LB.take i ++ [b], vb), (LC.take i ++ [a + b], v2'), (U.take i ++ [b - a], v3')] := hF
              (repeat (first | refine yw ?_ | ((first | apply yd | apply ye); simp (disch := first|exact zz|fail) only [go_sem, hap]; with_reducible rfl)))
              refine aany_1 (i := 16) rfl rfl ?_
              (refine yg ?_)
              refine aany_1 (i := 17) rfl rfl ?_
              (refine yg ?_)
              refine aany_e rfl ?_
              first | exact ⟨trivial, _, _, by simp [forget], hF⟩ | exact ⟨rfl, _, _, by simp [forget], hF⟩
            · skip
              (refine yg ?_)
              obtain ⟨hF, rR, hrow⟩ := hF.lay (b - a)
              have rL := hrow _ _ rL
              clear hrow
              generalize (Value.slice (some ⟨K1.length, 0, none⟩) 1 1) = wR at rR ⊢
              generalize (K1 ++ [AObj.cells true 1 [.int .i64 (b - a)]] : AHeap) = K2 at *
              refine aany_1 (i := 7) rfl rfl ?_
              obtain ⟨v2', K3, hap, hF, -, hrow⟩ := hF.push (k := 2) (by simp) rL (by show (LC.take i).length < _; simp; omega)
              have hap : appendA 1 8 K2 vc wL = some (v2', K3) := hap
              have hF : Fam G0 K3 [(LA.take i ++ [a], va), (LB.take i ++ [b], vb), (LC.take i ++ [a + b], v2'), (U.take i, vd)] := hF
              have rR : RowF K3 (b - a) wR [(LA.take i ++ [a], va), (LB.take i ++ [b], vb), (LC.take i ++ [a + b], v2'), (U.take i, vd)] := hrow _ _ rR
              (repeat (first | refine yw ?_ | ((first | apply yd | apply ye); simp (disch := first|exact zz|fail) only [go_sem, hap]; with_reducible rfl)))
              refine aany_1 (i := 15) rfl rfl ?_
              obtain ⟨v3', K4, hap, hF, -, hrow⟩ := hF.push (k := 3) (by simp) rR (by show (U.take i).length < _; simp; omega)
              have hap : appendA 1 8 K3 vd wR = some (v3', K4) := hap
              have hF : Fam G0 K4 [(LA.take i ++ [a], va), (LB.take i ++ [b], vb), (LC.take i ++ [a + b], v2'), (U.take i ++ [b - a], v3')] := hF
              (repeat (first | refine yw ?_ | ((first | apply yd | apply ye); simp (disch := first|exact zz|fail) only [go_sem, hap]; with_reducible rfl)))
              refine aany_1 (i := 16) rfl rfl ?_
              (refine yg ?_)
              refine aany_1 (i := 17) rfl rfl ?_
              (refine yg ?_)
              refine aany_e rfl ?_
              first | exact ⟨trivial, _, _, by simp [forget], hF⟩ | exact ⟨rfl, _, _, by simp [forget], hF⟩
          · skip
            (refine yg ?_)
            obtain ⟨hF, rR, hrow⟩ := hF.lay (b - a)
            clear hrow
            generalize (Value.slice (some ⟨K0.length, 0, none⟩) 1 1) = wR at rR ⊢
            generalize (K0 ++ [AObj.cells true 1 [.int .i64 (b - a)]] : AHeap) = K1 at *
            refine aany_1 (i := 6) rfl rfl ?_
            (refine yg ?_)
            obtain ⟨hF, rL, hrow⟩ := hF.lay (a + b)
            have rR := hrow _ _ rR
            clear hrow
            generalize (Value.slice (some ⟨K1.length, 0, none⟩) 1 1) = wL at rL ⊢
            generalize (K1 ++ [AObj.cells true 1 [.int .i64 (a + b)]] : AHeap) = K2 at *
            refine aany_1 (i := 7) rfl rfl ?_
            obtain ⟨v2', K3, hap, hF, -, hrow⟩ := hF.push (k := 2) (by simp) rL (by show (LC.take i).length < _; simp; omega)
            have hap : appendA 1 8 K2 vc wL = some (v2', K3) := hap
            have hF : Fam G0 K3 [(LA.take i ++ [a], va), (LB.take i ++ [b], vb), (LC.take i ++ [a + b], v2'), (U.take i, vd)] := hF
            have rR : RowF K3 (b - a) wR [(LA.take i ++ [a], va), (LB.take i ++ [b], vb), (LC.take i ++ [a + b], v2'), (U.take i, vd)] := hrow _ _ rR
            (repeat (first | refine yw ?_ | ((first | apply yd | apply ye); simp (disch := first|exact zz|fail) only [go_sem, hap]; with_reducible rfl)))
            refine aany_1 (i := 15) rfl rfl ?_
            obtain ⟨v3', K4, hap, hF, -, hrow⟩ := hF.push (k := 3) (by simp) rR (by show (U.take i).length < _; simp; omega)
            have hap : appendA 1 8 K3 vd wR = some (v3', K4) := hap
            have hF : Fam G0 K4 [(LA.take i ++ [a], va), (LB.take i ++ [b], vb), (LC.take i ++ [a + b], v2'), (U.take i ++ [b - a], v3')] := hF
            (repeat (first | refine yw ?_ | ((first | apply yd | apply ye); simp (disch := first|exact zz|fail) only [go_sem, hap]; with_reducible rfl)))
            refine aany_1 (i := 16) rfl rfl ?_
            (refine yg ?_)
            refine aany_1 (i := 17) rfl rfl ?_
            (refine yg ?_)
            refine aany_e rfl ?_
            first | exact ⟨trivial, _, _, by simp [forget], hF⟩ | exact ⟨rfl, _, _, by simp [forget], hF⟩
      · skip
        obtain ⟨l1, l2, l3, l4, l5⟩ := (im.ext hF.ext).load (Ext.refl _) hiM
        rw [hg2] at l5
        (repeat (first | refine yw ?_ | ((first | apply yd | apply ye); simp (disch := first|exact zz|fail) only [go_sem, l5]; with_reducible rfl)))
        refine aany_2 (i := 5) (k := 14) rfl rfl rfl ?_ ?_
        · skip
          obtain ⟨l1, l2, l3, l4, l5⟩ := (im.ext hF.ext).load (Ext.refl _) hiM
          rw [hg1] at l4
          (repeat (first | refine yw ?_ | ((first | apply yd | apply ye); simp (disch := first|exact zz|fail) only [go_sem, l4]; with_reducible rfl)))
          refine aany_2 (i := 6) (k := 14) rfl rfl rfl ?_ ?_
          · skip
            (refine yg ?_)
            obtain ⟨hF, rL, hrow⟩ := hF.lay (a + b)
            clear hrow
            generalize (Value.slice (some ⟨K0.length, 0, none⟩) 1 1) = wL at rL ⊢
            generalize (K0 ++ [AObj.cells true 1 [.int .i64 (a + b)]] : AHeap) = K1 at *
            refine aany_2 (i := 7) (k := 14) rfl rfl rfl ?_ ?_
            · skip
              obtain ⟨v2', K2, hap, hF, -, hrow⟩ := hF.push (k := 2) (by simp) rL (by show (LC.take i).length < _; simp; omega)
              have hap : appendA 1 8 K1 vc wL = some (v2', K2) := hap
              have hF : Fam G0 K2 [(LA.take i ++ [a], va), (LB.take i ++ [b], vb), (LC.take i ++ [a + b], v2'), (U.take i, vd)] := hF
              (repeat (first | refine yw ?_ | ((first | apply yd | apply ye); simp (disch := first|exact zz|fail) only [go_sem, hap]; with_reducible rfl)))
              refine aany_1 (i := 14) rfl rfl ?_
              (refine yg ?_)
              obtain ⟨hF, rR, hrow⟩ := hF.lay (b - a)
              clear hrow
              generalize (Value.slice (some ⟨K2.length, 0, none⟩) 1 1) = wR at rR ⊢
              generalize (K2 ++ [AObj.cells true 1 [.int .i64 (b - a)]] : AHeap) = K3 at *
              refine aany_1 (i := 15) rfl rfl ?_
              obtain ⟨v3', K4, hap, hF, -, hrow⟩ := hF.push (k := 3) (by simp) rR (by show (U.take i).length < _; simp; omega)
              have hap : appendA 1 8 K3 vd wR = some (v3', K4) := hap
              have hF : Fam G0 K4 [(LA.take i ++ [a], va), (LB.take i ++ [b], vb), (LC.take i ++ [a + b], v2'), (U.take i ++ [b - a], v3')] := hF
              (repeat (first | refine yw ?_ | ((first | apply yd | apply ye); simp (disch := first|exact zz|fail) only [go_sem, hap]; with_reducible rfl)))
              refine aany_1 (i := 16) rfl rfl ?_
              (refine yg ?_)
              refine aany_1 (i := 17) rfl rfl ?_
              (refine yg ?_)
              refine aany_e rfl ?_
              first | exact ⟨trivial, _, _, by simp [forget], hF⟩ | exact ⟨rfl, _, _, by simp [forget], hF⟩
            · skip
              (refine yg ?_)
              obtain ⟨hF, rR, hrow⟩ := hF.lay (b - a)
              have rL := hrow _ _ rL
              clear hrow
              generalize (Value.slice (some ⟨K1.length, 0, none⟩) 1 1) = wR at rR ⊢
              generalize (K1 ++ [AObj.cells true 1 [.int .i64 (b - a)]] : AHeap) = K2 at *
              refine aany_1 (i := 7) rfl rfl ?_
              obtain ⟨v2', K3, hap, hF, -, hrow⟩ := hF.push (k := 2) (by simp) rL (by show (LC.take i).length < _; simp; omega)
              have hap : appendA 1 8 K2 vc wL = some (v2', K3) := hap
              have hF : Fam G0 K3 [(LA.take i ++ [a], va), (LB.take i ++ [b], vb), (LC.take i ++ [a + b], v2'), (U.take i, vd)] := hF
              have rR : RowF K3 (b - a) wR [(LA.take i ++ [a], va), (LB.take i ++ [b], vb), (LC.take i ++ [a + b], v2'), (U.take i, vd)] := hrow _ _ rR
              (repeat (first | refine yw ?_ | ((first | apply yd | apply ye); simp (disch := first|exact zz|fail) only [go_sem, hap]; with_reducible rfl)))
              refine aany_1 (i := 15) rfl rfl ?_
              obtain ⟨v3', K4, hap, hF, -, hrow⟩ := hF.push (k := 3) (by simp) rR (by show (U.take i).length < _; simp; omega)
              have hap : appendA 1 8 K3 vd wR = some (v3', K4) := hap
              have hF : Fam G0 K4 [(LA.take i ++ [a], va), (LB.take i ++ [b], vb), (LC.take i ++ [a + b], v2'), (U.take i ++ [b - a], v3')] := hF
              (repeat (first | refine yw ?_ | ((first | apply yd | apply ye); simp (disch := first|exact zz|fail) only [go_sem, hap]; with_reducible rfl)))
              refine aany_1 (i := 16) rfl rfl ?_
              (refine yg ?_)
              refine aany_1 (i := 17) rfl rfl ?_
              (refine yg ?_)
              refine aany_e rfl ?_
              first | exact ⟨trivial, _, _, by simp [forget], hF⟩ | exact ⟨rfl, _, _, by simp [forget], hF⟩
          · skip
            (refine yg ?_)
            obtain ⟨hF, rR, hrow⟩ := hF.lay (b - a)
            clear hrow
            generalize (Value.slice (some ⟨K0.length, 0, none⟩) 1 1) = wR at rR ⊢
            generalize (K0 ++ [AObj.cells true 1 [.int .i64 (b - a)]] : AHeap) = K1 at *
            refine aany_1 (i := 6) rfl rfl ?_
            (refine yg ?_)
            obtain ⟨hF, rL, hrow⟩ := hF.lay (a + b)
            have rR := hrow _ _ rR
            clear hrow
            generalize (Value.slice (some ⟨K1.length, 0, none⟩) 1 1) = wL at rL ⊢
            generalize (K1 ++ [AObj.cells true 1 [.int .i64 (a + b)]] : AHeap) = K2 at *
            refine aany_1 (i := 7) rfl rfl ?_
            obtain ⟨v2', K3, hap, hF, -, hrow⟩ := hF.push (k := 2) (by simp) rL (by show (LC.take i).length < _; simp; omega)
            have hap : appendA 1 8 K2 vc wL = some (v2', K3) := hap
            have hF : Fam G0 K3 [(LA.take i ++ [a], va), (LB.take i ++ [b], vb), (LC.take i ++ [a + b], v2'), (U.take i, vd)] := hF
            have rR : RowF K3 (b - a) wR [(LA.take i ++ [a], va), (LB.take i ++ [b], vb), (LC.take i ++ [a + b], v2'), (U.take i, vd)] := hrow _ _ rR
            (repeat (first | refine yw ?_ | ((first | apply yd | apply ye); simp (disch := first|exact zz|fail) only [go_sem, hap]; with_reducible rfl)))
            refine aany_1 (i := 15) rfl rfl ?_
            obtain ⟨v3', K4, hap, hF, -, hrow⟩ := hF.push (k := 3) (by simp) rR (by show (U.take i).length < _; simp; omega)
            have hap : appendA 1 8 K3 vd wR = some (v3', K4) := hap
            have hF : Fam G0 K4 [(LA.take i ++ [a], va), (LB.take i ++ [b], vb), (LC.take i ++ [a + b], v2'), (U.take i ++ [b - a], v3')] := hF
            (repeat (first | refine yw ?_ | ((first | apply yd | apply ye); simp (disch := first|exact zz|fail) only [go_sem, hap]; with_reducible rfl)))
            refine aany_1 (i := 16) rfl rfl ?_
            (refine yg ?_)
            refine aany_1 (i := 17) rfl rfl ?_
            (refine yg ?_)
            refine aany_e rfl ?_
            first | exact ⟨trivial, _, _, by simp [forget], hF⟩ | exact ⟨rfl, _, _, by simp [forget], hF⟩
        · skip
          (refine yg ?_)
          obtain ⟨hF, rR, hrow⟩ := hF.lay (b - a)
          clear hrow
          generalize (Value.slice (some ⟨K0.length, 0, none⟩) 1 1) = wR at rR ⊢
          generalize (K0 ++ [AObj.cells true 1 [.int .i64 (b - a)]] : AHeap) = K1 at *
          refine aany_1 (i := 5) rfl rfl ?_
          obtain ⟨l1, l2, l3, l4, l5⟩ := (im.ext hF.ext).load (Ext.refl _) hiM
          rw [hg1] at l4
          (repeat (first | refine yw ?_ | ((first | apply yd | apply ye); simp (disch := first|exact zz|fail) only [go_sem, l4]; with_reducible rfl)))
          refine aany_1 (i := 6) rfl rfl ?_
          (refine yg ?_)
          obtain ⟨hF, rL, hrow⟩ := hF.lay (a + b)
          have rR := hrow _ _ rR
          clear hrow
          generalize (Value.slice (some ⟨K1.length, 0, none⟩) 1 1) = wL at rL ⊢
          generalize (K1 ++ [AObj.cells true 1 [.int .i64 (a + b)]] : AHeap) = K2 at *
          refine aany_1 (i := 7) rfl rfl ?_
          obtain ⟨v2', K3, hap, hF, -, hrow⟩ := hF.push (k := 2) (by simp) rL (by show (LC.take i).length < _; simp; omega)
          have hap : appendA 1 8 K2 vc wL = some (v2', K3) := hap
          have hF : Fam G0 K3 [(LA.take i ++ [a], va), (LB.take i ++ [b], vb), (LC.take i ++ [a + b], v2'), (U.take i, vd)] := hF
          have rR : RowF K3 (b - a) wR [(LA.take i ++ [a], va), (LB.take i ++ [b], vb), (LC.take i ++ [a + b], v2'), (U.take i, vd)] := hrow _ _ rR
          (repeat (first | refine yw ?_ | ((first | apply yd | apply ye); simp (disch := first|exact zz|fail) only [go_sem, hap]; with_reducible rfl)))
          refine aany_1 (i := 15) rfl rfl ?_
          obtain ⟨v3', K4, hap, hF, -, hrow⟩ := hF.push (k := 3) (by simp) rR (by show (U.take i).length < _; simp; omega)
          have hap : appendA 1 8 K3 vd wR = some (v3', K4) := hap
          have hF : Fam G0 K4 [(LA.take i ++ [a], va), (LB.take i ++ [b], vb), (LC.take i ++ [a + b], v2'), (U.take i ++ [b - a], v3')] := hF
          (repeat (first | refine yw ?_ | ((first | apply yd | apply ye); simp (disch := first|exact zz|fail) only [go_sem, hap]; with_reducible rfl)))
          refine aany_1 (i := 16) rfl rfl ?_
          (refine yg ?_)
          refine aany_1 (i := 17) rfl rfl ?_
          (refine yg ?_)
          refine aany_e rfl ?_
          first | exact ⟨trivial, _, _, by simp [forget], hF⟩ | exact ⟨rfl, _, _, by simp [forget], hF⟩
    clear hF imK
    rintro e K0 ⟨vc, vd, rfl, hF⟩
    have e1' : (i : Int) + 1 = ((i + 1 : Nat) : Int) := by omega
    rw [← tA, ← tB, ← tC, ← tU] at hF
    (repeat (first | refine yw ?_ | ((first | apply yd | apply ye); simp (disch := first|exact zz|fail) only [go_sem, e1']; with_reducible rfl)))
    exact ⟨by omega, va, vb, vc, vd, by simp [forget], hF⟩
  obtain rfl : i = w.length := by omega
  have fA := hF.own 0 (by simp)
  have fB := hF.own 1 (by simp)
  have fC := hF.own 2 (by simp)
  have fD := hF.own 3 (by simp)
  have fA : OwnI G0 K0 (LA.take w.length) va := fA
  have fB : OwnI G0 K0 (LB.take w.length) vb := fB
  have fC : OwnI G0 K0 (LC.take w.length) vc := fC
  have fD : OwnI G0 K0 (U.take w.length) vd := fD
  have xK := hF.ext
  clear hF
  rw [List.take_of_length_le (by omega)] at fA fB fC fD
  have jA := fA.ints
  have jB := fB.ints
  have jC := fC.ints
  have jD := fD.ints
  clear fA fB fC fD
  have hwK := hw0.ext xK
  have imK := im.ext xK
  (refine yg ?_)
  (refine aops_call_to (refPositionsErr_c jC (by omega)) ?_)
  by_cases pC : positionsErrL LC = 0
  rotate_left 1
  · (repeat (first | refine yw ?_ | ((first | apply yd | apply ye); simp (disch := first|exact zz|fail) only [go_sem, dec_t (show positionsErrL LC ≠ 0 from pC)]; with_reducible rfl)))
    refine cond_t rfl ?_
    (refine yg ?_)
    exact fin_1 rfl
  rw [pC]
  (refine yg ?_)
  (refine aops_call_to (refPositionsErr_c jD (by omega)) ?_)
  by_cases pD : positionsErrL U = 0
  rotate_left 1
  · (repeat (first | refine yw ?_ | ((first | apply yd | apply ye); simp (disch := first|exact zz|fail) only [go_sem, dec_t (show positionsErrL U ≠ 0 from pD)]; with_reducible rfl)))
    refine cond_t rfl ?_
    (refine yg ?_)
    exact fin_1 rfl
  rw [pD]
  (refine yg ?_)
  refine cond_f rfl ?_
  have mem_of : ∀ {l : List Int}, l.length = w.length → (∀ i : Nat, i < w.length → -1000000 ≤ l.getD i 0 ∧ l.getD i 0 ≤ 1000000) → positionsErrL l = 0 := fun {l} hl h => posErr_of (fun n hn => by
    obtain ⟨j, hj, e⟩ := List.getElem_of_mem hn
    have := h j (by omega)
    rwa [List.getD_eq_getElem?_getD, List.getElem?_eq_getElem hj, e] at this) (by omega)
  have pA : positionsErrL LA = 0 := mem_of lA fun i hi => by rw [ag i hi]; exact (hbd i hi).1
  have pB : positionsErrL LB = 0 := mem_of lB fun i hi => by rw [bg i hi]; exact (hbd i hi).2
  have ne : ∀ {l : List Int}, l.length = w.length → l ≠ [] := fun {l} h e => by rw [e] at h; simp at h; omega
  have vel : ∀ {l : List Int}, l.length = w.length → positionsErrL l = 0 → velL l = (velGo l, 0) := fun {l} hl hp => by
    unfold velL; rw [if_pos hp, if_neg (ne hl)]
  have vlen : ∀ {l : List Int}, l.length = w.length → (velGo l).length = w.length - 1 := fun {l} hl => by rw [velGo_len, hl]
  (refine yg ?_)
  refine aops_call ((velocities_c jA (by omega)).mono fun v5 H5 h => ?_)
  obtain ⟨qA, rfl, kA, x5⟩ := h.use
  (refine yg ?_)
  refine aops_call ((velocities_c (jB.ext x5) (by omega)).mono fun v6 H6 h => ?_)
  obtain ⟨qB, rfl, kB, x6⟩ := h.use
  (refine yg ?_)
  refine aops_call ((velocities_c (jC.ext (x5.trans x6)) (by omega)).mono fun v7 H7 h => ?_)
  obtain ⟨qC, rfl, kC, x7⟩ := h.use
  (refine yg ?_)
  refine aops_call ((velocities_c (jD.ext (x5.trans (x6.trans x7))) (by omega)).mono fun v8 H8 h => ?_)
  obtain ⟨qD, rfl, kD, x8⟩ := h.use
  rw [vel lA pA] at kA
  rw [vel lB pB] at kB
  rw [vel lC pC] at kC
  rw [vel hul pD] at kD
  have x58 := x5.trans (x6.trans (x7.trans x8))
  replace kA : Ints H8 (velGo LA) qA := kA.ext (x6.trans (x7.trans x8))
  replace kB : Ints H8 (velGo LB) qB := kB.ext (x7.trans x8)
  replace kC : Ints H8 (velGo LC) qC := kC.ext x8
  replace kD : Ints H8 (velGo U) qD := kD
  have wA := vlen lA
  have wB := vlen lB
  have wC := vlen lC
  have wD := vlen hul
  have hwL := hwK.ext x58
  have imL := imK.ext x58
  have hcnt : (w.length : Int) - 1 = ((w.length - 1 : Nat) : Int) := by omega
  (repeat (first | refine yw ?_ | ((first | apply yd | apply ye); simp (disch := first|exact zz|fail) only [go_sem, hwL.len, hwL.idx, hwL.load, kA.len, kA.idx, kA.load, kB.len, kB.idx, kB.load, kC.len, kC.idx, kC.load, kD.len, kD.idx, kD.load, vel lA pA, vel lB pB, vel lC pC, vel hul pD, wA, wB, wC, wD, hcnt]; with_reducible rfl)))
  refine cond_f rfl ?_
  (refine yg ?_)
  refine awp_loop_n [true, false, false, true, false, false, false, false, false, false, false, false, true, false, true, false, true, false, true, false, true, true, false, false, false, false, false, false, false, false, false, false, false, false, false, false, false, false, false, false, false, false, false, false, false, false, false, false, false, false, false, false, false, false, false, false, false, false, false, false, false, false, false, false, false, false, false, false, false, false, false, false, false, false, false, false, false, false, false, false, false, false, false, false, false, false, false, false, false, false, false, false, false, false, false, false, false, false, false, false, false, false, false, false, false, false, false, false, false, false, false, false, false, false, false, false, false, false, false, false, false, false, false, false, false, false, false, false, false, false, false, false, false, false, false, false, false, false, false, false, false, false, false, false, false, false, false, false, false, false, false, false, false, false, false, false, false, false, false, false, false, false, false, false, false, false, false, false, false, false, false, false, false, false, false, false, false, false, false, false, false, false, false, false, false, false, false, false, false, false, false, false, false, false, false, false, false, false, false, false, false, false, false, false, false, false, false, false, false, false, false, false, false, false, false, false, false, false, false, false, false, false, false, false, false, false, false, false, false, false, false, false, false, false, false, false, false, false, false, false, false, false, false, false, false, false, false, false, false, false, false, false, false, false, false, false, false, false, false, false, false, false, false, false, false, false, false, false, false, false, false, false, false, false, false, false, false, false, false, false, false, false, false, false, false, false, false, false, false, false, false, false, false, false, false, false, false, false, false, false, false, false, false, false, false, false, false, false, false, false, false, false, false, false, false] (w.length - 1) (fun i e J => H8 = J ∧ e = [v, junk, junk, sm, junk, junk, junk, junk, junk, junk, junk, junk, qA, junk, qB, junk, qC, junk, qD, junk, .int .i64 ((w.length - 1 : Nat) : Int), .int .i64 (i : Nat), junk, junk, junk, junk, junk, junk, junk, junk, junk, junk, junk, junk, junk, junk, junk, junk, junk, junk, junk, junk, junk, junk, junk, junk, junk, junk, junk, junk, junk, junk, junk, junk, junk, junk, junk, junk, junk, junk, junk, junk, junk, junk, junk, junk, junk, junk, junk, junk, junk, junk, junk, junk, junk, junk, junk, junk, junk, junk, junk, junk, junk, junk, junk, junk, junk, junk, junk, junk, junk, junk, junk, junk, junk, junk, junk, junk, junk, junk, junk, junk, junk, junk, junk, junk, junk, junk, junk, junk, junk, junk, junk, junk, junk, junk, junk, junk, junk, junk, junk, junk, junk, junk, junk, junk, junk, junk, junk, junk, junk, junk, junk, junk, junk, junk, junk, junk, junk, junk, junk, junk, junk, junk, junk, junk, junk, junk, junk, junk, junk, junk, junk, junk, junk, junk, junk, junk, junk, junk, junk, junk, junk, junk, junk, junk, junk, junk, junk, junk, junk, junk, junk, junk, junk, junk, junk, junk, junk, junk, junk, junk, junk, junk, junk, junk, junk, junk, junk, junk, junk, junk, junk, junk, junk, junk, junk, junk, junk, junk, junk, junk, junk, junk, junk, junk, junk, junk, junk, junk, junk, junk, junk, junk, junk, junk, junk, junk, junk, junk, junk, junk, junk, junk, junk, junk, junk, junk, junk, junk, junk, junk, junk, junk, junk, junk, junk, junk, junk, junk, junk, junk, junk, junk, junk, junk, junk, junk, junk, junk, junk, junk, junk, junk, junk, junk, junk, junk, junk, junk, junk, junk, junk, junk, junk, junk, junk, junk, junk, junk, junk, junk, junk, junk, junk, junk, junk, junk, junk, junk, junk, junk, junk, junk, junk, junk, junk, junk, junk, junk, junk, junk, junk, junk, junk, junk, junk, junk, junk, junk, junk, junk, junk, junk, junk, junk, junk, junk, junk, junk, junk, junk, junk, junk, junk]) ?_ ?_
  · exact ⟨rfl, by simp [forget]⟩
  rintro i e J hi ⟨rfl, rfl⟩
  (refine yg ?_)
  refine cond_p rfl (fun hlt => ?_) (fun hge => ?_)
  · have hi' : i + 1 < w.length := by omega
    have g1 : (velGo LA).getD i 0 = (w.getD (i + 1) (0, 0)).1 - (w.getD i (0, 0)).1 := by rw [velGo_get _ _ (by omega), ag _ hi', ag _ (by omega)]
    have g2 : (velGo LB).getD i 0 = (w.getD (i + 1) (0, 0)).2 - (w.getD i (0, 0)).2 := by rw [velGo_get _ _ (by omega), bg _ hi', bg _ (by omega)]
    have g3 : (velGo LC).getD i 0 = (w.getD (i + 1) (0, 0)).1 + (w.getD (i + 1) (0, 0)).2 - ((w.getD i (0, 0)).1 + (w.getD i (0, 0)).2) := by rw [velGo_get _ _ (by omega), cg _ hi', cg _ (by omega)]
    have g4 : (velGo U).getD i 0 = (w.getD (i + 1) (0, 0)).2 - (w.getD (i + 1) (0, 0)).1 - ((w.getD i (0, 0)).2 - (w.getD i (0, 0)).1) := by rw [velGo_get _ _ (by omega), ug _ hi', ug _ (by omega)]
    obtain ⟨b1, b2⟩ := hbd i (by omega)
    obtain ⟨b3, b4⟩ := hbd (i + 1) hi'
    generalize (w.getD i (0, 0)).1 = a at *
    generalize (w.getD i (0, 0)).2 = b at *
    generalize (w.getD (i + 1) (0, 0)).1 = c at *
    generalize (w.getD (i + 1) (0, 0)).2 = d at *
    have hA1 : i < (velGo LA).length := by omega
    have hB1 : i < (velGo LB).length := by omega
    have hC1 : i < (velGo LC).length := by omega
    have hD1 : i < (velGo U).length := by omega
    (repeat (first | refine yw ?_ | ((first | apply yd | apply ye); simp (disch := first|exact zz|fail) only [go_sem, kA.len, kA.idx, kA.load, kB.len, kB.idx, kB.load, kC.len, kC.idx, kC.load, kD.len, kD.idx, kD.load, g1, g2, g3, g4, dec_f (show ¬ (c + d - (a + b) ≠ d - b + (c - a)) by omega), dec_f (show ¬ (d - c - (b - a) ≠ d - b - (c - a)) by omega)]; with_reducible rfl)))
    refine cond_f rfl ?_
    have e1' : (i : Int) + 1 = ((i + 1 : Nat) : Int) := by omega
    (repeat (first | refine yw ?_ | ((first | apply yd | apply ye); simp (disch := first|exact zz|fail) only [go_sem, e1']; with_reducible rfl)))
    exact ⟨by omega, rfl, by simp [forget]⟩
  have hi0 : 0 < w.length := by omega
  have hM0 : 0 < M.length := by omega
  have m0 := mg 0 hi0
  have s1 : positionsL (LC.getD 0 0) (velGo LC) = (LC, 0) := positionsL_back pC (ne lC)
  have s2 : positionsL (U.getD 0 0) (velGo U) = (U, 0) := positionsL_back pD (ne hul)
  rw [cg 0 hi0] at s1
  rw [ug 0 hi0] at s2
  obtain ⟨l1, l2, l3, l4, l5⟩ := imL.load (Ext.refl _) hM0
  have i0 : idxR 2 sm (.int .i64 0) H8 = some (addrOf sm (0 * 2), H8) := imL.idx (i := 0) (by omega) (by omega)
  rw [m0] at l4 l5
  (repeat (first | refine yw ?_ | ((first | apply yd | apply ye); simp (disch := first|exact zz|fail) only [go_sem, i0, l2, l4]; with_reducible rfl)))
  refine aops_call ((positions_c kC (by omega)).mono fun v9 H9 h => ?_)
  obtain ⟨qx, rfl, kx, x9⟩ := h.use
  rw [s1] at kx ⊢
  have i0' : idxR 2 sm (.int .i64 0) H9 = some (addrOf sm (0 * 2), H9) := (imL.ext x9).idx (i := 0) (by omega) (by omega)
  obtain ⟨n1, n2, n3, n4, n5⟩ := (imL.ext x9).load (Ext.refl _) hM0
  rw [m0] at n4 n5
  (repeat (first | refine yw ?_ | ((first | apply yd | apply ye); simp (disch := first|exact zz|fail) only [go_sem, i0', n3, n5]; with_reducible rfl)))
  refine aops_call ((positions_c (kD.ext x9) (by omega)).mono fun v10 H10 h => ?_)
  obtain ⟨qy, rfl, ky, x10⟩ := h.use
  rw [s2] at ky ⊢
  replace kx := kx.ext x10
  have x80 := x9.trans x10
  have hwL := hwL.ext x80
  (repeat (first | refine yw ?_ | ((first | apply yd | apply ye); simp (disch := first|exact zz|fail) only [go_sem, kx.len, kx.idx, kx.load, ky.len, ky.idx, ky.load, hwL.len, hwL.idx, hwL.load, lC, hul]; with_reducible rfl)))
  refine cond_f rfl ?_
  (refine yg ?_)
  refine awp_loop_n [true, false, false, false, false, false, false, false, false, false, false, false, false, false, false, false, false, false, false, false, false, false, true, false, true, false, true, true, false, false, false, false, false, false, false, false, false, false, false, false, false, false, false, false, false, false, false, false, false, false, false, false, false, false, false, false, false, false, false, false, false, false, false, false, false, false, false, false, false, false, false, false, false, false, false, false, false, false, false, false, false, false, false, false, false, false, false, false, false, false, false, false, false, false, false, false, false, false, false, false, false, false, false, false, false, false, false, false, false, false, false, false, false, false, false, false, false, false, false, false, false, false, false, false, false, false, false, false, false, false, false, false, false, false, false, false, false, false, false, false, false, false, false, false, false, false, false, false, false, false, false, false, false, false, false, false, false, false, false, false, false, false, false, false, false, false, false, false, false, false, false, false, false, false, false, false, false, false, false, false, false, false, false, false, false, false, false, false, false, false, false, false, false, false, false, false, false, false, false, false, false, false, false, false, false, false, false, false, false, false, false, false, false, false, false, false, false, false, false, false, false, false, false, false, false, false, false, false, false, false, false, false, false, false, false, false, false, false, false, false, false, false, false, false, false, false, false, false, false, false, false, false, false, false, false, false, false, false, false, false, false, false, false, false, false, false, false, false, false, false, false, false, false, false, false, false, false, false, false, false, false, false, false, false, false, false, false, false, false, false, false, false, false, false, false, false, false, false, false, false, false, false, false, false, false, false, false, false, false, false, false, false, false, false, false] w.length (fun i e J => ∃ va, e = [v, junk, junk, junk, junk, junk, junk, junk, junk, junk, junk, junk, junk, junk, junk, junk, junk, junk, junk, junk, junk, junk, qx, junk, qy, junk, va, .int .i64 (i : Nat), junk, junk, junk, junk, junk, junk, junk, junk, junk, junk, junk, junk, junk, junk, junk, junk, junk, junk, junk, junk, junk, junk, junk, junk, junk, junk, junk, junk, junk, junk, junk, junk, junk, junk, junk, junk, junk, junk, junk, junk, junk, junk, junk, junk, junk, junk, junk, junk, junk, junk, junk, junk, junk, junk, junk, junk, junk, junk, junk, junk, junk, junk, junk, junk, junk, junk, junk, junk, junk, junk, junk, junk, junk, junk, junk, junk, junk, junk, junk, junk, junk, junk, junk, junk, junk, junk, junk, junk, junk, junk, junk, junk, junk, junk, junk, junk, junk, junk, junk, junk, junk, junk, junk, junk, junk, junk, junk, junk, junk, junk, junk, junk, junk, junk, junk, junk, junk, junk, junk, junk, junk, junk, junk, junk, junk, junk, junk, junk, junk, junk, junk, junk, junk, junk, junk, junk, junk, junk, junk, junk, junk, junk, junk, junk, junk, junk, junk, junk, junk, junk, junk, junk, junk, junk, junk, junk, junk, junk, junk, junk, junk, junk, junk, junk, junk, junk, junk, junk, junk, junk, junk, junk, junk, junk, junk, junk, junk, junk, junk, junk, junk, junk, junk, junk, junk, junk, junk, junk, junk, junk, junk, junk, junk, junk, junk, junk, junk, junk, junk, junk, junk, junk, junk, junk, junk, junk, junk, junk, junk, junk, junk, junk, junk, junk, junk, junk, junk, junk, junk, junk, junk, junk, junk, junk, junk, junk, junk, junk, junk, junk, junk, junk, junk, junk, junk, junk, junk, junk, junk, junk, junk, junk, junk, junk, junk, junk, junk, junk, junk, junk, junk, junk, junk, junk, junk, junk, junk, junk, junk, junk, junk, junk, junk, junk, junk, junk, junk, junk, junk, junk, junk, junk, junk, junk, junk, junk, junk, junk, junk, junk, junk, junk, junk, junk, junk, junk, junk] ∧ Ext H10 J ∧ OwnP H10 J (M.take i) va) ?_ ?_
  · exact ⟨.slice none 0 0, by simp [forget], Ext.refl _, by simp only [List.take_zero]; exact OwnP.nil _ _⟩
  rintro i e J hi ⟨va, rfl, xJ, ho⟩
  have kx' := kx.ext xJ
  have ky' := ky.ext xJ
  (repeat (first | refine yw ?_ | ((first | apply yd | apply ye); simp (disch := first|exact zz|fail) only [go_sem, kx'.len, kx'.idx, kx'.load, lC]; with_reducible rfl)))
  refine cond_p rfl (fun hlt => ?_) (fun hge => ?_)
  · have hi' : i < w.length := by omega
    have hx1 : i < LC.length := by omega
    have hy1 : i < U.length := by omega
    have e1' : (i : Int) + 1 = ((i + 1 : Nat) : Int) := by omega
    have hml : (M.take i).length = i := by simp; omega
    have tM := takeP_snoc (l := M) (i := i) (by omega)
    rw [mg i hi'] at tM
    (repeat (first | refine yw ?_ | ((first | apply yd | apply ye); simp (disch := first|exact zz|fail) only [go_sem, kx'.len, kx'.idx, kx'.load, ky'.len, ky'.idx, ky'.load, cg i hi', ug i hi', ho.push (show (M.take i).length < 1000000000 by omega), e1']; with_reducible rfl)))
    refine ⟨by omega, pushV J (M.take i).length, by simp [forget], ho.ext xJ _, ?_⟩
    rw [tM]
    exact ho.pushed xJ _
  obtain rfl : i = w.length := by omega
  rw [List.take_of_length_le (by omega)] at ho
  have iP : InP M := fun i => by
    by_cases hi : i < w.length
    · have := hbd i hi
      rw [mg i hi]
      unfold InI64
      simp only
      omega
    · rw [List.getD_eq_getElem?_getD, List.getElem?_eq_none (by omega)]
      simp [InI64]
  have hback : mappedL wallF M = (w, 0) := by
    have := mappedL_back hd
    rw [e3, mats_of e4, ← hM] at this
    exact this
  (refine yg ?_)
  refine aops_call ((walls_c ho.pairs iP (by omega)).mono fun v11 H11 h => ?_)
  obtain ⟨qz, rfl, kz, x11⟩ := h.use
  rw [hback] at kz ⊢
  have hwZ := hwL.ext (xJ.trans x11)
  (repeat (first | refine yw ?_ | ((first | apply yd | apply ye); simp (disch := first|exact zz|fail) only [go_sem, kz.len, kz.idx, kz.load, hwZ.len, hwZ.idx, hwZ.load]; with_reducible rfl)))
  refine cond_f rfl ?_
  (refine yg ?_)
  refine awp_loop_n [true, false, false, false, false, false, false, false, false, false, false, false, false, false, false, false, false, false, false, false, false, false, false, false, false, false, false, false, true, false, true, false, false, false, false, false, false, false, false, false, false, false, false, false, false, false, false, false, false, false, false, false, false, false, false, false, false, false, false, false, false, false, false, false, false, false, false, false, false, false, false, false, false, false, false, false, false, false, false, false, false, false, false, false, false, false, false, false, false, false, false, false, false, false, false, false, false, false, false, false, false, false, false, false, false, false, false, false, false, false, false, false, false, false, false, false, false, false, false, false, false, false, false, false, false, false, false, false, false, false, false, false, false, false, false, false, false, false, false, false, false, false, false, false, false, false, false, false, false, false, false, false, false, false, false, false, false, false, false, false, false, false, false, false, false, false, false, false, false, false, false, false, false, false, false, false, false, false, false, false, false, false, false, false, false, false, false, false, false, false, false, false, false, false, false, false, false, false, false, false, false, false, false, false, false, false, false, false, false, false, false, false, false, false, false, false, false, false, false, false, false, false, false, false, false, false, false, false, false, false, false, false, false, false, false, false, false, false, false, false, false, false, false, false, false, false, false, false, false, false, false, false, false, false, false, false, false, false, false, false, false, false, false, false, false, false, false, false, false, false, false, false, false, false, false, false, false, false, false, false, false, false, false, false, false, false, false, false, false, false, false, false, false, false, false, false, false, false, false, false, false, false, false, false, false, false, false, false, false, false, false, false, false, false, false] w.length (fun i e J => H11 = J ∧ e = [v, junk, junk, junk, junk, junk, junk, junk, junk, junk, junk, junk, junk, junk, junk, junk, junk, junk, junk, junk, junk, junk, junk, junk, junk, junk, junk, junk, qz, junk, .int .i64 (i : Nat), junk, junk, junk, junk, junk, junk, junk, junk, junk, junk, junk, junk, junk, junk, junk, junk, junk, junk, junk, junk, junk, junk, junk, junk, junk, junk, junk, junk, junk, junk, junk, junk, junk, junk, junk, junk, junk, junk, junk, junk, junk, junk, junk, junk, junk, junk, junk, junk, junk, junk, junk, junk, junk, junk, junk, junk, junk, junk, junk, junk, junk, junk, junk, junk, junk, junk, junk, junk, junk, junk, junk, junk, junk, junk, junk, junk, junk, junk, junk, junk, junk, junk, junk, junk, junk, junk, junk, junk, junk, junk, junk, junk, junk, junk, junk, junk, junk, junk, junk, junk, junk, junk, junk, junk, junk, junk, junk, junk, junk, junk, junk, junk, junk, junk, junk, junk, junk, junk, junk, junk, junk, junk, junk, junk, junk, junk, junk, junk, junk, junk, junk, junk, junk, junk, junk, junk, junk, junk, junk, junk, junk, junk, junk, junk, junk, junk, junk, junk, junk, junk, junk, junk, junk, junk, junk, junk, junk, junk, junk, junk, junk, junk, junk, junk, junk, junk, junk, junk, junk, junk, junk, junk, junk, junk, junk, junk, junk, junk, junk, junk, junk, junk, junk, junk, junk, junk, junk, junk, junk, junk, junk, junk, junk, junk, junk, junk, junk, junk, junk, junk, junk, junk, junk, junk, junk, junk, junk, junk, junk, junk, junk, junk, junk, junk, junk, junk, junk, junk, junk, junk, junk, junk, junk, junk, junk, junk, junk, junk, junk, junk, junk, junk, junk, junk, junk, junk, junk, junk, junk, junk, junk, junk, junk, junk, junk, junk, junk, junk, junk, junk, junk, junk, junk, junk, junk, junk, junk, junk, junk, junk, junk, junk, junk, junk, junk, junk, junk, junk, junk, junk, junk, junk, junk, junk, junk, junk, junk, junk, junk, junk, junk, junk, junk, junk]) ?_ ?_
  · exact ⟨rfl, by simp [forget]⟩
  rintro i e J hi ⟨rfl, rfl⟩
  (repeat (first | refine yw ?_ | ((first | apply yd | apply ye); simp (disch := first|exact zz|fail) only [go_sem, kz.len, kz.idx, kz.load]; with_reducible rfl)))
  refine cond_p rfl (fun hlt => ?_) (fun hge => ?_)
  · have hi' : i < w.length := by omega
    have e1' : (i : Int) + 1 = ((i + 1 : Nat) : Int) := by omega
    (repeat (first | refine yw ?_ | ((first | apply yd | apply ye); simp (disch := first|exact zz|fail) only [go_sem, kz.len, kz.idx, kz.load, hwZ.len, hwZ.idx, hwZ.load, bne_self_eq_false]; with_reducible rfl)))
    refine cond_f rfl ?_
    (repeat (first | refine yw ?_ | ((first | apply yd | apply ye); simp (disch := first|exact zz|fail) only [go_sem, e1']; with_reducible rfl)))
    exact ⟨by omega, rfl, by simp [forget]⟩
  (refine yg ?_)
  exact fin_1 rfl
end Go.Lq

namespace Go.Lq
open Go Go.ChangeShapes Go.WideShapes Go.ChangeAt Go.RowKit
open Go.Proofs

set_option maxRecDepth 100000 in
theorem lifted3 (os : Os) (started : os.Started) (X : Type) (enc : TypeId × Value → X) :
    ReturnsInHanded {} Try.checked os 3 .any (Ytpgemmklfaedfaa.Rows.topGrooveStereoSpec.pre6 enc Try.prog Try.f3 [] false) (Ytpgemmklfaedfaa.Rows.topGrooveStereoSpec.post enc Try.prog Try.f3 false true false false) := by
  refine returnsInHanded_of_plain_shaped (C := Try.checked) own_knob started (by kernel_rfl) Try.func3
    (ChangeSpec.witness6 (enc := enc) (C := Try.checked) false ⟨#[], #[.slice none 0 0], []⟩ 12 (by kernel_rfl) (by kernel_rfl) (by kernel_rfl) (by kernel_rfl)) ?_
  intro W base args ds gs before hsh hval hW
  have hWw := hW
  obtain ⟨p, q, hA, _⟩ := hW
  refine (calls_of_law (d := 20) (of_shaped hsh) globs glob_at hA (fun j t v h1 h2 => hval j t v (by simpa using h1) (by simpa using h2)) (by kernel_rfl) fun H avs hx h => ?_).mono fun e W' ⟨he, hB⟩ => ?_
  · exact law3 (by rw [show Try.f3.params = #[22] from Try.params3] at h; exact h)
  · subst he
    exact ⟨_, rfl, law_post (bt := 4) laid_out rfl Try.underlying4 (by kernel_rfl) (by kernel_rfl) hWw (fun ds hd => by
      rw [show Try.f3.params = #[22] from Try.params3] at hd
      match ds, hd with
      | [a], _ => rfl) hB⟩
theorem unf3 : Try.prog.unfollowed 3 = true := by kernel_rfl
theorem rec3 : Try.prog.recurses 3 = true := by kernel_rfl
theorem named3 : Try.prog.varsNamed 3 = Ytpgemmklfaedfaa.Rows.topGrooveStereoRow.named := by kernel_rfl
theorem facts3 : joinedFacts Try.prog 3 Try.f3 Ytpgemmklfaedfaa.Rows.topGrooveStereoSpec Ytpgemmklfaedfaa.Rows.topGrooveStereoRow = true := by
  unfold joinedFacts
  rw [may_enter, stops_heard, maps_rowed, laid_out, lifts_final, make_is, unf3, rec3, named3]
  kernel_rfl
theorem holds3 : Ytpgemmklfaedfaa.Rows.TopGrooveStereoSaid :=
  OpenClaim.holds_of_wide 3 Try.f3 rfl rfl rfl rfl rfl rfl rfl ⟨rfl, rfl, rfl, rfl, rfl⟩ rfl rfl rfl rfl rfl (by kernel_rfl) Try.func3 facts3
    (of_decide_eq_true (by kernel_rfl)) (by unfold Func.isWrapper; first | (rw [if_pos (by decide +kernel)]; kernel_rfl) | (rw [if_neg (by decide +kernel)]; exact ⟨rfl, rfl⟩))
    (fun os started H enc _ => lifted3 os started H enc)
end Go.Lq
namespace Go.Proofs.Ytpgemmklfaedfaa
open Go Go.Lq
theorem topGrooveStereo_proved : Rows.TopGrooveStereoSaid := holds3
end Go.Proofs.Ytpgemmklfaedfaa
