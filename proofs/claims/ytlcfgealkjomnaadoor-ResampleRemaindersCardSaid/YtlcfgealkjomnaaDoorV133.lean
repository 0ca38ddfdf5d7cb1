/- ResampleRemainders is proved: for every input that can be read the law returns true, and each argument reads afterwards as it read before; the listed package variables hold what the program's text lays (the card ties them). -/
import Derived.Test.YtlcfgealkjomnaaDoorV132
set_option linter.unusedSimpArgs false
set_option maxRecDepth 100000
namespace Go.Lq
open Go
open Go.Proofs

theorem repOrdered {H : AHeap} {v : Value} (h : RepA Tryd.prog H 106 v) : ∃ s c d, v = .agg ⟨[s, .int .i64 d]⟩ ∧ Ints H c s ∧ c.length ≤ maxLen ∧ (∀ n ∈ c, InI64 n) ∧ InI64 d := by
  obtain ⟨s, l, rfl, hl, hs, hi⟩ := h.headed (d := 5) (n := 1) Tryd.underlying106 (by kernel_rfl) rfl rfl (by kernel_rfl) (by kernel_rfl) (by kernel_rfl)
  match l, hl with
  | [d], _ =>
    obtain ⟨c, h1, h2, h3⟩ := (RepA.of_slice Tryd.underlying27 hs).ints Tryd.underlying27 Tryd.underlying3 (by kernel_rfl)
    exact ⟨s, c, d, rfl, h1, h2, h3, hi d (by simp)⟩
theorem diffErr_s {x : List Int} {k : Int} (h : signalErrL x ≠ 0) : diffErrL x k = signalErrL x := by unfold diffErrL firstErr; simp [h]
theorem diffErr_k {x : List Int} {k : Int} (h : signalErrL x = 0) (hk : ¬ (1 ≤ k ∧ k ≤ 4)) : diffErrL x k = 2 := by unfold diffErrL; simp [firstErr, h, hk]
theorem diffErr_z {x : List Int} {k : Int} (h : signalErrL x = 0) (hk : 1 ≤ k ∧ k ≤ 4) : diffErrL x k = 0 := by unfold diffErrL; simp [firstErr, h, hk]

set_option maxRecDepth 100000 in
set_option maxHeartbeats 4000000 in
theorem law13 {H : AHeap} {avs : List Value} (hx : Ext H0 H) (h : RepAll Tryd.prog H [3, 3, 106] avs) : ACall Tryd.prog 13 avs H fun v _ => v = .bool true := by
  obtain ⟨u, w, o, rfl, h1, h2, h3⟩ := h.three
  obtain ⟨deg, rfl, _⟩ := h1.int Tryd.underlying3
  obtain ⟨f, rfl, _⟩ := h2.int Tryd.underlying3
  obtain ⟨sv, x, k, rfl, hX, hxm, _, _⟩ := repOrdered h3
  (refine a13 ?_; simp only [n13, List.replicate, List.length_cons, List.length_nil, List.cons_append, List.nil_append])
  have g0 : (H ++ [AObj.cells true 0 [sv, .int .i64 k]])[H.length]? = some (.cells true 0 [sv, .int .i64 k]) := at_new
  have xG : Ext H (H ++ [AObj.cells true 0 [sv, .int .i64 k]]) := (Ext.refl H).app _
  ((repeat (first | refine q1 ?_ | refine q2 ?_ | refine q3 ?_ | refine q4 ?_ | refine q5 ?_ | refine q6 ?_ | refine q7 ?_ | refine q8 ?_ | refine q9 ?_ | refine qa ?_ | refine qb ?_ | refine qc ?_ | refine qd ?_ | refine qe (by decide) ?_ | refine qf ?_ | refine qg ?_ | ((first | apply aops_all | apply adraw_all); (simp (disch := first | exact List.all_nil | omega | (simp only [go_sem]; done) | (simp only [ln, List.length_map]; omega) | (repeat' first | assumption | exact Ext.refl _ | refine Ext.app ?_ _)) only [go_sem, hX.box2]; rfl)))); (try ((first | apply aops_until | apply adraw_until); (simp (disch := first | exact List.all_nil | omega | (simp only [go_sem]; done) | (simp only [ln, List.length_map]; omega) | (repeat' first | assumption | exact Ext.refl _ | refine Ext.app ?_ _)) only [go_sem, hX.box2]; rfl))))
  generalize (H ++ [AObj.cells true 0 [sv, .int .i64 k]] : AHeap) = G at g0 xG
  have hxg := hX.ext xG
  have hx0 := hx.trans xG
  refine aops_call_to (awake_c hx0) ?_
  ((repeat (first | refine q1 ?_ | refine q2 ?_ | refine q3 ?_ | refine q4 ?_ | refine q5 ?_ | refine q6 ?_ | refine q7 ?_ | refine q8 ?_ | refine q9 ?_ | refine qa ?_ | refine qb ?_ | refine qc ?_ | refine qd ?_ | refine qe (by decide) ?_ | refine qf ?_ | refine qg ?_ | ((first | apply aops_all | apply adraw_all); (simp (disch := first | exact List.all_nil | omega | (simp only [go_sem]; done) | (simp only [ln, List.length_map]; omega) | (repeat' first | assumption | exact Ext.refl _ | refine Ext.app ?_ _)) only [go_sem]; rfl)))); (try ((first | apply aops_until | apply adraw_until); (simp (disch := first | exact List.all_nil | omega | (simp only [go_sem]; done) | (simp only [ln, List.length_map]; omega) | (repeat' first | assumption | exact Ext.refl _ | refine Ext.app ?_ _)) only [go_sem]; rfl))))
  refine cond_f rfl ?_
  ((repeat (first | refine q1 ?_ | refine q2 ?_ | refine q3 ?_ | refine q4 ?_ | refine q5 ?_ | refine q6 ?_ | refine q7 ?_ | refine q8 ?_ | refine q9 ?_ | refine qa ?_ | refine qb ?_ | refine qc ?_ | refine qd ?_ | refine qe (by decide) ?_ | refine qf ?_ | refine qg ?_ | ((first | apply aops_all | apply adraw_all); (simp (disch := first | exact List.all_nil | omega | (simp only [go_sem]; done) | (simp only [ln, List.length_map]; omega) | (repeat' first | assumption | exact Ext.refl _ | refine Ext.app ?_ _)) only [go_sem, load_at g0]; rfl)))); (try ((first | apply aops_until | apply adraw_until); (simp (disch := first | exact List.all_nil | omega | (simp only [go_sem]; done) | (simp only [ln, List.length_map]; omega) | (repeat' first | assumption | exact Ext.refl _ | refine Ext.app ?_ _)) only [go_sem, load_at g0]; rfl))))
  refine aops_call_to (short_c hxg) ?_
  by_cases hxl : x.length ≤ 64 ∨ (400 < x.length ∧ x.length ≤ 402)
  rotate_left 1
  · ((repeat (first | refine q1 ?_ | refine q2 ?_ | refine q3 ?_ | refine q4 ?_ | refine q5 ?_ | refine q6 ?_ | refine q7 ?_ | refine q8 ?_ | refine q9 ?_ | refine qa ?_ | refine qb ?_ | refine qc ?_ | refine qd ?_ | refine qe (by decide) ?_ | refine qf ?_ | refine qg ?_ | ((first | apply aops_all | apply adraw_all); (simp (disch := first | exact List.all_nil | omega | (simp only [go_sem]; done) | (simp only [ln, List.length_map]; omega) | (repeat' first | assumption | exact Ext.refl _ | refine Ext.app ?_ _)) only [go_sem, dec_f hxl]; rfl)))); (try ((first | apply aops_until | apply adraw_until); (simp (disch := first | exact List.all_nil | omega | (simp only [go_sem]; done) | (simp only [ln, List.length_map]; omega) | (repeat' first | assumption | exact Ext.refl _ | refine Ext.app ?_ _)) only [go_sem, dec_f hxl]; rfl))))
    refine cond_t rfl ?_
    ((repeat (first | refine q1 ?_ | refine q2 ?_ | refine q3 ?_ | refine q4 ?_ | refine q5 ?_ | refine q6 ?_ | refine q7 ?_ | refine q8 ?_ | refine q9 ?_ | refine qa ?_ | refine qb ?_ | refine qc ?_ | refine qd ?_ | refine qe (by decide) ?_ | refine qf ?_ | refine qg ?_ | ((first | apply aops_all | apply adraw_all); (simp (disch := first | exact List.all_nil | omega | (simp only [go_sem]; done) | (simp only [ln, List.length_map]; omega) | (repeat' first | assumption | exact Ext.refl _ | refine Ext.app ?_ _)) only [go_sem]; rfl)))); (try ((first | apply aops_until | apply adraw_until); (simp (disch := first | exact List.all_nil | omega | (simp only [go_sem]; done) | (simp only [ln, List.length_map]; omega) | (repeat' first | assumption | exact Ext.refl _ | refine Ext.app ?_ _)) only [go_sem]; rfl))))
    exact fin_1 rfl
  have hxb : x.length ≤ 1000000000 := by omega
  ((repeat (first | refine q1 ?_ | refine q2 ?_ | refine q3 ?_ | refine q4 ?_ | refine q5 ?_ | refine q6 ?_ | refine q7 ?_ | refine q8 ?_ | refine q9 ?_ | refine qa ?_ | refine qb ?_ | refine qc ?_ | refine qd ?_ | refine qe (by decide) ?_ | refine qf ?_ | refine qg ?_ | ((first | apply aops_all | apply adraw_all); (simp (disch := first | exact List.all_nil | omega | (simp only [go_sem]; done) | (simp only [ln, List.length_map]; omega) | (repeat' first | assumption | exact Ext.refl _ | refine Ext.app ?_ _)) only [go_sem, dec_t hxl]; rfl)))); (try ((first | apply aops_until | apply adraw_until); (simp (disch := first | exact List.all_nil | omega | (simp only [go_sem]; done) | (simp only [ln, List.length_map]; omega) | (repeat' first | assumption | exact Ext.refl _ | refine Ext.app ?_ _)) only [go_sem, dec_t hxl]; rfl))))
  refine cond_f rfl ?_
  ((repeat (first | refine q1 ?_ | refine q2 ?_ | refine q3 ?_ | refine q4 ?_ | refine q5 ?_ | refine q6 ?_ | refine q7 ?_ | refine q8 ?_ | refine q9 ?_ | refine qa ?_ | refine qb ?_ | refine qc ?_ | refine qd ?_ | refine qe (by decide) ?_ | refine qf ?_ | refine qg ?_ | ((first | apply aops_all | apply adraw_all); (simp (disch := first | exact List.all_nil | omega | (simp only [go_sem]; done) | (simp only [ln, List.length_map]; omega) | (repeat' first | assumption | exact Ext.refl _ | refine Ext.app ?_ _)) only [go_sem]; rfl)))); (try ((first | apply aops_until | apply adraw_until); (simp (disch := first | exact List.all_nil | omega | (simp only [go_sem]; done) | (simp only [ln, List.length_map]; omega) | (repeat' first | assumption | exact Ext.refl _ | refine Ext.app ?_ _)) only [go_sem]; rfl))))
  refine aops_call_to (remainderAt_c (deg := deg) (f := f) hx0) ?_
  ((repeat (first | refine q1 ?_ | refine q2 ?_ | refine q3 ?_ | refine q4 ?_ | refine q5 ?_ | refine q6 ?_ | refine q7 ?_ | refine q8 ?_ | refine q9 ?_ | refine qa ?_ | refine qb ?_ | refine qc ?_ | refine qd ?_ | refine qe (by decide) ?_ | refine qf ?_ | refine qg ?_ | ((first | apply aops_all | apply adraw_all); (simp (disch := first | exact List.all_nil | omega | (simp only [go_sem]; done) | (simp only [ln, List.length_map]; omega) | (repeat' first | assumption | exact Ext.refl _ | refine Ext.app ?_ _)) only [go_sem]; rfl)))); (try ((first | apply aops_until | apply adraw_until); (simp (disch := first | exact List.all_nil | omega | (simp only [go_sem]; done) | (simp only [ln, List.length_map]; omega) | (repeat' first | assumption | exact Ext.refl _ | refine Ext.app ?_ _)) only [go_sem]; rfl))))
  have b1 : (G ++ [AObj.cells true 0 [.int .i64 (remAtL deg f).1, .int .i64 (remAtL deg f).2]])[G.length]? = some (.cells true 0 [.int .i64 (remAtL deg f).1, .int .i64 (remAtL deg f).2]) := at_new
  have x1 := (Ext.refl G).app [AObj.cells true 0 [.int .i64 (remAtL deg f).1, .int .i64 (remAtL deg f).2]]
  generalize (G ++ [AObj.cells true 0 [.int .i64 (remAtL deg f).1, .int .i64 (remAtL deg f).2]] : AHeap) = G1 at b1 x1
  refine aops_call_to (maximumRemainder_c (deg := deg) (hx0.trans x1)) ?_
  ((repeat (first | refine q1 ?_ | refine q2 ?_ | refine q3 ?_ | refine q4 ?_ | refine q5 ?_ | refine q6 ?_ | refine q7 ?_ | refine q8 ?_ | refine q9 ?_ | refine qa ?_ | refine qb ?_ | refine qc ?_ | refine qd ?_ | refine qe (by decide) ?_ | refine qf ?_ | refine qg ?_ | ((first | apply aops_all | apply adraw_all); (simp (disch := first | exact List.all_nil | omega | (simp only [go_sem]; done) | (simp only [ln, List.length_map]; omega) | (repeat' first | assumption | exact Ext.refl _ | refine Ext.app ?_ _)) only [go_sem]; rfl)))); (try ((first | apply aops_until | apply adraw_until); (simp (disch := first | exact List.all_nil | omega | (simp only [go_sem]; done) | (simp only [ln, List.length_map]; omega) | (repeat' first | assumption | exact Ext.refl _ | refine Ext.app ?_ _)) only [go_sem]; rfl))))
  have b2 : (G1 ++ [AObj.cells true 0 [.int .i64 (maxRemAtL deg).1, .int .i64 (maxRemAtL deg).2]])[G1.length]? = some (.cells true 0 [.int .i64 (maxRemAtL deg).1, .int .i64 (maxRemAtL deg).2]) := at_new
  have x2 := (Ext.refl G1).app [AObj.cells true 0 [.int .i64 (maxRemAtL deg).1, .int .i64 (maxRemAtL deg).2]]
  generalize (G1 ++ [AObj.cells true 0 [.int .i64 (maxRemAtL deg).1, .int .i64 (maxRemAtL deg).2]] : AHeap) = G2 at b2 x2
  have x02 := x1.trans x2
  have g2 := x02.cell g0
  have b12 := x2.cell b1
  ((repeat (first | refine q1 ?_ | refine q2 ?_ | refine q3 ?_ | refine q4 ?_ | refine q5 ?_ | refine q6 ?_ | refine q7 ?_ | refine q8 ?_ | refine q9 ?_ | refine qa ?_ | refine qb ?_ | refine qc ?_ | refine qd ?_ | refine qe (by decide) ?_ | refine qf ?_ | refine qg ?_ | ((first | apply aops_all | apply adraw_all); (simp (disch := first | exact List.all_nil | omega | (simp only [go_sem]; done) | (simp only [ln, List.length_map]; omega) | (repeat' first | assumption | exact Ext.refl _ | refine Ext.app ?_ _)) only [go_sem, load_at g2]; rfl)))); (try ((first | apply aops_until | apply adraw_until); (simp (disch := first | exact List.all_nil | omega | (simp only [go_sem]; done) | (simp only [ln, List.length_map]; omega) | (repeat' first | assumption | exact Ext.refl _ | refine Ext.app ?_ _)) only [go_sem, load_at g2]; rfl))))
  refine adraw_call (copyInts_c (hxg.ext x02) hxb) ?_
  have hX3 : Ints (G2 ++ [.cells true 1 (x.map (.int .i64))]) x (.slice (some ⟨G2.length, 0, none⟩) x.length x.length) := Ints.last x.length
  have x3 : Ext G2 (G2 ++ [AObj.cells true 1 (x.map (.int .i64))]) := (Ext.refl G2).app _
  generalize (G2 ++ [AObj.cells true 1 (x.map (.int .i64))] : AHeap) = G3 at hX3 x3
  have g3 := x3.cell g2
  have b13 := x3.cell b12
  have b23 := x3.cell b2
  have x03 := x02.trans x3
  obtain ⟨dv, hdv⟩ : ∃ dv, dv = (if diffErrL x k = 0 then diffK x k.toNat else []) := ⟨_, rfl⟩
  obtain ⟨rv, N, hcall, hR⟩ : ∃ (rv : Value) (N : AHeap), (ACall Tryd.prog 62 [.slice (some ⟨G2.length, 0, none⟩) x.length x.length, .int .i64 k] G3 fun v1 H2 => v1 = .tuple #[rv, .int .i64 (diffErrL x k)] ∧ H2 = G3 ++ N) ∧ Ints (G3 ++ N) dv rv := by
    by_cases he : diffErrL x k = 0
    · refine ⟨.slice (some ⟨G3.length, 0, none⟩) (diffK x k.toNat).length (if (diffK x k.toNat).length = 0 then 1 else (diffK x k.toNat).length), [.cells true 1 ((diffK x k.toNat ++ junkK x k.toNat).map (.int .i64))], ?_, ?_⟩
      · rw [he]; exact differences_ok hX3 he
      · rw [hdv, if_pos he]
        exact ints_first (b := true) at_new
    · refine ⟨.slice none 0 0, [], ?_, ?_⟩
      · exact (differences_err hX3 hxb he).mono fun v1 H2 ⟨h1, h2⟩ => ⟨h1, by rw [h2, List.append_nil]⟩
      · rw [hdv, if_neg he]
        exact ⟨rfl, .inl ⟨rfl, rfl⟩⟩
  ((repeat (first | refine q1 ?_ | refine q2 ?_ | refine q3 ?_ | refine q4 ?_ | refine q5 ?_ | refine q6 ?_ | refine q7 ?_ | refine q8 ?_ | refine q9 ?_ | refine qa ?_ | refine qb ?_ | refine qc ?_ | refine qd ?_ | refine qe (by decide) ?_ | refine qf ?_ | refine qg ?_ | ((first | apply aops_all | apply adraw_all); (simp (disch := first | exact List.all_nil | omega | (simp only [go_sem]; done) | (simp only [ln, List.length_map]; omega) | (repeat' first | assumption | exact Ext.refl _ | refine Ext.app ?_ _)) only [go_sem, load_at g3]; rfl)))); (try ((first | apply aops_until | apply adraw_until); (simp (disch := first | exact List.all_nil | omega | (simp only [go_sem]; done) | (simp only [ln, List.length_map]; omega) | (repeat' first | assumption | exact Ext.refl _ | refine Ext.app ?_ _)) only [go_sem, load_at g3]; rfl))))
  refine adraw_call hcall ?_
  have x4 : Ext G3 (G3 ++ N) := ⟨N, rfl⟩
  generalize (G3 ++ N : AHeap) = G4 at hR x4
  have g4 := x4.cell g3
  have b14 := x4.cell b13
  have b24 := x4.cell b23
  have x04 := x03.trans x4
  have hx04 := hx0.trans x04
  have hxg4 := hxg.ext x04
  clear hcall
  ((repeat (first | refine q1 ?_ | refine q2 ?_ | refine q3 ?_ | refine q4 ?_ | refine q5 ?_ | refine q6 ?_ | refine q7 ?_ | refine q8 ?_ | refine q9 ?_ | refine qa ?_ | refine qb ?_ | refine qc ?_ | refine qd ?_ | refine qe (by decide) ?_ | refine qf ?_ | refine qg ?_ | ((first | apply aops_all | apply adraw_all); (simp (disch := first | exact List.all_nil | omega | (simp only [go_sem]; done) | (simp only [ln, List.length_map]; omega) | (repeat' first | assumption | exact Ext.refl _ | refine Ext.app ?_ _)) only [go_sem, load_at g4]; rfl)))); (try ((first | apply aops_until | apply adraw_until); (simp (disch := first | exact List.all_nil | omega | (simp only [go_sem]; done) | (simp only [ln, List.length_map]; omega) | (repeat' first | assumption | exact Ext.refl _ | refine Ext.app ?_ _)) only [go_sem, load_at g4]; rfl))))
  refine aops_call_to (refSignalErr_c hxg4 hxb) ?_
  ((repeat (first | refine q1 ?_ | refine q2 ?_ | refine q3 ?_ | refine q4 ?_ | refine q5 ?_ | refine q6 ?_ | refine q7 ?_ | refine q8 ?_ | refine q9 ?_ | refine qa ?_ | refine qb ?_ | refine qc ?_ | refine qd ?_ | refine qe (by decide) ?_ | refine qf ?_ | refine qg ?_)); (first | apply aops_all | apply adraw_all); (simp (disch := first | exact List.all_nil | omega | (simp only [go_sem]; done) | (simp only [ln, List.length_map]; omega) | (repeat' first | assumption | exact Ext.refl _ | refine Ext.app ?_ _)) only [go_sem]; rfl))
  refine seq_n ?_
  refine awp_seq (awp_mid [true, true, false, false, false, true, false, true, true, true, true, true, true, true, false, false, false, false, false, false, false, false, false, false, false, false, false, false, false, false, false, false, false, false, false, false, false, false, false, false, false, false, false, false, false, false, false, false, false, false, false, false, false, false, false, false, false, false, false, false, false, false, false, false, false, false, false, false, false, false, false, false, false, false, false, false, false, false, false, false, false, false, false, false, false, false, false, false, false, false, false, false, false, false, false, false, false, false, false, false, false, false, false, false, false, false, false, false, false, false, false, false, false, false, false, false, false, false, false, false, false, false, false, false, false, false, false, false, false, false, false, false] (fun e H' => H' = G4 ∧ e = [.int .i64 deg, .int .i64 f, junk, junk, junk, .pointer (some ⟨H.length, 0, none⟩), junk, .pointer (some ⟨G.length, 0, none⟩), .int .i64 (wAtErrL deg f), .pointer (some ⟨G1.length, 0, none⟩), .int .i64 (degErrL deg), rv, .int .i64 (diffErrL x k), .int .i64 (diffErrL x k), junk, junk, junk, junk, junk, junk, junk, junk, junk, junk, junk, junk, junk, junk, junk, junk, junk, junk, junk, junk, junk, junk, junk, junk, junk, junk, junk, junk, junk, junk, junk, junk, junk, junk, junk, junk, junk, junk, junk, junk, junk, junk, junk, junk, junk, junk, junk, junk, junk, junk, junk, junk, junk, junk, junk, junk, junk, junk, junk, junk, junk, junk, junk, junk, junk, junk, junk, junk, junk, junk, junk, junk, junk, junk, junk, junk, junk, junk, junk, junk, junk, junk, junk, junk, junk, junk, junk, junk, junk, junk, junk, junk, junk, junk, junk, junk, junk, junk, junk, junk, junk, junk, junk, junk, junk, junk, junk, junk, junk, junk, junk, junk, junk, junk, junk, junk, junk, junk]) ?_ ?_)
  · by_cases hs : signalErrL x = 0
    rotate_left 1
    · rw [diffErr_s hs]
      ((repeat (first | refine q1 ?_ | refine q2 ?_ | refine q3 ?_ | refine q4 ?_ | refine q5 ?_ | refine q6 ?_ | refine q7 ?_ | refine q8 ?_ | refine q9 ?_ | refine qa ?_ | refine qb ?_ | refine qc ?_ | refine qd ?_ | refine qe (by decide) ?_ | refine qf ?_ | refine qg ?_ | ((first | apply aops_all | apply adraw_all); (simp (disch := first | exact List.all_nil | omega | (simp only [go_sem]; done) | (simp only [ln, List.length_map]; omega) | (repeat' first | assumption | exact Ext.refl _ | refine Ext.app ?_ _)) only [go_sem, dec_f hs]; rfl)))); (try ((first | apply aops_until | apply adraw_until); (simp (disch := first | exact List.all_nil | omega | (simp only [go_sem]; done) | (simp only [ln, List.length_map]; omega) | (repeat' first | assumption | exact Ext.refl _ | refine Ext.app ?_ _)) only [go_sem, dec_f hs]; rfl))))
      refine cond_f rfl ?_
      ((repeat (first | refine q1 ?_ | refine q2 ?_ | refine q3 ?_ | refine q4 ?_ | refine q5 ?_ | refine q6 ?_ | refine q7 ?_ | refine q8 ?_ | refine q9 ?_ | refine qa ?_ | refine qb ?_ | refine qc ?_ | refine qd ?_ | refine qe (by decide) ?_ | refine qf ?_ | refine qg ?_ | ((first | apply aops_all | apply adraw_all); (simp (disch := first | exact List.all_nil | omega | (simp only [go_sem]; done) | (simp only [ln, List.length_map]; omega) | (repeat' first | assumption | exact Ext.refl _ | refine Ext.app ?_ _)) only [go_sem]; rfl)))); (try ((first | apply aops_until | apply adraw_until); (simp (disch := first | exact List.all_nil | omega | (simp only [go_sem]; done) | (simp only [ln, List.length_map]; omega) | (repeat' first | assumption | exact Ext.refl _ | refine Ext.app ?_ _)) only [go_sem]; rfl))))
      exact ⟨rfl, rfl, by simp [forget]⟩
    · ((repeat (first | refine q1 ?_ | refine q2 ?_ | refine q3 ?_ | refine q4 ?_ | refine q5 ?_ | refine q6 ?_ | refine q7 ?_ | refine q8 ?_ | refine q9 ?_ | refine qa ?_ | refine qb ?_ | refine qc ?_ | refine qd ?_ | refine qe (by decide) ?_ | refine qf ?_ | refine qg ?_ | ((first | apply aops_all | apply adraw_all); (simp (disch := first | exact List.all_nil | omega | (simp only [go_sem]; done) | (simp only [ln, List.length_map]; omega) | (repeat' first | assumption | exact Ext.refl _ | refine Ext.app ?_ _)) only [go_sem, hs, load_at g4]; rfl)))); (try ((first | apply aops_until | apply adraw_until); (simp (disch := first | exact List.all_nil | omega | (simp only [go_sem]; done) | (simp only [ln, List.length_map]; omega) | (repeat' first | assumption | exact Ext.refl _ | refine Ext.app ?_ _)) only [go_sem, hs, load_at g4]; rfl))))
      refine aops_call_to (bwithin_c _ _ _) ?_
      by_cases hk : 1 ≤ k ∧ k ≤ 4
      · rw [diffErr_z hs hk]
        ((repeat (first | refine q1 ?_ | refine q2 ?_ | refine q3 ?_ | refine q4 ?_ | refine q5 ?_ | refine q6 ?_ | refine q7 ?_ | refine q8 ?_ | refine q9 ?_ | refine qa ?_ | refine qb ?_ | refine qc ?_ | refine qd ?_ | refine qe (by decide) ?_ | refine qf ?_ | refine qg ?_ | ((first | apply aops_all | apply adraw_all); (simp (disch := first | exact List.all_nil | omega | (simp only [go_sem]; done) | (simp only [ln, List.length_map]; omega) | (repeat' first | assumption | exact Ext.refl _ | refine Ext.app ?_ _)) only [go_sem, dec_t hk]; rfl)))); (try ((first | apply aops_until | apply adraw_until); (simp (disch := first | exact List.all_nil | omega | (simp only [go_sem]; done) | (simp only [ln, List.length_map]; omega) | (repeat' first | assumption | exact Ext.refl _ | refine Ext.app ?_ _)) only [go_sem, dec_t hk]; rfl))))
        refine cond_f rfl ?_
        ((repeat (first | refine q1 ?_ | refine q2 ?_ | refine q3 ?_ | refine q4 ?_ | refine q5 ?_ | refine q6 ?_ | refine q7 ?_ | refine q8 ?_ | refine q9 ?_ | refine qa ?_ | refine qb ?_ | refine qc ?_ | refine qd ?_ | refine qe (by decide) ?_ | refine qf ?_ | refine qg ?_ | ((first | apply aops_all | apply adraw_all); (simp (disch := first | exact List.all_nil | omega | (simp only [go_sem]; done) | (simp only [ln, List.length_map]; omega) | (repeat' first | assumption | exact Ext.refl _ | refine Ext.app ?_ _)) only [go_sem]; rfl)))); (try ((first | apply aops_until | apply adraw_until); (simp (disch := first | exact List.all_nil | omega | (simp only [go_sem]; done) | (simp only [ln, List.length_map]; omega) | (repeat' first | assumption | exact Ext.refl _ | refine Ext.app ?_ _)) only [go_sem]; rfl))))
        exact ⟨rfl, rfl, by simp [forget]⟩
      · rw [diffErr_k hs hk]
        ((repeat (first | refine q1 ?_ | refine q2 ?_ | refine q3 ?_ | refine q4 ?_ | refine q5 ?_ | refine q6 ?_ | refine q7 ?_ | refine q8 ?_ | refine q9 ?_ | refine qa ?_ | refine qb ?_ | refine qc ?_ | refine qd ?_ | refine qe (by decide) ?_ | refine qf ?_ | refine qg ?_ | ((first | apply aops_all | apply adraw_all); (simp (disch := first | exact List.all_nil | omega | (simp only [go_sem]; done) | (simp only [ln, List.length_map]; omega) | (repeat' first | assumption | exact Ext.refl _ | refine Ext.app ?_ _)) only [go_sem, dec_f hk]; rfl)))); (try ((first | apply aops_until | apply adraw_until); (simp (disch := first | exact List.all_nil | omega | (simp only [go_sem]; done) | (simp only [ln, List.length_map]; omega) | (repeat' first | assumption | exact Ext.refl _ | refine Ext.app ?_ _)) only [go_sem, dec_f hk]; rfl))))
        refine cond_t rfl ?_
        ((repeat (first | refine q1 ?_ | refine q2 ?_ | refine q3 ?_ | refine q4 ?_ | refine q5 ?_ | refine q6 ?_ | refine q7 ?_ | refine q8 ?_ | refine q9 ?_ | refine qa ?_ | refine qb ?_ | refine qc ?_ | refine qd ?_ | refine qe (by decide) ?_ | refine qf ?_ | refine qg ?_ | ((first | apply aops_all | apply adraw_all); (simp (disch := first | exact List.all_nil | omega | (simp only [go_sem]; done) | (simp only [ln, List.length_map]; omega) | (repeat' first | assumption | exact Ext.refl _ | refine Ext.app ?_ _)) only [go_sem]; rfl)))); (try ((first | apply aops_until | apply adraw_until); (simp (disch := first | exact List.all_nil | omega | (simp only [go_sem]; done) | (simp only [ln, List.length_map]; omega) | (repeat' first | assumption | exact Ext.refl _ | refine Ext.app ?_ _)) only [go_sem]; rfl))))
        exact ⟨rfl, rfl, by simp [forget]⟩
  rintro e H' ⟨rfl, rfl⟩
  refine awp_seq (awp_mid [true, true, false, false, false, false, false, true, true, true, true, false, false, false, false, false, false, false, false, false, false, false, false, false, false, false, false, false, false, false, false, false, false, false, false, false, false, false, false, false, false, false, false, false, false, false, false, false, false, false, false, false, false, false, false, false, false, false, false, false, false, false, false, false, false, false, false, false, false, false, false, false, false, false, false, false, false, false, false, false, false, false, false, false, false, false, false, false, false, false, false, false, false, false, false, false, false, false, false, false, false, false, false, false, false, false, false, false, false, false, false, false, false, false, false, false, false, false, false, false, false, false, false, false, false, false, false, false, false, false, false, false] (fun e G' => Ext H' G' ∧ e = [.int .i64 deg, .int .i64 f, junk, junk, junk, junk, junk, .pointer (some ⟨G.length, 0, none⟩), .int .i64 (wAtErrL deg f), .pointer (some ⟨G1.length, 0, none⟩), .int .i64 (degErrL deg), junk, junk, junk, junk, junk, junk, junk, junk, junk, junk, junk, junk, junk, junk, junk, junk, junk, junk, junk, junk, junk, junk, junk, junk, junk, junk, junk, junk, junk, junk, junk, junk, junk, junk, junk, junk, junk, junk, junk, junk, junk, junk, junk, junk, junk, junk, junk, junk, junk, junk, junk, junk, junk, junk, junk, junk, junk, junk, junk, junk, junk, junk, junk, junk, junk, junk, junk, junk, junk, junk, junk, junk, junk, junk, junk, junk, junk, junk, junk, junk, junk, junk, junk, junk, junk, junk, junk, junk, junk, junk, junk, junk, junk, junk, junk, junk, junk, junk, junk, junk, junk, junk, junk, junk, junk, junk, junk, junk, junk, junk, junk, junk, junk, junk, junk, junk, junk, junk, junk, junk, junk]) ?_ ?_)
  · have z1 : decide (((([] : List Int).length : Nat) : Int) ≠ 0) = false := rfl
    by_cases he : diffErrL x k = 0
    · rw [if_pos he] at hdv
      subst hdv
      ((repeat (first | refine q1 ?_ | refine q2 ?_ | refine q3 ?_ | refine q4 ?_ | refine q5 ?_ | refine q6 ?_ | refine q7 ?_ | refine q8 ?_ | refine q9 ?_ | refine qa ?_ | refine qb ?_ | refine qc ?_ | refine qd ?_ | refine qe (by decide) ?_ | refine qf ?_ | refine qg ?_ | ((first | apply aops_all | apply adraw_all); (simp (disch := first | exact List.all_nil | omega | (simp only [go_sem]; done) | (simp only [ln, List.length_map]; omega) | (repeat' first | assumption | exact Ext.refl _ | refine Ext.app ?_ _)) only [go_sem, he, load_at g4]; rfl)))); (try ((first | apply aops_until | apply adraw_until); (simp (disch := first | exact List.all_nil | omega | (simp only [go_sem]; done) | (simp only [ln, List.length_map]; omega) | (repeat' first | assumption | exact Ext.refl _ | refine Ext.app ?_ _)) only [go_sem, he, load_at g4]; rfl))))
      refine aops_call ((refDifferences_c hxg4 he).mono fun u G5 hu => ?_)
      obtain ⟨hU, x5⟩ := hu.use
      obtain ⟨hs, hk⟩ := diffErr_ok he
      obtain ⟨s1, s2⟩ := signalErr_ok hs
      have hdl := diffK_len x k.toNat
      ((repeat (first | refine q1 ?_ | refine q2 ?_ | refine q3 ?_ | refine q4 ?_ | refine q5 ?_ | refine q6 ?_ | refine q7 ?_ | refine q8 ?_ | refine q9 ?_ | refine qa ?_ | refine qb ?_ | refine qc ?_ | refine qd ?_ | refine qe (by decide) ?_ | refine qf ?_ | refine qg ?_ | ((first | apply aops_all | apply adraw_all); (simp (disch := first | exact List.all_nil | omega | (simp only [go_sem]; done) | (simp only [ln, List.length_map]; omega) | (repeat' first | assumption | exact Ext.refl _ | refine Ext.app ?_ _)) only [go_sem, he]; rfl)))); (try ((first | apply aops_until | apply adraw_until); (simp (disch := first | exact List.all_nil | omega | (simp only [go_sem]; done) | (simp only [ln, List.length_map]; omega) | (repeat' first | assumption | exact Ext.refl _ | refine Ext.app ?_ _)) only [go_sem, he]; rfl))))
      refine aops_call_to (bints_c (hR.ext x5) hU (by omega) (by omega)) ?_
      ((repeat (first | refine q1 ?_ | refine q2 ?_ | refine q3 ?_ | refine q4 ?_ | refine q5 ?_ | refine q6 ?_ | refine q7 ?_ | refine q8 ?_ | refine q9 ?_ | refine qa ?_ | refine qb ?_ | refine qc ?_ | refine qd ?_ | refine qe (by decide) ?_ | refine qf ?_ | refine qg ?_ | ((first | apply aops_all | apply adraw_all); (simp (disch := first | exact List.all_nil | omega | (simp only [go_sem]; done) | (simp only [ln, List.length_map]; omega) | (repeat' first | assumption | exact Ext.refl _ | refine Ext.app ?_ _)) only [go_sem, he]; rfl)))); (try ((first | apply aops_until | apply adraw_until); (simp (disch := first | exact List.all_nil | omega | (simp only [go_sem]; done) | (simp only [ln, List.length_map]; omega) | (repeat' first | assumption | exact Ext.refl _ | refine Ext.app ?_ _)) only [go_sem, he]; rfl))))
      refine cond_f rfl ?_
      ((repeat (first | refine q1 ?_ | refine q2 ?_ | refine q3 ?_ | refine q4 ?_ | refine q5 ?_ | refine q6 ?_ | refine q7 ?_ | refine q8 ?_ | refine q9 ?_ | refine qa ?_ | refine qb ?_ | refine qc ?_ | refine qd ?_ | refine qe (by decide) ?_ | refine qf ?_ | refine qg ?_ | ((first | apply aops_all | apply adraw_all); (simp (disch := first | exact List.all_nil | omega | (simp only [go_sem]; done) | (simp only [ln, List.length_map]; omega) | (repeat' first | assumption | exact Ext.refl _ | refine Ext.app ?_ _)) only [go_sem]; rfl)))); (try ((first | apply aops_until | apply adraw_until); (simp (disch := first | exact List.all_nil | omega | (simp only [go_sem]; done) | (simp only [ln, List.length_map]; omega) | (repeat' first | assumption | exact Ext.refl _ | refine Ext.app ?_ _)) only [go_sem]; rfl))))
      exact ⟨rfl, x5, by simp [forget]⟩
    · rw [if_neg he] at hdv
      subst hdv
      ((repeat (first | refine q1 ?_ | refine q2 ?_ | refine q3 ?_ | refine q4 ?_ | refine q5 ?_ | refine q6 ?_ | refine q7 ?_ | refine q8 ?_ | refine q9 ?_ | refine qa ?_ | refine qb ?_ | refine qc ?_ | refine qd ?_ | refine qe (by decide) ?_ | refine qf ?_ | refine qg ?_ | ((first | apply aops_all | apply adraw_all); (simp (disch := first | exact List.all_nil | omega | (simp only [go_sem]; done) | (simp only [ln, List.length_map]; omega) | (repeat' first | assumption | exact Ext.refl _ | refine Ext.app ?_ _)) only [go_sem, hR.len, hR.idx, hR.load, dec_f he, dec_t (show diffErrL x k ≠ 0 from he), z1]; rfl)))); (try ((first | apply aops_until | apply adraw_until); (simp (disch := first | exact List.all_nil | omega | (simp only [go_sem]; done) | (simp only [ln, List.length_map]; omega) | (repeat' first | assumption | exact Ext.refl _ | refine Ext.app ?_ _)) only [go_sem, hR.len, hR.idx, hR.load, dec_f he, dec_t (show diffErrL x k ≠ 0 from he), z1]; rfl))))
      refine cond_f rfl ?_
      ((repeat (first | refine q1 ?_ | refine q2 ?_ | refine q3 ?_ | refine q4 ?_ | refine q5 ?_ | refine q6 ?_ | refine q7 ?_ | refine q8 ?_ | refine q9 ?_ | refine qa ?_ | refine qb ?_ | refine qc ?_ | refine qd ?_ | refine qe (by decide) ?_ | refine qf ?_ | refine qg ?_ | ((first | apply aops_all | apply adraw_all); (simp (disch := first | exact List.all_nil | omega | (simp only [go_sem]; done) | (simp only [ln, List.length_map]; omega) | (repeat' first | assumption | exact Ext.refl _ | refine Ext.app ?_ _)) only [go_sem]; rfl)))); (try ((first | apply aops_until | apply adraw_until); (simp (disch := first | exact List.all_nil | omega | (simp only [go_sem]; done) | (simp only [ln, List.length_map]; omega) | (repeat' first | assumption | exact Ext.refl _ | refine Ext.app ?_ _)) only [go_sem]; rfl))))
      exact ⟨rfl, Ext.refl _, by simp [forget]⟩
  rintro e G5 ⟨x5, rfl⟩
  have b15 := x5.cell b14
  have b25 := x5.cell b24
  ((repeat (first | refine q1 ?_ | refine q2 ?_ | refine q3 ?_ | refine q4 ?_ | refine q5 ?_ | refine q6 ?_ | refine q7 ?_ | refine q8 ?_ | refine q9 ?_ | refine qa ?_ | refine qb ?_ | refine qc ?_ | refine qd ?_ | refine qe (by decide) ?_ | refine qf ?_ | refine qg ?_ | ((first | apply aops_all | apply adraw_all); (simp (disch := first | exact List.all_nil | omega | (simp only [go_sem]; done) | (simp only [ln, List.length_map]; omega) | (repeat' first | assumption | exact Ext.refl _ | refine Ext.app ?_ _)) only [go_sem]; rfl)))); (try ((first | apply aops_until | apply adraw_until); (simp (disch := first | exact List.all_nil | omega | (simp only [go_sem]; done) | (simp only [ln, List.length_map]; omega) | (repeat' first | assumption | exact Ext.refl _ | refine Ext.app ?_ _)) only [go_sem]; rfl))))
  refine aops_call_to (refDegreeErr_c _) ?_
  by_cases hd : degErrL deg = 0
  rotate_left 1
  · have e1 : wAtErrL deg f = degErrL deg := wAtErr_d hd
    have e2 : remAtL deg f = (0, 0) := by unfold remAtL; rw [if_neg (by rw [e1]; exact hd)]
    have e3 : maxRemAtL deg = (0, 0) := by unfold maxRemAtL; rw [if_neg hd]
    rw [e2] at b15
    rw [e3] at b25
    ((repeat (first | refine q1 ?_ | refine q2 ?_ | refine q3 ?_ | refine q4 ?_ | refine q5 ?_ | refine q6 ?_ | refine q7 ?_ | refine q8 ?_ | refine q9 ?_ | refine qa ?_ | refine qb ?_ | refine qc ?_ | refine qd ?_ | refine qe (by decide) ?_ | refine qf ?_ | refine qg ?_ | ((first | apply aops_all | apply adraw_all); (simp (disch := first | exact List.all_nil | omega | (simp only [go_sem]; done) | (simp only [ln, List.length_map]; omega) | (repeat' first | assumption | exact Ext.refl _ | refine Ext.app ?_ _)) only [go_sem, dec_t (show degErrL deg ≠ 0 from hd)]; rfl)))); (try ((first | apply aops_until | apply adraw_until); (simp (disch := first | exact List.all_nil | omega | (simp only [go_sem]; done) | (simp only [ln, List.length_map]; omega) | (repeat' first | assumption | exact Ext.refl _ | refine Ext.app ?_ _)) only [go_sem, dec_t (show degErrL deg ≠ 0 from hd)]; rfl))))
    refine cond_t rfl ?_
    rw [e1]
    ((repeat (first | refine q1 ?_ | refine q2 ?_ | refine q3 ?_ | refine q4 ?_ | refine q5 ?_ | refine q6 ?_ | refine q7 ?_ | refine q8 ?_ | refine q9 ?_ | refine qa ?_ | refine qb ?_ | refine qc ?_ | refine qd ?_ | refine qe (by decide) ?_ | refine qf ?_ | refine qg ?_ | ((first | apply aops_all | apply adraw_all); (simp (disch := first | exact List.all_nil | omega | (simp only [go_sem]; done) | (simp only [ln, List.length_map]; omega) | (repeat' first | assumption | exact Ext.refl _ | refine Ext.app ?_ _)) only [go_sem, n2_at b15, n2_at b25, fill_none]; rfl)))); (try ((first | apply aops_until | apply adraw_until); (simp (disch := first | exact List.all_nil | omega | (simp only [go_sem]; done) | (simp only [ln, List.length_map]; omega) | (repeat' first | assumption | exact Ext.refl _ | refine Ext.app ?_ _)) only [go_sem, n2_at b15, n2_at b25, fill_none]; rfl))))
    exact fin_1 rfl
  have hdd := degErr_ok hd
  have e3 : maxRemAtL deg = maxRemL deg := by unfold maxRemAtL; rw [if_pos hd]
  rw [e3] at b25
  ((repeat (first | refine q1 ?_ | refine q2 ?_ | refine q3 ?_ | refine q4 ?_ | refine q5 ?_ | refine q6 ?_ | refine q7 ?_ | refine q8 ?_ | refine q9 ?_ | refine qa ?_ | refine qb ?_ | refine qc ?_ | refine qd ?_ | refine qe (by decide) ?_ | refine qf ?_ | refine qg ?_ | ((first | apply aops_all | apply adraw_all); (simp (disch := first | exact List.all_nil | omega | (simp only [go_sem]; done) | (simp only [ln, List.length_map]; omega) | (repeat' first | assumption | exact Ext.refl _ | refine Ext.app ?_ _)) only [go_sem, hd]; rfl)))); (try ((first | apply aops_until | apply adraw_until); (simp (disch := first | exact List.all_nil | omega | (simp only [go_sem]; done) | (simp only [ln, List.length_map]; omega) | (repeat' first | assumption | exact Ext.refl _ | refine Ext.app ?_ _)) only [go_sem, hd]; rfl))))
  refine cond_f rfl ?_
  ((repeat (first | refine q1 ?_ | refine q2 ?_ | refine q3 ?_ | refine q4 ?_ | refine q5 ?_ | refine q6 ?_ | refine q7 ?_ | refine q8 ?_ | refine q9 ?_ | refine qa ?_ | refine qb ?_ | refine qc ?_ | refine qd ?_ | refine qe (by decide) ?_ | refine qf ?_ | refine qg ?_ | ((first | apply aops_all | apply adraw_all); (simp (disch := first | exact List.all_nil | omega | (simp only [go_sem]; done) | (simp only [ln, List.length_map]; omega) | (repeat' first | assumption | exact Ext.refl _ | refine Ext.app ?_ _)) only [go_sem, n2_at b25, hd]; rfl)))); (try ((first | apply aops_until | apply adraw_until); (simp (disch := first | exact List.all_nil | omega | (simp only [go_sem]; done) | (simp only [ln, List.length_map]; omega) | (repeat' first | assumption | exact Ext.refl _ | refine Ext.app ?_ _)) only [go_sem, n2_at b25, hd]; rfl))))
  refine adraw_call (N := []) (firstD (refMaximumRemainder_c hdd)) ?_
  rw [List.append_nil]
  ((repeat (first | refine q1 ?_ | refine q2 ?_ | refine q3 ?_ | refine q4 ?_ | refine q5 ?_ | refine q6 ?_ | refine q7 ?_ | refine q8 ?_ | refine q9 ?_ | refine qa ?_ | refine qb ?_ | refine qc ?_ | refine qd ?_ | refine qe (by decide) ?_ | refine qf ?_ | refine qg ?_ | ((first | apply aops_all | apply adraw_all); (simp (disch := first | exact List.all_nil | omega | (simp only [go_sem]; done) | (simp only [ln, List.length_map]; omega) | (repeat' first | assumption | exact Ext.refl _ | refine Ext.app ?_ _)) only [go_sem]; rfl)))); (try ((first | apply aops_until | apply adraw_until); (simp (disch := first | exact List.all_nil | omega | (simp only [go_sem]; done) | (simp only [ln, List.length_map]; omega) | (repeat' first | assumption | exact Ext.refl _ | refine Ext.app ?_ _)) only [go_sem]; rfl))))
  refine cond_f rfl ?_
  ((repeat (first | refine q1 ?_ | refine q2 ?_ | refine q3 ?_ | refine q4 ?_ | refine q5 ?_ | refine q6 ?_ | refine q7 ?_ | refine q8 ?_ | refine q9 ?_ | refine qa ?_ | refine qb ?_ | refine qc ?_ | refine qd ?_ | refine qe (by decide) ?_ | refine qf ?_ | refine qg ?_ | ((first | apply aops_all | apply adraw_all); (simp (disch := first | exact List.all_nil | omega | (simp only [go_sem]; done) | (simp only [ln, List.length_map]; omega) | (repeat' first | assumption | exact Ext.refl _ | refine Ext.app ?_ _)) only [go_sem]; rfl)))); (try ((first | apply aops_until | apply adraw_until); (simp (disch := first | exact List.all_nil | omega | (simp only [go_sem]; done) | (simp only [ln, List.length_map]; omega) | (repeat' first | assumption | exact Ext.refl _ | refine Ext.app ?_ _)) only [go_sem]; rfl))))
  refine aops_call_to (refFractionErr_c _) ?_
  have e4 : wAtErrL deg f = fracErrL f := wAtErr_f hd
  by_cases hf : fracErrL f = 0
  rotate_left 1
  · have e2 : remAtL deg f = (0, 0) := by unfold remAtL; rw [if_neg (by rw [e4]; exact hf)]
    rw [e2] at b15
    ((repeat (first | refine q1 ?_ | refine q2 ?_ | refine q3 ?_ | refine q4 ?_ | refine q5 ?_ | refine q6 ?_ | refine q7 ?_ | refine q8 ?_ | refine q9 ?_ | refine qa ?_ | refine qb ?_ | refine qc ?_ | refine qd ?_ | refine qe (by decide) ?_ | refine qf ?_ | refine qg ?_ | ((first | apply aops_all | apply adraw_all); (simp (disch := first | exact List.all_nil | omega | (simp only [go_sem]; done) | (simp only [ln, List.length_map]; omega) | (repeat' first | assumption | exact Ext.refl _ | refine Ext.app ?_ _)) only [go_sem, dec_t (show fracErrL f ≠ 0 from hf)]; rfl)))); (try ((first | apply aops_until | apply adraw_until); (simp (disch := first | exact List.all_nil | omega | (simp only [go_sem]; done) | (simp only [ln, List.length_map]; omega) | (repeat' first | assumption | exact Ext.refl _ | refine Ext.app ?_ _)) only [go_sem, dec_t (show fracErrL f ≠ 0 from hf)]; rfl))))
    refine cond_t rfl ?_
    rw [e4]
    ((repeat (first | refine q1 ?_ | refine q2 ?_ | refine q3 ?_ | refine q4 ?_ | refine q5 ?_ | refine q6 ?_ | refine q7 ?_ | refine q8 ?_ | refine q9 ?_ | refine qa ?_ | refine qb ?_ | refine qc ?_ | refine qd ?_ | refine qe (by decide) ?_ | refine qf ?_ | refine qg ?_ | ((first | apply aops_all | apply adraw_all); (simp (disch := first | exact List.all_nil | omega | (simp only [go_sem]; done) | (simp only [ln, List.length_map]; omega) | (repeat' first | assumption | exact Ext.refl _ | refine Ext.app ?_ _)) only [go_sem, n2_at b15, fill_none]; rfl)))); (try ((first | apply aops_until | apply adraw_until); (simp (disch := first | exact List.all_nil | omega | (simp only [go_sem]; done) | (simp only [ln, List.length_map]; omega) | (repeat' first | assumption | exact Ext.refl _ | refine Ext.app ?_ _)) only [go_sem, n2_at b15, fill_none]; rfl))))
    exact fin_1 rfl
  have hff := fracErr_ok hf
  have e2 : remAtL deg f = remL deg f := by unfold remAtL; rw [if_pos (by rw [e4]; exact hf)]
  rw [e2] at b15
  ((repeat (first | refine q1 ?_ | refine q2 ?_ | refine q3 ?_ | refine q4 ?_ | refine q5 ?_ | refine q6 ?_ | refine q7 ?_ | refine q8 ?_ | refine q9 ?_ | refine qa ?_ | refine qb ?_ | refine qc ?_ | refine qd ?_ | refine qe (by decide) ?_ | refine qf ?_ | refine qg ?_ | ((first | apply aops_all | apply adraw_all); (simp (disch := first | exact List.all_nil | omega | (simp only [go_sem]; done) | (simp only [ln, List.length_map]; omega) | (repeat' first | assumption | exact Ext.refl _ | refine Ext.app ?_ _)) only [go_sem, hf]; rfl)))); (try ((first | apply aops_until | apply adraw_until); (simp (disch := first | exact List.all_nil | omega | (simp only [go_sem]; done) | (simp only [ln, List.length_map]; omega) | (repeat' first | assumption | exact Ext.refl _ | refine Ext.app ?_ _)) only [go_sem, hf]; rfl))))
  refine cond_f rfl ?_
  rw [e4, hf]
  ((repeat (first | refine q1 ?_ | refine q2 ?_ | refine q3 ?_ | refine q4 ?_ | refine q5 ?_ | refine q6 ?_ | refine q7 ?_ | refine q8 ?_ | refine q9 ?_ | refine qa ?_ | refine qb ?_ | refine qc ?_ | refine qd ?_ | refine qe (by decide) ?_ | refine qf ?_ | refine qg ?_ | ((first | apply aops_all | apply adraw_all); (simp (disch := first | exact List.all_nil | omega | (simp only [go_sem]; done) | (simp only [ln, List.length_map]; omega) | (repeat' first | assumption | exact Ext.refl _ | refine Ext.app ?_ _)) only [go_sem, n2_at b15]; rfl)))); (try ((first | apply aops_until | apply adraw_until); (simp (disch := first | exact List.all_nil | omega | (simp only [go_sem]; done) | (simp only [ln, List.length_map]; omega) | (repeat' first | assumption | exact Ext.refl _ | refine Ext.app ?_ _)) only [go_sem, n2_at b15]; rfl))))
  refine adraw_call (N := []) (firstD (refRemainder_c hdd hff)) ?_
  rw [List.append_nil]
  ((repeat (first | refine q1 ?_ | refine q2 ?_ | refine q3 ?_ | refine q4 ?_ | refine q5 ?_ | refine q6 ?_ | refine q7 ?_ | refine q8 ?_ | refine q9 ?_ | refine qa ?_ | refine qb ?_ | refine qc ?_ | refine qd ?_ | refine qe (by decide) ?_ | refine qf ?_ | refine qg ?_ | ((first | apply aops_all | apply adraw_all); (simp (disch := first | exact List.all_nil | omega | (simp only [go_sem]; done) | (simp only [ln, List.length_map]; omega) | (repeat' first | assumption | exact Ext.refl _ | refine Ext.app ?_ _)) only [go_sem]; rfl)))); (try ((first | apply aops_until | apply adraw_until); (simp (disch := first | exact List.all_nil | omega | (simp only [go_sem]; done) | (simp only [ln, List.length_map]; omega) | (repeat' first | assumption | exact Ext.refl _ | refine Ext.app ?_ _)) only [go_sem]; rfl))))
  exact fin_1 rfl
end Go.Lq

namespace Go.Lq
open Go Go.ChangeShapes Go.WideShapes Go.ChangeAt Go.RowKit
open Go.Proofs

set_option maxRecDepth 100000 in
theorem lifted13 (os : Os) (started : os.Started) (X : Type) (enc : TypeId × Value → X) :
    ReturnsInHanded {} Tryd.checked os 13 .any (fun w args => (YtlcfgealkjomnaaDoor.Rows.resampleRemaindersSpec.pre enc Tryd.prog Tryd.f13 [] false w args ∧ laidMetH Tryd.prog laidAll w) ∧ sizedMet enc Tryd.prog Tryd.f13 (OpenSpec.ofChange YtlcfgealkjomnaaDoor.Rows.resampleRemaindersSpec) false w args)
      (YtlcfgealkjomnaaDoor.Rows.resampleRemaindersSpec.post enc Tryd.prog Tryd.f13 false true false false) := by
  refine returnsInHanded_of_change_shaped (C := Tryd.checked) (X := fun w _ => laidMetH Tryd.prog laidAll w) (fun _ _ _ hh h => h.of_heap hh) own_knob started (by kernel_rfl) Tryd.func13
    (ChangeSpec.witness_shaped (enc := enc) (C := Tryd.checked) (os := os) (X := fun w _ => laidMetH Tryd.prog laidAll w) false (World.doorLaid Tryd.prog 400 os) #[.int .i64 0, .int .i64 0, .agg #[.slice none 0 0, .int .i64 0]] 12 rfl (door_shaped os _) (by kernel_rfl) (by kernel_rfl) (by kernel_rfl) (door_met os _)) ?_
  intro W base args ds gs before hsh hval hW hL
  have hWw := hW
  obtain ⟨p, q, hA, _⟩ := hW
  refine (calls_of_law (d := 20) (of_laid hL hsh) globs glob_at hA (fun j t v h1 h2 => hval j t v (by simpa using h1) (by simpa using h2)) (by kernel_rfl) fun H avs hx h => ?_).mono fun e W' ⟨he, hB⟩ => ?_
  · exact law13 hx (by rw [show Tryd.f13.params = #[3, 3, 106] from Tryd.params13] at h; exact h)
  · subst he
    exact ⟨_, rfl, law_post (bt := 4) laid_out rfl Tryd.underlying4 (by kernel_rfl) (by kernel_rfl) hWw (fun ds hd => by
      rw [show Tryd.f13.params = #[3, 3, 106] from Tryd.params13] at hd
      match ds, hd with
      | [a, b, c], _ => rfl) hB⟩

theorem unf13 : Tryd.prog.unfollowed 13 = true := by kernel_rfl
theorem rec13 : Tryd.prog.recurses 13 = true := by kernel_rfl
theorem named13 : Tryd.prog.varsNamed 13 = YtlcfgealkjomnaaDoor.Rows.resampleRemaindersRow.named := by kernel_rfl
theorem facts13 : joinedFacts Tryd.prog 13 Tryd.f13 YtlcfgealkjomnaaDoor.Rows.resampleRemaindersSpec YtlcfgealkjomnaaDoor.Rows.resampleRemaindersRow = true := by
  unfold joinedFacts
  rw [may_enter, stops_heard, maps_rowed, laid_out, lifts_final, make_is, unf13, rec13, named13]
  kernel_rfl
theorem holds13 : YtlcfgealkjomnaaDoor.Rows.ResampleRemaindersSaid :=
  OpenClaim.holds_of_wide 13 Tryd.f13 rfl rfl rfl rfl rfl rfl rfl ⟨rfl, rfl, rfl, rfl, rfl⟩ rfl rfl rfl rfl rfl (by kernel_rfl) Tryd.func13 facts13
    (of_decide_eq_true (by kernel_rfl)) (by unfold Func.isWrapper; first | (rw [if_pos (by decide +kernel)]; kernel_rfl) | (rw [if_neg (by decide +kernel)]; exact ⟨rfl, rfl⟩))
    (fun os started H enc _ => lifted13 os started H enc)
end Go.Lq
namespace Go.Proofs.YtlcfgealkjomnaaDoor
open Go Go.Lq
theorem resampleRemainders_proved : Rows.ResampleRemaindersCardSaid :=
  Claim7.holds_tied_plain_at .later [] [.funcs] true (true, "9403e86e1dc287bd0cb4ee71274230f6f4c5733d4f08721e5e779bfd75daaf91") false
    holds13 (fun _ h => by cases h) (by kernel_rfl) (fun _ h => by cases h) resampleRemainders_row_tie rfl ⟨rfl, rfl⟩ main_is rfl
    (fun f fn hf hfn => by
      obtain rfl : f = 13 := Option.some.inj ((show Tryd.prog.funcNamed "lacquer/lacquerlaw04.ResampleRemainders" = some 13 by kernel_rfl).symm.trans hf) |>.symm
      obtain rfl : fn = Tryd.f13 := (Option.some.inj (Tryd.func13.symm.trans hfn)).symm
      exact ⟨looks0, fun j t ht => by
        rw [Tryd.params13] at ht
        have hm : t ∈ [3, 3, 106] := by simpa using Array.mem_of_getElem? ht
        have hall : ([3, 3, 106].all fun u => !Tryd.prog.wantsStandIn u) = true := by kernel_rfl
        exact (show Tryd.prog.wantsStandIn t = false by simpa using List.all_eq_true.1 hall t hm)⟩)
    (by kernel_rfl)
end Go.Proofs.YtlcfgealkjomnaaDoor
