/- SpeedRates is proved: for every input that can be read the law returns true, and each argument reads afterwards as it read before; nothing is asked of package variables. -/
import Derived.Test.YteimgikhanhgiaaV43
set_option linter.unusedSimpArgs false
set_option linter.unnecessarySimpa false
set_option linter.unusedVariables false
set_option maxRecDepth 100000
namespace Go.Lq
open Go
open Go.Proofs

theorem z66 : decide ((6 : Int) = 6) = true := by decide
theorem z88 : decide ((8 : Int) = 8) = true := by decide
theorem zn88 : decide ((8 : Int) ≠ 8) = false := by decide
set_option maxRecDepth 100000 in
set_option maxHeartbeats 8000000 in
theorem law4 {H : AHeap} {avs : List Value} (h : RepAll Try.prog H [42, 3] avs) : ACall Try.prog 4 avs H fun v _ => v = .bool true := by
  obtain ⟨a, b, rfl, h1, h2⟩ := h.two
  obtain ⟨l, s, rfl, hl, hlm⟩ := repMapA h1
  obtain ⟨i, rfl, hi64⟩ := h2.int Try.underlying3
  (refine a4 ?_; simp only [n4, List.replicate, yq, yr, yt, yu]; first | refine Go.Lq.q1 ?_ | refine Go.Lq.q2 ?_ | refine Go.Lq.q6 ?_ | refine Go.Lq.q7 ?_ | refine Go.Lq.qh rfl ?_ | skip)
  have g0 : (H ++ [AObj.cells true 0 [s]])[H.length]? = some (.cells true 0 [s]) := at_new
  have xG : Ext H (H ++ [AObj.cells true 0 [s]]) := (Ext.refl H).app _
  (repeat (first | refine ya (by (with_reducible constructor) <;> first | rfl | decide) ?_ | (apply yd; simp (disch := first | exact yn | omega | (simp only [go_sem]; done) | (simp only [ln, ym]; omega) | (repeat' first | assumption | exact yo _ | refine yp ?_ _)) only [go_sem, hl.box1]; with_reducible rfl)))
  generalize (H ++ [AObj.cells true 0 [s]] : AHeap) = G at g0 xG
  have k0 := hl.ext xG
  ((repeat (first | refine ya (by (with_reducible constructor) <;> first | rfl | decide) ?_ | apply yb | refine yc rfl ?_ | ((first | apply yd | apply ye); simp (disch := first | exact yn | omega | (simp only [go_sem]; done) | (simp only [ln, ym]; omega) | (repeat' first | assumption | exact yo _ | refine yp ?_ _)) only [go_sem]; with_reducible rfl))))
  (refine aops_call_to (awake_c) ?_)
  ((repeat (first | refine ya (by (with_reducible constructor) <;> first | rfl | decide) ?_ | apply yb | refine yc rfl ?_ | ((first | apply yd | apply ye); simp (disch := first | exact yn | omega | (simp only [go_sem]; done) | (simp only [ln, ym]; omega) | (repeat' first | assumption | exact yo _ | refine yp ?_ _)) only [go_sem]; with_reducible rfl))))
  refine cond_f rfl ?_
  ((repeat (first | refine ya (by (with_reducible constructor) <;> first | rfl | decide) ?_ | apply yb | refine yc rfl ?_ | ((first | apply yd | apply ye); simp (disch := first | exact yn | omega | (simp only [go_sem]; done) | (simp only [ln, ym]; omega) | (repeat' first | assumption | exact yo _ | refine yp ?_ _)) only [go_sem, n1_at g0]; with_reducible rfl))))
  (refine aops_call_to (few_c k0) ?_)
  by_cases hf : l.length ≤ 22
  rotate_left 1
  · ((repeat (first | refine ya (by (with_reducible constructor) <;> first | rfl | decide) ?_ | apply yb | refine yc rfl ?_ | ((first | apply yd | apply ye); simp (disch := first | exact yn | omega | (simp only [go_sem]; done) | (simp only [ln, ym]; omega) | (repeat' first | assumption | exact yo _ | refine yp ?_ _)) only [go_sem, dec_f hf]; with_reducible rfl))))
    refine cond_t rfl ?_
    ((repeat (first | refine ya (by (with_reducible constructor) <;> first | rfl | decide) ?_ | apply yb | refine yc rfl ?_ | ((first | apply yd | apply ye); simp (disch := first | exact yn | omega | (simp only [go_sem]; done) | (simp only [ln, ym]; omega) | (repeat' first | assumption | exact yo _ | refine yp ?_ _)) only [go_sem]; with_reducible rfl))))
    exact fin_1 rfl
  ((repeat (first | refine ya (by (with_reducible constructor) <;> first | rfl | decide) ?_ | apply yb | refine yc rfl ?_ | ((first | apply yd | apply ye); simp (disch := first | exact yn | omega | (simp only [go_sem]; done) | (simp only [ln, ym]; omega) | (repeat' first | assumption | exact yo _ | refine yp ?_ _)) only [go_sem, dec_t hf]; with_reducible rfl))))
  refine cond_f rfl ?_
  ((repeat (first | refine ya (by (with_reducible constructor) <;> first | rfl | decide) ?_ | apply yb | refine yc rfl ?_ | ((first | apply yd | apply ye); simp (disch := first | exact yn | omega | (simp only [go_sem]; done) | (simp only [ln, ym]; omega) | (repeat' first | assumption | exact yo _ | refine yp ?_ _)) only [go_sem, n1_at g0]; with_reducible rfl))))
  (refine aops_call_to (copyMap_c k0 (by omega)) ?_)
  have hC : Pairs (G ++ [.cells true 2 (flatP l)]) l (.slice (some ⟨G.length, 0, none⟩) l.length l.length) := Pairs.last l.length
  have x1 : Ext G (G ++ [AObj.cells true 2 (flatP l)]) := (Ext.refl G).app _
  ((repeat (first | refine ya (by (with_reducible constructor) <;> first | rfl | decide) ?_ | apply yb | refine yc rfl ?_ | ((first | apply yd | apply ye); simp (disch := first | exact yn | omega | (simp only [go_sem]; done) | (simp only [ln, ym]; omega) | (repeat' first | assumption | exact yo _ | refine yp ?_ _)) only [go_sem]; with_reducible rfl))))
  generalize (G ++ [AObj.cells true 2 (flatP l)] : AHeap) = G1 at hC x1
  (refine aops_call_to (rateAt_c (i := i) hi64 hC (by omega)) ?_)
  have g1 := x1.cell g0
  have k1 := k0.ext x1
  obtain ⟨r, hr⟩ : ∃ r, rateL l i = r := ⟨_, rfl⟩
  rw [hr]
  ((repeat (first | refine ya (by (with_reducible constructor) <;> first | rfl | decide) ?_ | apply yb | refine yc rfl ?_ | ((first | apply yd | apply ye); simp (disch := first | exact yn | omega | (simp only [go_sem]; done) | (simp only [ln, ym]; omega) | (repeat' first | assumption | exact yo _ | refine yp ?_ _)) only [go_sem, store_newF]; with_reducible rfl))))
  have c5 : (G1 ++ [AObj.cells true 0 [.int .i64 r.1.1, .int .i64 r.1.2]])[G1.length]? = some (.cells true 0 [.int .i64 r.1.1, .int .i64 r.1.2]) := at_new
  have g2 := at_app (N := [AObj.cells true 0 [.int .i64 r.1.1, .int .i64 r.1.2]]) g1
  have k2 := k1.ext ((Ext.refl G1).app [AObj.cells true 0 [.int .i64 r.1.1, .int .i64 r.1.2]])
  generalize (G1 ++ [AObj.cells true 0 [.int .i64 r.1.1, .int .i64 r.1.2]] : AHeap) = G2 at c5 g2 k2
  ((repeat (first | refine ya (by (with_reducible constructor) <;> first | rfl | decide) ?_ | apply yb | refine yc rfl ?_ | ((first | apply yd | apply ye); simp (disch := first | exact yn | omega | (simp only [go_sem]; done) | (simp only [ln, ym]; omega) | (repeat' first | assumption | exact yo _ | refine yp ?_ _)) only [go_sem, n1_at g2]; with_reducible rfl))))
  (refine aops_call_to (copyMap_c k2 (by omega)) ?_)
  have hC2 : Pairs (G2 ++ [.cells true 2 (flatP l)]) l (.slice (some ⟨G2.length, 0, none⟩) l.length l.length) := Pairs.last l.length
  have x3 : Ext G2 (G2 ++ [AObj.cells true 2 (flatP l)]) := (Ext.refl G2).app _
  ((repeat (first | refine ya (by (with_reducible constructor) <;> first | rfl | decide) ?_ | apply yb | refine yc rfl ?_ | ((first | apply yd | apply ye); simp (disch := first | exact yn | omega | (simp only [go_sem]; done) | (simp only [ln, ym]; omega) | (repeat' first | assumption | exact yo _ | refine yp ?_ _)) only [go_sem]; with_reducible rfl))))
  generalize (G2 ++ [AObj.cells true 2 (flatP l)] : AHeap) = G3 at hC2 x3
  (refine aops_call_to (wowOf_c hC2 (by omega)) ?_)
  have g3 := x3.cell g2
  have c5 := x3.cell c5
  have k3 := k2.ext x3
  obtain ⟨u, hu⟩ : ∃ u, wowL l = u := ⟨_, rfl⟩
  rw [hu]
  ((repeat (first | refine ya (by (with_reducible constructor) <;> first | rfl | decide) ?_ | apply yb | refine yc rfl ?_ | ((first | apply yd | apply ye); simp (disch := first | exact yn | omega | (simp only [go_sem]; done) | (simp only [ln, ym]; omega) | (repeat' first | assumption | exact yo _ | refine yp ?_ _)) only [go_sem, store_newF]; with_reducible rfl))))
  have c7 : (G3 ++ [AObj.cells true 0 [.int .i64 u.1.1, .int .i64 u.1.2]])[G3.length]? = some (.cells true 0 [.int .i64 u.1.1, .int .i64 u.1.2]) := at_new
  have g4 := at_app (N := [AObj.cells true 0 [.int .i64 u.1.1, .int .i64 u.1.2]]) g3
  have c5 := at_app (N := [AObj.cells true 0 [.int .i64 u.1.1, .int .i64 u.1.2]]) c5
  have k4 := k3.ext ((Ext.refl G3).app [AObj.cells true 0 [.int .i64 u.1.1, .int .i64 u.1.2]])
  generalize (G3 ++ [AObj.cells true 0 [.int .i64 u.1.1, .int .i64 u.1.2]] : AHeap) = G4 at c5 c7 g4 k4
  ((repeat (first | refine ya (by (with_reducible constructor) <;> first | rfl | decide) ?_ | apply yb | refine yc rfl ?_ | ((first | apply yd | apply ye); simp (disch := first | exact yn | omega | (simp only [go_sem]; done) | (simp only [ln, ym]; omega) | (repeat' first | assumption | exact yo _ | refine yp ?_ _)) only [go_sem, n1_at g4]; with_reducible rfl))))
  (refine aops_call_to (rMapErr_c k4 (by omega)) ?_)
  ((repeat (first | refine ya (by (with_reducible constructor) <;> first | rfl | decide) ?_ | apply yb | refine yc rfl ?_ | ((first | apply yd | apply ye); simp (disch := first | exact yn | omega | (simp only [go_sem]; done) | (simp only [ln, ym]; omega) | (repeat' first | assumption | exact yo _ | refine yp ?_ _)) only [go_sem]; with_reducible rfl))))
  refine cond_p (p := mapErrL l ≠ 0) rfl (fun he => ?_) (fun he => ?_)
  · have er : rateL l i = ((0, 0), mapErrL l) := by
      have e1 : rateE l i = mapErrL l := firstErr_e he _
      unfold rateL; rw [e1, if_pos he]
    have eu : wowL l = ((0, 0), 0, mapErrL l) := by unfold wowL; rw [if_pos he]
    rw [er] at hr
    rw [eu] at hu
    subst hr; subst hu
    ((repeat (first | refine ya (by (with_reducible constructor) <;> first | rfl | decide) ?_ | apply yb | refine yc rfl ?_ | ((first | apply yd | apply ye); simp (disch := first | exact yn | omega | (simp only [go_sem]; done) | (simp only [ln, ym]; omega) | (repeat' first | assumption | exact yo _ | refine yp ?_ _)) only [go_sem, n2_at c5, n2_at c7, fill_none, fbt, decide_eq_self]; with_reducible rfl))))
    exact fin_1 rfl
  have hz := Decidable.not_not.1 he
  have hok := mapErr_ok hz
  have h02 := hok.lo
  ((repeat (first | refine ya (by (with_reducible constructor) <;> first | rfl | decide) ?_ | apply yb | refine yc rfl ?_ | ((first | apply yd | apply ye); simp (disch := first | exact yn | omega | (simp only [go_sem]; done) | (simp only [ln, ym]; omega) | (repeat' first | assumption | exact yo _ | refine yp ?_ _)) only [go_sem, n1_at g4]; with_reducible rfl))))
  (refine aops_call_to (rWowOf_c k4 hok) ?_)
  obtain ⟨f, hfw⟩ : ∃ f, lowF (wowTo l l.length).1 ((chordL l).2.1 - (chordL l).1.1) = f := ⟨_, rfl⟩
  have ewd : wowD l = if 1000000000 < f.1 then ((0, 0), 8) else (f, 0) := by rw [← hfw]; rfl
  have eu : wowL l = if (wowD l).2 ≠ 0 then ((0, 0), 0, (wowD l).2) else ((wowD l).1, ((wowTo l l.length).2 : Int), 0) := by unfold wowL; rw [if_neg he]
  rw [hfw]
  ((repeat (first | refine ya (by (with_reducible constructor) <;> first | rfl | decide) ?_ | apply yb | refine yc rfl ?_)); (first | apply aops_all | apply adraw_all); simp (disch := first | exact yn | omega | (simp only [go_sem]; done) | (simp only [ln, ym]; omega) | (repeat' first | assumption | exact yo _ | refine yp ?_ _)) only [go_sem, store_newF]; with_reducible rfl)
  (repeat (first | refine q8 ?_ | refine q1 ?_))
  have c11 : (G4 ++ [AObj.cells true 0 [.int .i64 f.1, .int .i64 f.2]])[G4.length]? = some (.cells true 0 [.int .i64 f.1, .int .i64 f.2]) := at_new
  have x5 : Ext G4 (G4 ++ [AObj.cells true 0 [.int .i64 f.1, .int .i64 f.2]]) := (Ext.refl G4).app _
  generalize (G4 ++ [AObj.cells true 0 [.int .i64 f.1, .int .i64 f.2]] : AHeap) = G5 at c11 x5
  have g5 := x5.cell g4
  have c5 := x5.cell c5
  have c7 := x5.cell c7
  have k5 := k4.ext x5
  refine awp_mid [false, true, true, false, true, true, true, false, false, false, false, false, false, false, false, false, false, false, false, false, false, false, false, false, false, false, false, false, false, false, false, false, false, false, false, false, false, false, false, false, false, false, false, false, false, false, false, false, false, false, false, false, false, false, false, false, false, false, false, false, false, false, false, false, false, false, false, false, false, false, false, false, false, false, false, false, false, false, false, false, false, false, false, false, false, false, false, false, false, false, false, false, false, false, false, false, false, false, true, false, false, false, false, false, false, false, false, false, false, false, false, false, false, false, false, false, false, false, false, false, false, false, false, false, false, false, false, false, false, false, false, false, false, false, false] (fun e J => J = G5 ∧ e = [junk, .int .i64 i, .pointer (some ⟨H.length, 0, none⟩), junk, .bool false, .pointer (some ⟨G1.length, 0, none⟩), .int .i64 r.2, junk, junk, junk, junk, junk, junk, junk, junk, junk, junk, junk, junk, junk, junk, junk, junk, junk, junk, junk, junk, junk, junk, junk, junk, junk, junk, junk, junk, junk, junk, junk, junk, junk, junk, junk, junk, junk, junk, junk, junk, junk, junk, junk, junk, junk, junk, junk, junk, junk, junk, junk, junk, junk, junk, junk, junk, junk, junk, junk, junk, junk, junk, junk, junk, junk, junk, junk, junk, junk, junk, junk, junk, junk, junk, junk, junk, junk, junk, junk, junk, junk, junk, junk, junk, junk, junk, junk, junk, junk, junk, junk, .bool false, junk, junk, junk, junk, junk, junk, junk, junk, junk, junk, junk, junk, junk, junk, junk, junk, junk, junk, junk, junk, junk, junk, junk, junk, junk, junk, junk, junk, junk, junk, junk, junk, junk, junk, junk, junk]) ?_ ?_
  · by_cases hg : 1000000000 < f.1
    · rw [if_pos hg] at ewd
      rw [ewd, if_pos (by decide)] at eu
      rw [eu] at hu
      subst hu
      ((repeat (first | refine ya (by (with_reducible constructor) <;> first | rfl | decide) ?_ | apply yb | refine yc rfl ?_ | ((first | apply yd | apply ye); simp (disch := first | exact yn | omega | (simp only [go_sem]; done) | (simp only [ln, ym]; omega) | (repeat' first | assumption | exact yo _ | refine yp ?_ _)) only [go_sem, dec_f (show ¬ f.1 ≤ 1000000000 by omega), zn88, n2_at c7, fill_none, decide_eq_self, bne_self_eq_false]; with_reducible rfl))))
      exact ⟨rfl, rfl, by simp [forget]⟩
    · rw [if_neg hg] at ewd
      rw [ewd, if_neg (show ¬ ((0 : Int) ≠ 0) from fun h => h rfl)] at eu
      rw [eu] at hu
      subst hu
      ((repeat (first | refine ya (by (with_reducible constructor) <;> first | rfl | decide) ?_ | apply yb | refine yc rfl ?_ | ((first | apply yd | apply ye); simp (disch := first | exact yn | omega | (simp only [go_sem]; done) | (simp only [ln, ym]; omega) | (repeat' first | assumption | exact yo _ | refine yp ?_ _)) only [go_sem, dec_t (show f.1 ≤ 1000000000 by omega), n2_at c7, n2_at c11, decide_eq_self, bne_self_eq_false]; with_reducible rfl))))
      exact ⟨rfl, rfl, by simp [forget]⟩
  rintro e J ⟨rfl, rfl⟩
  ((repeat (first | refine ya (by (with_reducible constructor) <;> first | rfl | decide) ?_ | apply yb | refine yc rfl ?_ | ((first | apply yd | apply ye); simp (disch := first | exact yn | omega | (simp only [go_sem]; done) | (simp only [ln, ym]; omega) | (repeat' first | assumption | exact yo _ | refine yp ?_ _)) only [go_sem]; with_reducible rfl))))
  refine cond_f rfl ?_
  ((repeat (first | refine ya (by (with_reducible constructor) <;> first | rfl | decide) ?_ | apply yb | refine yc rfl ?_ | ((first | apply yd | apply ye); simp (disch := first | exact yn | omega | (simp only [go_sem]; done) | (simp only [ln, ym]; omega) | (repeat' first | assumption | exact yo _ | refine yp ?_ _)) only [go_sem, k5.len, k5.idx, k5.load, load_at g5]; with_reducible rfl))))
  (refine aops_call_to (bwithin_c _ _ _) ?_)
  by_cases hi : 0 ≤ i ∧ i ≤ (l.length : Int) - 2
  rotate_left 1
  · have er : rateL l i = ((0, 0), 6) := by
      have e1 : rateE l i = 6 := by unfold rateE; rw [hz, firstErr_z, if_neg hi, firstErr_e (by decide)]
      unfold rateL; rw [e1, if_pos (by decide)]
    rw [er] at hr
    subst hr
    ((repeat (first | refine ya (by (with_reducible constructor) <;> first | rfl | decide) ?_ | apply yb | refine yc rfl ?_ | ((first | apply yd | apply ye); simp (disch := first | exact yn | omega | (simp only [go_sem]; done) | (simp only [ln, ym]; omega) | (repeat' first | assumption | exact yo _ | refine yp ?_ _)) only [go_sem, dec_f hi]; with_reducible rfl))))
    refine cond_t rfl ?_
    ((repeat (first | refine ya (by (with_reducible constructor) <;> first | rfl | decide) ?_ | apply yb | refine yc rfl ?_ | ((first | apply yd | apply ye); simp (disch := first | exact yn | omega | (simp only [go_sem]; done) | (simp only [ln, ym]; omega) | (repeat' first | assumption | exact yo _ | refine yp ?_ _)) only [go_sem, z66, n2_at c5, fill_none, fbt, decide_eq_self]; with_reducible rfl))))
    exact fin_1 rfl
  obtain ⟨n, rfl⟩ : ∃ n : Nat, i = (n : Int) := ⟨i.toNat, by omega⟩
  have er : rateL l (n : Int) = lowS (rateT l n) (rateP l n) := by
    have e1 : rateE l (n : Int) = 0 := by unfold rateE; rw [hz, firstErr_z, if_pos hi, firstErr_z]; rfl
    unfold rateL; rw [e1, if_neg (by decide), Int.toNat_natCast]
  rw [er] at hr
  ((repeat (first | refine ya (by (with_reducible constructor) <;> first | rfl | decide) ?_ | apply yb | refine yc rfl ?_ | ((first | apply yd | apply ye); simp (disch := first | exact yn | omega | (simp only [go_sem]; done) | (simp only [ln, ym]; omega) | (repeat' first | assumption | exact yo _ | refine yp ?_ _)) only [go_sem, dec_t hi]; with_reducible rfl))))
  refine cond_f rfl ?_
  ((repeat (first | refine ya (by (with_reducible constructor) <;> first | rfl | decide) ?_ | apply yb | refine yc rfl ?_ | ((first | apply yd | apply ye); simp (disch := first | exact yn | omega | (simp only [go_sem]; done) | (simp only [ln, ym]; omega) | (repeat' first | assumption | exact yo _ | refine yp ?_ _)) only [go_sem, n1_at g5]; with_reducible rfl))))
  (refine aops_call_to (rRateAt_c k5 hok (by omega)) ?_)
  have es : lowS (rateT l n) (rateP l n) = if 1000000000 < (lowF (rateT l n) (rateP l n)).1 then ((0, 0), 8) else (lowF (rateT l n) (rateP l n), 0) := rfl
  rw [es] at hr
  generalize lowF (rateT l n) (rateP l n) = w at *
  have c14 : (J ++ [AObj.cells true 0 [.int .i64 w.1, .int .i64 w.2]])[J.length]? = some (.cells true 0 [.int .i64 w.1, .int .i64 w.2]) := at_new
  have c5 := at_app (N := [AObj.cells true 0 [.int .i64 w.1, .int .i64 w.2]]) c5
  by_cases hg : 1000000000 < w.1
  · rw [if_pos hg] at hr
    subst hr
    ((repeat (first | refine ya (by (with_reducible constructor) <;> first | rfl | decide) ?_ | apply yb | refine yc rfl ?_ | ((first | apply yd | apply ye); simp (disch := first | exact yn | omega | (simp only [go_sem]; done) | (simp only [ln, ym]; omega) | (repeat' first | assumption | exact yo _ | refine yp ?_ _)) only [go_sem, store_newF, dec_f (show ¬ w.1 ≤ 1000000000 by omega)]; with_reducible rfl))))
    refine cond_t rfl ?_
    ((repeat (first | refine ya (by (with_reducible constructor) <;> first | rfl | decide) ?_ | apply yb | refine yc rfl ?_ | ((first | apply yd | apply ye); simp (disch := first | exact yn | omega | (simp only [go_sem]; done) | (simp only [ln, ym]; omega) | (repeat' first | assumption | exact yo _ | refine yp ?_ _)) only [go_sem, z88, n2_at c5, fill_none, fbt, decide_eq_self]; with_reducible rfl))))
    exact fin_1 rfl
  · rw [if_neg hg] at hr
    subst hr
    ((repeat (first | refine ya (by (with_reducible constructor) <;> first | rfl | decide) ?_ | apply yb | refine yc rfl ?_ | ((first | apply yd | apply ye); simp (disch := first | exact yn | omega | (simp only [go_sem]; done) | (simp only [ln, ym]; omega) | (repeat' first | assumption | exact yo _ | refine yp ?_ _)) only [go_sem, store_newF, dec_t (show w.1 ≤ 1000000000 by omega)]; with_reducible rfl))))
    refine cond_f rfl ?_
    ((repeat (first | refine ya (by (with_reducible constructor) <;> first | rfl | decide) ?_ | apply yb | refine yc rfl ?_ | ((first | apply yd | apply ye); simp (disch := first | exact yn | omega | (simp only [go_sem]; done) | (simp only [ln, ym]; omega) | (repeat' first | assumption | exact yo _ | refine yp ?_ _)) only [go_sem, n2_at c5, n2_at c14, fbt, decide_eq_self]; with_reducible rfl))))
    exact fin_1 rfl
end Go.Lq

namespace Go.Lq
open Go Go.ChangeShapes Go.WideShapes Go.ChangeAt Go.RowKit
open Go.Proofs

set_option maxRecDepth 100000 in
theorem lifted4 (os : Os) (started : os.Started) (X : Type) (enc : TypeId × Value → X) :
    ReturnsInHanded {} Try.checked os 4 .any (Yteimgikhanhgiaa.Rows.speedRatesSpec.pre6 enc Try.prog Try.f4 [] false) (Yteimgikhanhgiaa.Rows.speedRatesSpec.post enc Try.prog Try.f4 false true false false) := by
  refine returnsInHanded_of_plain_shaped (C := Try.checked) own_knob started (by kernel_rfl) Try.func4
    (ChangeSpec.witness6 (enc := enc) (C := Try.checked) false ⟨#[], #[.agg #[.slice none 0 0], .int .i64 0], []⟩ 12 (by kernel_rfl) (by kernel_rfl) (by kernel_rfl) (by kernel_rfl)) ?_
  intro W base args ds gs before hsh hval hW
  have hWw := hW
  obtain ⟨p, q, hA, _⟩ := hW
  refine (calls_of_law (d := 20) (of_shaped hsh) globs glob_at hA (fun j t v h1 h2 => hval j t v (by simpa using h1) (by simpa using h2)) (by kernel_rfl) fun H avs hx h => ?_).mono fun e W' ⟨he, hB⟩ => ?_
  · exact law4 (by rw [show Try.f4.params = #[42, 3] from Try.params4] at h; exact h)
  · subst he
    exact ⟨_, rfl, law_post (bt := 4) laid_out rfl Try.underlying4 (by kernel_rfl) (by kernel_rfl) hWw (fun ds hd => by
      rw [show Try.f4.params = #[42, 3] from Try.params4] at hd
      match ds, hd with
      | [a, b], _ => rfl) hB⟩
theorem unf4 : Try.prog.unfollowed 4 = true := by kernel_rfl
theorem rec4 : Try.prog.recurses 4 = true := by kernel_rfl
theorem named4 : Try.prog.varsNamed 4 = Yteimgikhanhgiaa.Rows.speedRatesRow.named := by kernel_rfl
theorem facts4 : joinedFacts Try.prog 4 Try.f4 Yteimgikhanhgiaa.Rows.speedRatesSpec Yteimgikhanhgiaa.Rows.speedRatesRow = true := by
  unfold joinedFacts
  rw [may_enter, stops_heard, maps_rowed, laid_out, lifts_final, make_is, unf4, rec4, named4]
  kernel_rfl
theorem holds4 : Yteimgikhanhgiaa.Rows.SpeedRatesSaid :=
  OpenClaim.holds_of_wide 4 Try.f4 rfl rfl rfl rfl rfl rfl rfl ⟨rfl, rfl, rfl, rfl, rfl⟩ rfl rfl rfl rfl rfl (by kernel_rfl) Try.func4 facts4
    (of_decide_eq_true (by kernel_rfl)) (by unfold Func.isWrapper; first | (rw [if_pos (by decide +kernel)]; kernel_rfl) | (rw [if_neg (by decide +kernel)]; exact ⟨rfl, rfl⟩))
    (fun os started H enc _ => lifted4 os started H enc)
end Go.Lq
namespace Go.Proofs.Yteimgikhanhgiaa
open Go Go.Lq
theorem speedRates_proved : Rows.SpeedRatesSaid := holds4
end Go.Proofs.Yteimgikhanhgiaa
