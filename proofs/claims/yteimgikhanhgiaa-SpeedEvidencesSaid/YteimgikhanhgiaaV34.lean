/- SpeedEvidences is proved: for every input that can be read the law returns true, and each argument reads afterwards as it read before; nothing is asked of package variables. -/
import Derived.Test.YteimgikhanhgiaaV33
set_option linter.unusedSimpArgs false
set_option linter.unnecessarySimpa false
set_option linter.unusedVariables false
set_option maxRecDepth 100000
namespace Go.Lq
open Go
open Go.Proofs

theorem enc_e {L : Int × Int} {M : List Mark} {q : Int} (h : evErrL L M ≠ 0) : encAtL L M q = ((0, 0), evErrL L M) := by
  unfold encAtL; rw [firstErr_e h, if_pos h]
theorem enc_q {L : Int × Int} {M : List Mark} {q : Int} (h : evErrL L M = 0) (hq : ¬ (0 ≤ q ∧ q ≤ 1000000)) : encAtL L M q = ((0, 0), 2) := by
  unfold encAtL; rw [h, firstErr_z, if_neg hq, firstErr_e (by decide), if_pos (by decide)]
theorem enc_n {L : Int × Int} {M : List Mark} {q : Int} (h : evErrL L M = 0) (hq : 0 ≤ q ∧ q ≤ 1000000) (h0 : ¬ 0 < M.length) : encAtL L M q = ((0, 0), 12) := by
  unfold encAtL; rw [h, firstErr_z, if_pos hq, firstErr_z, if_neg h0, firstErr_e (by decide), if_pos (by decide)]
theorem enc_z {L : Int × Int} {M : List Mark} {q : Int} (h : evErrL L M = 0) (hq : 0 ≤ q ∧ q ≤ 1000000) (h0 : 0 < M.length) : encAtL L M q = if clashL L M = none then (encTo L M q M.length, 0) else ((0, 0), 13) := by
  unfold encAtL; rw [h, firstErr_z, if_pos hq, firstErr_z, if_pos h0, firstErr_z, firstErr_nil, if_neg (by decide)]

theorem dz2 : decide ((2 : Int) = 0) = false := by decide
theorem dz12 : decide ((12 : Int) = 0) = false := by decide
theorem ne2 : decide ((2 : Int) ≠ 0) = true := by decide
theorem ne12 : decide ((12 : Int) ≠ 0) = true := by decide
theorem ne13 : decide ((13 : Int) ≠ 0) = true := by decide

set_option maxRecDepth 100000 in
set_option maxHeartbeats 4000000 in
theorem law3 {H : AHeap} {avs : List Value} (h : RepAll Try.prog H [26, 3] avs) : ACall Try.prog 3 avs H fun v _ => v = .bool true := by
  obtain ⟨a, b, rfl, h1, h2⟩ := h.two
  obtain ⟨L, M, s, rfl, hl, hlm⟩ := repEv h1
  obtain ⟨q, rfl, _⟩ := h2.int Try.underlying3
  have e0 : Value.agg ⟨[.int .i64 L.1, .int .i64 L.2, s]⟩ = evV L s := rfl
  rw [e0]
  (refine a3 ?_; simp only [n3, List.replicate, yq, yr, yt, yu]; first | refine q1 ?_ | refine q2 ?_ | refine q6 ?_ | refine q7 ?_ | refine qh rfl ?_ | skip)
  have g0 : (H ++ [AObj.cells true 0 (evC L s)])[H.length]? = some (.cells true 0 (evC L s)) := at_new
  have xG : Ext H (H ++ [AObj.cells true 0 (evC L s)]) := (Ext.refl H).app _
  (repeat (first | refine ya (by (with_reducible constructor) <;> first | rfl | decide) ?_ | (apply yd; simp (disch := first | exact yn | omega | (simp only [go_sem]; done) | (simp only [ln, ym]; omega) | (repeat' first | assumption | exact yo _ | refine yp ?_ _)) only [go_sem, box_ev hl.atom]; with_reducible rfl)))
  generalize (H ++ [AObj.cells true 0 (evC L s)] : AHeap) = G at g0 xG
  have k0 := hl.ext xG
  ((repeat (first | refine ya (by (with_reducible constructor) <;> first | rfl | decide) ?_ | apply yb | refine yc rfl ?_ | ((first | apply yd | apply ye); simp (disch := first | exact yn | omega | (simp only [go_sem]; done) | (simp only [ln, ym]; omega) | (repeat' first | assumption | exact yo _ | refine yp ?_ _)) only [go_sem]; with_reducible rfl))))
  (refine aops_call_to (awake_c) ?_)
  ((repeat (first | refine ya (by (with_reducible constructor) <;> first | rfl | decide) ?_ | apply yb | refine yc rfl ?_ | ((first | apply yd | apply ye); simp (disch := first | exact yn | omega | (simp only [go_sem]; done) | (simp only [ln, ym]; omega) | (repeat' first | assumption | exact yo _ | refine yp ?_ _)) only [go_sem]; with_reducible rfl))))
  refine cond_f rfl ?_
  ((repeat (first | refine ya (by (with_reducible constructor) <;> first | rfl | decide) ?_ | apply yb | refine yc rfl ?_ | ((first | apply yd | apply ye); simp (disch := first | exact yn | omega | (simp only [go_sem]; done) | (simp only [ln, ym]; omega) | (repeat' first | assumption | exact yo _ | refine yp ?_ _)) only [go_sem, load_ev g0]; with_reducible rfl))))
  (refine aops_call_to (fewMarks_c k0) ?_)
  by_cases hf : M.length ≤ 14
  rotate_left 1
  · ((repeat (first | refine ya (by (with_reducible constructor) <;> first | rfl | decide) ?_ | apply yb | refine yc rfl ?_ | ((first | apply yd | apply ye); simp (disch := first | exact yn | omega | (simp only [go_sem]; done) | (simp only [ln, ym]; omega) | (repeat' first | assumption | exact yo _ | refine yp ?_ _)) only [go_sem, dec_f hf]; with_reducible rfl))))
    refine cond_t rfl ?_
    ((repeat (first | refine ya (by (with_reducible constructor) <;> first | rfl | decide) ?_ | apply yb | refine yc rfl ?_ | ((first | apply yd | apply ye); simp (disch := first | exact yn | omega | (simp only [go_sem]; done) | (simp only [ln, ym]; omega) | (repeat' first | assumption | exact yo _ | refine yp ?_ _)) only [go_sem]; with_reducible rfl))))
    exact fin_1 rfl
  ((repeat (first | refine ya (by (with_reducible constructor) <;> first | rfl | decide) ?_ | apply yb | refine yc rfl ?_ | ((first | apply yd | apply ye); simp (disch := first | exact yn | omega | (simp only [go_sem]; done) | (simp only [ln, ym]; omega) | (repeat' first | assumption | exact yo _ | refine yp ?_ _)) only [go_sem, dec_t hf]; with_reducible rfl))))
  refine cond_f rfl ?_
  ((repeat (first | refine ya (by (with_reducible constructor) <;> first | rfl | decide) ?_ | apply yb | refine yc rfl ?_ | ((first | apply yd | apply ye); simp (disch := first | exact yn | omega | (simp only [go_sem]; done) | (simp only [ln, ym]; omega) | (repeat' first | assumption | exact yo _ | refine yp ?_ _)) only [go_sem, load_ev g0]; with_reducible rfl))))
  (refine aops_call_to (copyEv_c k0 (by omega)) ?_)
  have hC : Tris (G ++ [.cells true 3 (flat3 M)]) M (.slice (some ⟨G.length, 0, none⟩) M.length M.length) := Tris.last M.length
  have x1 : Ext G (G ++ [AObj.cells true 3 (flat3 M)]) := (Ext.refl G).app _
  ((repeat (first | refine ya (by (with_reducible constructor) <;> first | rfl | decide) ?_ | apply yb | refine yc rfl ?_ | ((first | apply yd | apply ye); simp (disch := first | exact yn | omega | (simp only [go_sem]; done) | (simp only [ln, ym]; omega) | (repeat' first | assumption | exact yo _ | refine yp ?_ _)) only [go_sem]; with_reducible rfl))))
  generalize (G ++ [AObj.cells true 3 (flat3 M)] : AHeap) = G1 at hC x1
  (refine aops_call_to (checkEv_c hC (by omega)) ?_)
  have g1 := x1.cell g0
  have k1 := k0.ext x1
  ((repeat (first | refine ya (by (with_reducible constructor) <;> first | rfl | decide) ?_ | apply yb | refine yc rfl ?_ | ((first | apply yd | apply ye); simp (disch := first | exact yn | omega | (simp only [go_sem]; done) | (simp only [ln, ym]; omega) | (repeat' first | assumption | exact yo _ | refine yp ?_ _)) only [go_sem, load_ev g1]; with_reducible rfl))))
  (refine aops_call_to (copyEv_c k1 (by omega)) ?_)
  have hC2 : Tris (G1 ++ [.cells true 3 (flat3 M)]) M (.slice (some ⟨G1.length, 0, none⟩) M.length M.length) := Tris.last M.length
  have x2 : Ext G1 (G1 ++ [AObj.cells true 3 (flat3 M)]) := (Ext.refl G1).app _
  ((repeat (first | refine ya (by (with_reducible constructor) <;> first | rfl | decide) ?_ | apply yb | refine yc rfl ?_ | ((first | apply yd | apply ye); simp (disch := first | exact yn | omega | (simp only [go_sem]; done) | (simp only [ln, ym]; omega) | (repeat' first | assumption | exact yo _ | refine yp ?_ _)) only [go_sem]; with_reducible rfl))))
  generalize (G1 ++ [AObj.cells true 3 (flat3 M)] : AHeap) = G2 at hC2 x2
  (refine aops_call_to (encAt_c hC2 (by omega)) ?_)
  have g2 := x2.cell g1
  have k2 := k1.ext x2
  obtain ⟨r, hr⟩ : ∃ r, encAtL L M q = r := ⟨_, rfl⟩
  rw [hr]
  ((repeat (first | refine ya (by (with_reducible constructor) <;> first | rfl | decide) ?_ | apply yb | refine yc rfl ?_ | ((first | apply yd | apply ye); simp (disch := first | exact yn | omega | (simp only [go_sem]; done) | (simp only [ln, ym]; omega) | (repeat' first | assumption | exact yo _ | refine yp ?_ _)) only [go_sem, store_newF]; with_reducible rfl))))
  have c7 : (G2 ++ [AObj.cells true 0 [.int .i64 r.1.1, .int .i64 r.1.2]])[G2.length]? = some (.cells true 0 [.int .i64 r.1.1, .int .i64 r.1.2]) := at_new
  have g3 := at_app (N := [AObj.cells true 0 [.int .i64 r.1.1, .int .i64 r.1.2]]) g2
  have k3 := k2.ext ((Ext.refl G2).app [AObj.cells true 0 [.int .i64 r.1.1, .int .i64 r.1.2]])
  generalize (G2 ++ [AObj.cells true 0 [.int .i64 r.1.1, .int .i64 r.1.2]] : AHeap) = G3 at c7 g3 k3
  ((repeat (first | refine ya (by (with_reducible constructor) <;> first | rfl | decide) ?_ | apply yb | refine yc rfl ?_ | ((first | apply yd | apply ye); simp (disch := first | exact yn | omega | (simp only [go_sem]; done) | (simp only [ln, ym]; omega) | (repeat' first | assumption | exact yo _ | refine yp ?_ _)) only [go_sem, load_ev g3]; with_reducible rfl))))
  (refine aops_call_to (rCheckEv_c k3 (by omega)) ?_)
  have ee : (ckEv L M).2 = evErrL L M := rfl
  rw [ee]
  ((repeat (first | refine ya (by (with_reducible constructor) <;> first | rfl | decide) ?_ | apply yb | refine yc rfl ?_ | ((first | apply yd | apply ye); simp (disch := first | exact yn | omega | (simp only [go_sem]; done) | (simp only [ln, ym]; omega) | (repeat' first | assumption | exact yo _ | refine yp ?_ _)) only [go_sem]; with_reducible rfl))))
  refine cond_f rfl ?_
  by_cases he : evErrL L M = 0
  rotate_left 1
  · rw [enc_e he] at hr
    subst hr
    ((repeat (first | refine ya (by (with_reducible constructor) <;> first | rfl | decide) ?_ | apply yb | refine yc rfl ?_ | ((first | apply yd | apply ye); simp (disch := first | exact yn | omega | (simp only [go_sem]; done) | (simp only [ln, ym]; omega) | (repeat' first | assumption | exact yo _ | refine yp ?_ _)) only [go_sem, dec_f he]; with_reducible rfl))))
    refine cond_f rfl ?_
    ((repeat (first | refine ya (by (with_reducible constructor) <;> first | rfl | decide) ?_ | apply yb | refine yc rfl ?_ | ((first | apply yd | apply ye); simp (disch := first | exact yn | omega | (simp only [go_sem]; done) | (simp only [ln, ym]; omega) | (repeat' first | assumption | exact yo _ | refine yp ?_ _)) only [go_sem, dec_f he]; with_reducible rfl))))
    refine cond_f rfl ?_
    ((repeat (first | refine ya (by (with_reducible constructor) <;> first | rfl | decide) ?_ | apply yb | refine yc rfl ?_ | ((first | apply yd | apply ye); simp (disch := first | exact yn | omega | (simp only [go_sem]; done) | (simp only [ln, ym]; omega) | (repeat' first | assumption | exact yo _ | refine yp ?_ _)) only [go_sem, dec_f he]; with_reducible rfl))))
    refine cond_f rfl ?_
    ((repeat (first | refine ya (by (with_reducible constructor) <;> first | rfl | decide) ?_ | apply yb | refine yc rfl ?_ | ((first | apply yd | apply ye); simp (disch := first | exact yn | omega | (simp only [go_sem]; done) | (simp only [ln, ym]; omega) | (repeat' first | assumption | exact yo _ | refine yp ?_ _)) only [go_sem, dec_t (show evErrL L M ≠ 0 from he)]; with_reducible rfl))))
    refine cond_t rfl ?_
    ((repeat (first | refine ya (by (with_reducible constructor) <;> first | rfl | decide) ?_ | apply yb | refine yc rfl ?_ | ((first | apply yd | apply ye); simp (disch := first | exact yn | omega | (simp only [go_sem]; done) | (simp only [ln, ym]; omega) | (repeat' first | assumption | exact yo _ | refine yp ?_ _)) only [go_sem, n2_at c7, fill_none, fbt]; with_reducible rfl))))
    exact fin_1 rfl
  have hk := evErr_ok he
  rw [he]
  ((repeat (first | refine ya (by (with_reducible constructor) <;> first | rfl | decide) ?_ | apply yb | refine yc rfl ?_ | ((first | apply yd | apply ye); simp (disch := first | exact yn | omega | (simp only [go_sem]; done) | (simp only [ln, ym]; omega) | (repeat' first | assumption | exact yo _ | refine yp ?_ _)) only [go_sem]; with_reducible rfl))))
  (refine aops_call_to (bwithin_c _ _ _) ?_)
  by_cases hq : 0 ≤ q ∧ q ≤ 1000000
  rotate_left 1
  · rw [enc_q he hq] at hr
    subst hr
    ((repeat (first | refine ya (by (with_reducible constructor) <;> first | rfl | decide) ?_ | apply yb | refine yc rfl ?_ | ((first | apply yd | apply ye); simp (disch := first | exact yn | omega | (simp only [go_sem]; done) | (simp only [ln, ym]; omega) | (repeat' first | assumption | exact yo _ | refine yp ?_ _)) only [go_sem, dec_f hq]; with_reducible rfl))))
    refine cond_t rfl ?_
    ((repeat (first | refine ya (by (with_reducible constructor) <;> first | rfl | decide) ?_ | apply yb | refine yc rfl ?_ | ((first | apply yd | apply ye); simp (disch := first | exact yn | omega | (simp only [go_sem]; done) | (simp only [ln, ym]; omega) | (repeat' first | assumption | exact yo _ | refine yp ?_ _)) only [go_sem, dz2]; with_reducible rfl))))
    refine cond_f rfl ?_
    ((repeat (first | refine ya (by (with_reducible constructor) <;> first | rfl | decide) ?_ | apply yb | refine yc rfl ?_ | ((first | apply yd | apply ye); simp (disch := first | exact yn | omega | (simp only [go_sem]; done) | (simp only [ln, ym]; omega) | (repeat' first | assumption | exact yo _ | refine yp ?_ _)) only [go_sem, dz2]; with_reducible rfl))))
    refine cond_f rfl ?_
    ((repeat (first | refine ya (by (with_reducible constructor) <;> first | rfl | decide) ?_ | apply yb | refine yc rfl ?_ | ((first | apply yd | apply ye); simp (disch := first | exact yn | omega | (simp only [go_sem]; done) | (simp only [ln, ym]; omega) | (repeat' first | assumption | exact yo _ | refine yp ?_ _)) only [go_sem, ne2]; with_reducible rfl))))
    refine cond_t rfl ?_
    ((repeat (first | refine ya (by (with_reducible constructor) <;> first | rfl | decide) ?_ | apply yb | refine yc rfl ?_ | ((first | apply yd | apply ye); simp (disch := first | exact yn | omega | (simp only [go_sem]; done) | (simp only [ln, ym]; omega) | (repeat' first | assumption | exact yo _ | refine yp ?_ _)) only [go_sem, n2_at c7, fill_none, fbt]; with_reducible rfl))))
    exact fin_1 rfl
  ((repeat (first | refine ya (by (with_reducible constructor) <;> first | rfl | decide) ?_ | apply yb | refine yc rfl ?_ | ((first | apply yd | apply ye); simp (disch := first | exact yn | omega | (simp only [go_sem]; done) | (simp only [ln, ym]; omega) | (repeat' first | assumption | exact yo _ | refine yp ?_ _)) only [go_sem, dec_t hq]; with_reducible rfl))))
  refine cond_f rfl ?_
  by_cases h0 : 0 < M.length
  rotate_left 1
  · rw [enc_n he hq h0] at hr
    subst hr
    ((repeat (first | refine ya (by (with_reducible constructor) <;> first | rfl | decide) ?_ | apply yb | refine yc rfl ?_ | ((first | apply yd | apply ye); simp (disch := first | exact yn | omega | (simp only [go_sem]; done) | (simp only [ln, ym]; omega) | (repeat' first | assumption | exact yo _ | refine yp ?_ _)) only [go_sem, k3.len, k3.idx, k3.load, load_at g3, evC, dec_t (show ((M.length : Nat) : Int) = 0 by omega)]; with_reducible rfl))))
    refine cond_t rfl ?_
    ((repeat (first | refine ya (by (with_reducible constructor) <;> first | rfl | decide) ?_ | apply yb | refine yc rfl ?_ | ((first | apply yd | apply ye); simp (disch := first | exact yn | omega | (simp only [go_sem]; done) | (simp only [ln, ym]; omega) | (repeat' first | assumption | exact yo _ | refine yp ?_ _)) only [go_sem, dz12]; with_reducible rfl))))
    refine cond_f rfl ?_
    ((repeat (first | refine ya (by (with_reducible constructor) <;> first | rfl | decide) ?_ | apply yb | refine yc rfl ?_ | ((first | apply yd | apply ye); simp (disch := first | exact yn | omega | (simp only [go_sem]; done) | (simp only [ln, ym]; omega) | (repeat' first | assumption | exact yo _ | refine yp ?_ _)) only [go_sem, ne12]; with_reducible rfl))))
    refine cond_t rfl ?_
    ((repeat (first | refine ya (by (with_reducible constructor) <;> first | rfl | decide) ?_ | apply yb | refine yc rfl ?_ | ((first | apply yd | apply ye); simp (disch := first | exact yn | omega | (simp only [go_sem]; done) | (simp only [ln, ym]; omega) | (repeat' first | assumption | exact yo _ | refine yp ?_ _)) only [go_sem, n2_at c7, fill_none, fbt]; with_reducible rfl))))
    exact fin_1 rfl
  rw [enc_z he hq h0] at hr
  ((repeat (first | refine ya (by (with_reducible constructor) <;> first | rfl | decide) ?_ | apply yb | refine yc rfl ?_ | ((first | apply yd | apply ye); simp (disch := first | exact yn | omega | (simp only [go_sem]; done) | (simp only [ln, ym]; omega) | (repeat' first | assumption | exact yo _ | refine yp ?_ _)) only [go_sem, k3.len, k3.idx, k3.load, load_at g3, evC, dec_f (show ¬ ((M.length : Nat) : Int) = 0 by omega)]; with_reducible rfl))))
  refine cond_f rfl ?_
  ((repeat (first | refine ya (by (with_reducible constructor) <;> first | rfl | decide) ?_ | apply yb | refine yc rfl ?_ | ((first | apply yd | apply ye); simp (disch := first | exact yn | omega | (simp only [go_sem]; done) | (simp only [ln, ym]; omega) | (repeat' first | assumption | exact yo _ | refine yp ?_ _)) only [go_sem, load_ev g3]; with_reducible rfl))))
  (refine aops_call_to (rIsPossible_c k3 hk) ?_)
  by_cases hc : clashL L M = none
  rotate_left 1
  · rw [if_neg hc] at hr
    subst hr
    ((repeat (first | refine ya (by (with_reducible constructor) <;> first | rfl | decide) ?_ | apply yb | refine yc rfl ?_ | ((first | apply yd | apply ye); simp (disch := first | exact yn | omega | (simp only [go_sem]; done) | (simp only [ln, ym]; omega) | (repeat' first | assumption | exact yo _ | refine yp ?_ _)) only [go_sem, dec_f hc]; with_reducible rfl))))
    refine cond_t rfl ?_
    ((repeat (first | refine ya (by (with_reducible constructor) <;> first | rfl | decide) ?_ | apply yb | refine yc rfl ?_ | ((first | apply yd | apply ye); simp (disch := first | exact yn | omega | (simp only [go_sem]; done) | (simp only [ln, ym]; omega) | (repeat' first | assumption | exact yo _ | refine yp ?_ _)) only [go_sem, ne13]; with_reducible rfl))))
    refine cond_t rfl ?_
    ((repeat (first | refine ya (by (with_reducible constructor) <;> first | rfl | decide) ?_ | apply yb | refine yc rfl ?_ | ((first | apply yd | apply ye); simp (disch := first | exact yn | omega | (simp only [go_sem]; done) | (simp only [ln, ym]; omega) | (repeat' first | assumption | exact yo _ | refine yp ?_ _)) only [go_sem, n2_at c7, fill_none, fbt]; with_reducible rfl))))
    exact fin_1 rfl
  rw [if_pos hc] at hr
  subst hr
  ((repeat (first | refine ya (by (with_reducible constructor) <;> first | rfl | decide) ?_ | apply yb | refine yc rfl ?_ | ((first | apply yd | apply ye); simp (disch := first | exact yn | omega | (simp only [go_sem]; done) | (simp only [ln, ym]; omega) | (repeat' first | assumption | exact yo _ | refine yp ?_ _)) only [go_sem, dec_t hc]; with_reducible rfl))))
  refine cond_f rfl ?_
  ((repeat (first | refine ya (by (with_reducible constructor) <;> first | rfl | decide) ?_ | apply yb | refine yc rfl ?_ | ((first | apply yd | apply ye); simp (disch := first | exact yn | omega | (simp only [go_sem]; done) | (simp only [ln, ym]; omega) | (repeat' first | assumption | exact yo _ | refine yp ?_ _)) only [go_sem]; with_reducible rfl))))
  refine cond_f rfl ?_
  ((repeat (first | refine ya (by (with_reducible constructor) <;> first | rfl | decide) ?_ | apply yb | refine yc rfl ?_ | ((first | apply yd | apply ye); simp (disch := first | exact yn | omega | (simp only [go_sem]; done) | (simp only [ln, ym]; omega) | (repeat' first | assumption | exact yo _ | refine yp ?_ _)) only [go_sem, n2_at c7, load_ev g3]; with_reducible rfl))))
  (refine adraw_call (N := []) (firstD (rEnclosure_c k3 hk h0 hq)) ?_; rw [List.append_nil])
  ((repeat (first | refine ya (by (with_reducible constructor) <;> first | rfl | decide) ?_ | apply yb | refine yc rfl ?_ | ((first | apply yd | apply ye); simp (disch := first | exact yn | omega | (simp only [go_sem]; done) | (simp only [ln, ym]; omega) | (repeat' first | assumption | exact yo _ | refine yp ?_ _)) only [go_sem, fracV, fbt, decide_eq_self]; with_reducible rfl))))
  exact fin_1 rfl
end Go.Lq

namespace Go.Lq
open Go Go.ChangeShapes Go.WideShapes Go.ChangeAt Go.RowKit
open Go.Proofs

set_option maxRecDepth 100000 in
theorem lifted3 (os : Os) (started : os.Started) (X : Type) (enc : TypeId × Value → X) :
    ReturnsInHanded {} Try.checked os 3 .any (Yteimgikhanhgiaa.Rows.speedEvidencesSpec.pre6 enc Try.prog Try.f3 [] false) (Yteimgikhanhgiaa.Rows.speedEvidencesSpec.post enc Try.prog Try.f3 false true false false) := by
  refine returnsInHanded_of_plain_shaped (C := Try.checked) own_knob started (by kernel_rfl) Try.func3
    (ChangeSpec.witness6 (enc := enc) (C := Try.checked) false ⟨#[], #[.agg #[.int .i64 0, .int .i64 0, .slice none 0 0], .int .i64 0], []⟩ 12 (by kernel_rfl) (by kernel_rfl) (by kernel_rfl) (by kernel_rfl)) ?_
  intro W base args ds gs before hsh hval hW
  have hWw := hW
  obtain ⟨p, q, hA, _⟩ := hW
  refine (calls_of_law (d := 20) (of_shaped hsh) globs glob_at hA (fun j t v h1 h2 => hval j t v (by simpa using h1) (by simpa using h2)) (by kernel_rfl) fun H avs hx h => ?_).mono fun e W' ⟨he, hB⟩ => ?_
  · exact law3 (by rw [show Try.f3.params = #[26, 3] from Try.params3] at h; exact h)
  · subst he
    exact ⟨_, rfl, law_post (bt := 4) laid_out rfl Try.underlying4 (by kernel_rfl) (by kernel_rfl) hWw (fun ds hd => by
      rw [show Try.f3.params = #[26, 3] from Try.params3] at hd
      match ds, hd with
      | [a, b], _ => rfl) hB⟩
theorem unf3 : Try.prog.unfollowed 3 = true := by kernel_rfl
theorem rec3 : Try.prog.recurses 3 = true := by kernel_rfl
theorem named3 : Try.prog.varsNamed 3 = Yteimgikhanhgiaa.Rows.speedEvidencesRow.named := by kernel_rfl
theorem facts3 : joinedFacts Try.prog 3 Try.f3 Yteimgikhanhgiaa.Rows.speedEvidencesSpec Yteimgikhanhgiaa.Rows.speedEvidencesRow = true := by
  unfold joinedFacts
  rw [may_enter, stops_heard, maps_rowed, laid_out, lifts_final, make_is, unf3, rec3, named3]
  kernel_rfl
theorem holds3 : Yteimgikhanhgiaa.Rows.SpeedEvidencesSaid :=
  OpenClaim.holds_of_wide 3 Try.f3 rfl rfl rfl rfl rfl rfl rfl ⟨rfl, rfl, rfl, rfl, rfl⟩ rfl rfl rfl rfl rfl (by kernel_rfl) Try.func3 facts3
    (of_decide_eq_true (by kernel_rfl)) (by unfold Func.isWrapper; first | (rw [if_pos (by decide +kernel)]; kernel_rfl) | (rw [if_neg (by decide +kernel)]; exact ⟨rfl, rfl⟩))
    (fun os started H enc _ => lifted3 os started H enc)
end Go.Lq
namespace Go.Proofs.Yteimgikhanhgiaa
open Go Go.Lq
theorem speedEvidences_proved : Rows.SpeedEvidencesSaid := holds3
end Go.Proofs.Yteimgikhanhgiaa
