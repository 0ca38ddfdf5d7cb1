/- ResampleBetween is proved: for every input that can be read the law returns true, and each argument reads afterwards as it read before; the listed package variables hold what the program's text lays (the card ties them). -/
import Derived.Test.YtlcfgealkjomnaaDoorV63
set_option linter.unusedSimpArgs false
set_option linter.unnecessarySimpa false
set_option linter.unusedVariables false
set_option maxRecDepth 100000
namespace Go.Lq
open Go
open Go.Proofs

theorem ratio_E {num den step : Int} {n : Nat} : firstErr [(if decide ((1 ≤ num ∧ num ≤ 1000) ∧ (1 ≤ den ∧ den ≤ 1000)) = true then 0 else 2), (if decide (step = 0 ∧ (n : Int) = 0) = true then 0 else 3)] = ratioErrL num den step n := by
  unfold ratioErrL
  simp only [decide_eq_true_eq]
theorem curve_E {l : List (Int × Int)} {num den step : Int} : firstErr [mapErrL l, (if decide (1 ≤ step ∧ step ≤ 1000000000000) = true then 0 else 2), (if decide (num = 0 ∧ den = 0) = true then 0 else 3)] = curveErrL l step num den := by
  unfold curveErrL
  simp only [decide_eq_true_eq]
section
variable {H : AHeap} {kind deg num den step : Int} {l : List (Int × Int)} {v : Value}
set_option maxHeartbeats 4000000 in
theorem checkRules_c (hl : Pairs H l v) (hb : l.length ≤ 1000000000) : ACall Go.Proofs.Tryd.prog 33 [rulesV kind deg num den step v] H fun w H' => w = .int .i64 (rulesErrL kind deg num den step l) ∧ H' = H := by
  refine ACall.drop (.int _ _) ?_
  (refine a33 ?_; simp only [n33, List.replicate, List.length_cons, List.length_nil, List.cons_append, List.nil_append]; first | refine q1 ?_ | refine q2 ?_ | refine q6 ?_ | refine q7 ?_ | refine qh rfl ?_ | skip)
  have g0 : (H ++ [AObj.cells true 0 (rulesC kind deg num den step v)])[H.length]? = some (.cells true 0 (rulesC kind deg num den step v)) := at_new
  have xG : Ext H (H ++ [AObj.cells true 0 (rulesC kind deg num den step v)]) := (Ext.refl H).app _
  (repeat (first | refine ya (by (with_reducible constructor) <;> first | rfl | decide) ?_ | (apply yd; simp (disch := first | exact List.all_nil | omega | (simp only [go_sem]; done) | (simp only [ln, List.length_map]; omega) | (repeat' first | assumption | exact Ext.refl _ | refine Ext.app ?_ _)) only [go_sem, box_rules hl.atom]; with_reducible rfl)))
  generalize (H ++ [AObj.cells true 0 (rulesC kind deg num den step v)] : AHeap) = G at g0 xG
  have hl1 := hl.ext xG
  ((repeat (first | refine ya (by (with_reducible constructor) <;> first | rfl | decide) ?_ | apply yb | refine yc rfl ?_ | ((first | apply yd | apply ye); simp (disch := first | exact List.all_nil | omega | (simp only [go_sem]; done) | (simp only [ln, List.length_map]; omega) | (repeat' first | assumption | exact Ext.refl _ | refine Ext.app ?_ _)) only [go_sem, load_at g0, rulesC]; with_reducible rfl))))
  refine adraw_call (N := []) (firstD (within_c _ _ _)) ?_
  rw [List.append_nil]
  ((repeat (first | refine ya (by (with_reducible constructor) <;> first | rfl | decide) ?_ | apply yb | refine yc rfl ?_ | ((first | apply yd | apply ye); simp (disch := first | exact List.all_nil | omega | (simp only [go_sem]; done) | (simp only [ln, List.length_map]; omega) | (repeat' first | assumption | exact Ext.refl _ | refine Ext.app ?_ _)) only [go_sem]; with_reducible rfl))))
  refine adraw_call (N := []) (firstD (unless_c _ _)) ?_
  rw [List.append_nil]
  ((repeat (first | refine ya (by (with_reducible constructor) <;> first | rfl | decide) ?_ | apply yb | refine yc rfl ?_ | ((first | apply yd | apply ye); simp (disch := first | exact List.all_nil | omega | (simp only [go_sem]; done) | (simp only [ln, List.length_map]; omega) | (repeat' first | assumption | exact Ext.refl _ | refine Ext.app ?_ _)) only [go_sem, load_at g0, rulesC]; with_reducible rfl))))
  refine adraw_call (N := []) (firstD (degreeErr_c _)) ?_
  rw [List.append_nil]
  ((repeat (first | refine ya (by (with_reducible constructor) <;> first | rfl | decide) ?_ | apply yb | refine yc rfl ?_ | ((first | apply yd | apply ye); simp (disch := first | exact List.all_nil | omega | (simp only [go_sem]; done) | (simp only [ln, List.length_map]; omega) | (repeat' first | assumption | exact Ext.refl _ | refine Ext.app ?_ _)) only [go_sem]; with_reducible rfl))))
  refine adraw_call (N := []) (firstD (first_c (l := [_, _]) (Ints.last (l := [_, _]) 2) (by simp))) ?_
  rw [List.append_nil]
  by_cases hk : 0 ≤ kind ∧ kind ≤ 1
  rotate_left 1
  · have ev : rulesErrL kind deg num den step l = 15 := by unfold rulesErrL; rw [if_neg hk]
    rw [ev]
    ((repeat (first | refine ya (by (with_reducible constructor) <;> first | rfl | decide) ?_ | apply yb | refine yc rfl ?_ | ((first | apply yd | apply ye); simp (disch := first | exact List.all_nil | omega | (simp only [go_sem]; done) | (simp only [ln, List.length_map]; omega) | (repeat' first | assumption | exact Ext.refl _ | refine Ext.app ?_ _)) only [go_sem, dec_f hk, ite_ft, firstErr_e (show (15 : Int) ≠ 0 by decide)]; with_reducible rfl))))
    refine cond_t rfl ?_
    ((repeat (first | refine ya (by (with_reducible constructor) <;> first | rfl | decide) ?_ | apply yb | refine yc rfl ?_ | ((first | apply yd | apply ye); simp (disch := first | exact List.all_nil | omega | (simp only [go_sem]; done) | (simp only [ln, List.length_map]; omega) | (repeat' first | assumption | exact Ext.refl _ | refine Ext.app ?_ _)) only [go_sem]; with_reducible rfl))))
    exact fin_1 ⟨rfl, xG.app _⟩
  by_cases hd : degErrL deg = 0
  rotate_left 1
  · have ev : rulesErrL kind deg num den step l = degErrL deg := by unfold rulesErrL; rw [if_pos hk, if_neg hd]
    rw [ev]
    ((repeat (first | refine ya (by (with_reducible constructor) <;> first | rfl | decide) ?_ | apply yb | refine yc rfl ?_ | ((first | apply yd | apply ye); simp (disch := first | exact List.all_nil | omega | (simp only [go_sem]; done) | (simp only [ln, List.length_map]; omega) | (repeat' first | assumption | exact Ext.refl _ | refine Ext.app ?_ _)) only [go_sem, dec_t hk, ite_tt, firstErr_z, firstErr_e hd, dec_t (show degErrL deg ≠ 0 from hd)]; with_reducible rfl))))
    refine cond_t rfl ?_
    ((repeat (first | refine ya (by (with_reducible constructor) <;> first | rfl | decide) ?_ | apply yb | refine yc rfl ?_ | ((first | apply yd | apply ye); simp (disch := first | exact List.all_nil | omega | (simp only [go_sem]; done) | (simp only [ln, List.length_map]; omega) | (repeat' first | assumption | exact Ext.refl _ | refine Ext.app ?_ _)) only [go_sem]; with_reducible rfl))))
    exact fin_1 ⟨rfl, xG.app _⟩
  ((repeat (first | refine ya (by (with_reducible constructor) <;> first | rfl | decide) ?_ | apply yb | refine yc rfl ?_ | ((first | apply yd | apply ye); simp (disch := first | exact List.all_nil | omega | (simp only [go_sem]; done) | (simp only [ln, List.length_map]; omega) | (repeat' first | assumption | exact Ext.refl _ | refine Ext.app ?_ _)) only [go_sem, dec_t hk, ite_tt, firstErr_z, hd, firstErr_nil]; with_reducible rfl))))
  refine cond_f rfl ?_
  have x2 : Ext G (G ++ [AObj.cells true 1 [.int .i64 0, .int .i64 0]]) := (Ext.refl G).app _
  generalize (G ++ [AObj.cells true 1 [.int .i64 0, .int .i64 0]] : AHeap) = G2 at x2
  have xH2 := xG.trans x2
  have k0 := x2.cell g0
  have hl2 := hl.ext xH2
  by_cases h0 : kind = 0
  · have ev : rulesErrL kind deg num den step l = ratioErrL num den step l.length := by unfold rulesErrL; rw [if_pos hk, if_pos hd, if_pos h0]
    rw [ev, ← ratio_E]
    ((repeat (first | refine ya (by (with_reducible constructor) <;> first | rfl | decide) ?_ | apply yb | refine yc rfl ?_ | ((first | apply yd | apply ye); simp (disch := first | exact List.all_nil | omega | (simp only [go_sem]; done) | (simp only [ln, List.length_map]; omega) | (repeat' first | assumption | exact Ext.refl _ | refine Ext.app ?_ _)) only [go_sem, load_at k0, rulesC, dec_t h0]; with_reducible rfl))))
    refine cond_t rfl ?_
    ((repeat (first | refine ya (by (with_reducible constructor) <;> first | rfl | decide) ?_ | apply yb | refine yc rfl ?_ | ((first | apply yd | apply ye); simp (disch := first | exact List.all_nil | omega | (simp only [go_sem]; done) | (simp only [ln, List.length_map]; omega) | (repeat' first | assumption | exact Ext.refl _ | refine Ext.app ?_ _)) only [go_sem, load_at k0, rulesC]; with_reducible rfl))))
    refine adraw_call (N := []) (firstD (checkRules1_c _)) ?_
    rw [List.append_nil]
    by_cases hn : 1 ≤ num ∧ num ≤ 1000
    · ((repeat (first | refine ya (by (with_reducible constructor) <;> first | rfl | decide) ?_ | apply yb | refine yc rfl ?_ | ((first | apply yd | apply ye); simp (disch := first | exact List.all_nil | omega | (simp only [go_sem]; done) | (simp only [ln, List.length_map]; omega) | (repeat' first | assumption | exact Ext.refl _ | refine Ext.app ?_ _)) only [go_sem, dec_t hn, load_at k0, rulesC]; with_reducible rfl))))
      refine adraw_call (N := []) (firstD (checkRules1_c _)) ?_
      rw [List.append_nil]
      ((repeat (first | refine ya (by (with_reducible constructor) <;> first | rfl | decide) ?_ | apply yb | refine yc rfl ?_ | ((first | apply yd | apply ye); simp (disch := first | exact List.all_nil | omega | (simp only [go_sem]; done) | (simp only [ln, List.length_map]; omega) | (repeat' first | assumption | exact Ext.refl _ | refine Ext.app ?_ _)) only [go_sem, dec_t hn]; with_reducible rfl))))
      refine adraw_call (N := []) (firstD (unless_c _ _)) ?_
      rw [List.append_nil]
      by_cases hs : step = 0
      · ((repeat (first | refine ya (by (with_reducible constructor) <;> first | rfl | decide) ?_ | apply yb | refine yc rfl ?_ | ((first | apply yd | apply ye); simp (disch := first | exact List.all_nil | omega | (simp only [go_sem]; done) | (simp only [ln, List.length_map]; omega) | (repeat' first | assumption | exact Ext.refl _ | refine Ext.app ?_ _)) only [go_sem, hl2.len, hl2.idx, hl2.load, load_at k0, rulesC, dec_t hs]; with_reducible rfl))))
        refine adraw_call (N := []) (firstD (unless_c _ _)) ?_
        rw [List.append_nil]
        ((repeat (first | refine ya (by (with_reducible constructor) <;> first | rfl | decide) ?_ | apply yb | refine yc rfl ?_ | ((first | apply yd | apply ye); simp (disch := first | exact List.all_nil | omega | (simp only [go_sem]; done) | (simp only [ln, List.length_map]; omega) | (repeat' first | assumption | exact Ext.refl _ | refine Ext.app ?_ _)) only [go_sem]; with_reducible rfl))))
        refine adraw_call (N := []) (firstD (first_c (l := [_, _]) (Ints.last (l := [_, _]) 2) (by simp))) ?_
        rw [List.append_nil]
        ((repeat (first | refine ya (by (with_reducible constructor) <;> first | rfl | decide) ?_ | apply yb | refine yc rfl ?_ | ((first | apply yd | apply ye); simp (disch := first | exact List.all_nil | omega | (simp only [go_sem]; done) | (simp only [ln, List.length_map]; omega) | (repeat' first | assumption | exact Ext.refl _ | refine Ext.app ?_ _)) only [go_sem]; with_reducible rfl))))
        exact fin_1 ⟨by simp [hn, hs], xH2.app _⟩
      · ((repeat (first | refine ya (by (with_reducible constructor) <;> first | rfl | decide) ?_ | apply yb | refine yc rfl ?_ | ((first | apply yd | apply ye); simp (disch := first | exact List.all_nil | omega | (simp only [go_sem]; done) | (simp only [ln, List.length_map]; omega) | (repeat' first | assumption | exact Ext.refl _ | refine Ext.app ?_ _)) only [go_sem, hl2.len, hl2.idx, hl2.load, load_at k0, rulesC, dec_f hs]; with_reducible rfl))))
        refine adraw_call (N := []) (firstD (unless_c _ _)) ?_
        rw [List.append_nil]
        ((repeat (first | refine ya (by (with_reducible constructor) <;> first | rfl | decide) ?_ | apply yb | refine yc rfl ?_ | ((first | apply yd | apply ye); simp (disch := first | exact List.all_nil | omega | (simp only [go_sem]; done) | (simp only [ln, List.length_map]; omega) | (repeat' first | assumption | exact Ext.refl _ | refine Ext.app ?_ _)) only [go_sem]; with_reducible rfl))))
        refine adraw_call (N := []) (firstD (first_c (l := [_, _]) (Ints.last (l := [_, _]) 2) (by simp))) ?_
        rw [List.append_nil]
        ((repeat (first | refine ya (by (with_reducible constructor) <;> first | rfl | decide) ?_ | apply yb | refine yc rfl ?_ | ((first | apply yd | apply ye); simp (disch := first | exact List.all_nil | omega | (simp only [go_sem]; done) | (simp only [ln, List.length_map]; omega) | (repeat' first | assumption | exact Ext.refl _ | refine Ext.app ?_ _)) only [go_sem]; with_reducible rfl))))
        exact fin_1 ⟨by simp [hn, hs], xH2.app _⟩
    · ((repeat (first | refine ya (by (with_reducible constructor) <;> first | rfl | decide) ?_ | apply yb | refine yc rfl ?_ | ((first | apply yd | apply ye); simp (disch := first | exact List.all_nil | omega | (simp only [go_sem]; done) | (simp only [ln, List.length_map]; omega) | (repeat' first | assumption | exact Ext.refl _ | refine Ext.app ?_ _)) only [go_sem, dec_f hn]; with_reducible rfl))))
      refine adraw_call (N := []) (firstD (unless_c _ _)) ?_
      rw [List.append_nil]
      by_cases hs : step = 0
      · ((repeat (first | refine ya (by (with_reducible constructor) <;> first | rfl | decide) ?_ | apply yb | refine yc rfl ?_ | ((first | apply yd | apply ye); simp (disch := first | exact List.all_nil | omega | (simp only [go_sem]; done) | (simp only [ln, List.length_map]; omega) | (repeat' first | assumption | exact Ext.refl _ | refine Ext.app ?_ _)) only [go_sem, hl2.len, hl2.idx, hl2.load, load_at k0, rulesC, dec_t hs]; with_reducible rfl))))
        refine adraw_call (N := []) (firstD (unless_c _ _)) ?_
        rw [List.append_nil]
        ((repeat (first | refine ya (by (with_reducible constructor) <;> first | rfl | decide) ?_ | apply yb | refine yc rfl ?_ | ((first | apply yd | apply ye); simp (disch := first | exact List.all_nil | omega | (simp only [go_sem]; done) | (simp only [ln, List.length_map]; omega) | (repeat' first | assumption | exact Ext.refl _ | refine Ext.app ?_ _)) only [go_sem]; with_reducible rfl))))
        refine adraw_call (N := []) (firstD (first_c (l := [_, _]) (Ints.last (l := [_, _]) 2) (by simp))) ?_
        rw [List.append_nil]
        ((repeat (first | refine ya (by (with_reducible constructor) <;> first | rfl | decide) ?_ | apply yb | refine yc rfl ?_ | ((first | apply yd | apply ye); simp (disch := first | exact List.all_nil | omega | (simp only [go_sem]; done) | (simp only [ln, List.length_map]; omega) | (repeat' first | assumption | exact Ext.refl _ | refine Ext.app ?_ _)) only [go_sem]; with_reducible rfl))))
        exact fin_1 ⟨by simp [hn, hs, firstErr], xH2.app _⟩
      · ((repeat (first | refine ya (by (with_reducible constructor) <;> first | rfl | decide) ?_ | apply yb | refine yc rfl ?_ | ((first | apply yd | apply ye); simp (disch := first | exact List.all_nil | omega | (simp only [go_sem]; done) | (simp only [ln, List.length_map]; omega) | (repeat' first | assumption | exact Ext.refl _ | refine Ext.app ?_ _)) only [go_sem, hl2.len, hl2.idx, hl2.load, load_at k0, rulesC, dec_f hs]; with_reducible rfl))))
        refine adraw_call (N := []) (firstD (unless_c _ _)) ?_
        rw [List.append_nil]
        ((repeat (first | refine ya (by (with_reducible constructor) <;> first | rfl | decide) ?_ | apply yb | refine yc rfl ?_ | ((first | apply yd | apply ye); simp (disch := first | exact List.all_nil | omega | (simp only [go_sem]; done) | (simp only [ln, List.length_map]; omega) | (repeat' first | assumption | exact Ext.refl _ | refine Ext.app ?_ _)) only [go_sem]; with_reducible rfl))))
        refine adraw_call (N := []) (firstD (first_c (l := [_, _]) (Ints.last (l := [_, _]) 2) (by simp))) ?_
        rw [List.append_nil]
        ((repeat (first | refine ya (by (with_reducible constructor) <;> first | rfl | decide) ?_ | apply yb | refine yc rfl ?_ | ((first | apply yd | apply ye); simp (disch := first | exact List.all_nil | omega | (simp only [go_sem]; done) | (simp only [ln, List.length_map]; omega) | (repeat' first | assumption | exact Ext.refl _ | refine Ext.app ?_ _)) only [go_sem]; with_reducible rfl))))
        exact fin_1 ⟨by simp [hn, hs, firstErr], xH2.app _⟩
  have ev : rulesErrL kind deg num den step l = curveErrL l step num den := by unfold rulesErrL; rw [if_pos hk, if_pos hd, if_neg h0]
  rw [ev, ← curve_E]
  ((repeat (first | refine ya (by (with_reducible constructor) <;> first | rfl | decide) ?_ | apply yb | refine yc rfl ?_ | ((first | apply yd | apply ye); simp (disch := first | exact List.all_nil | omega | (simp only [go_sem]; done) | (simp only [ln, List.length_map]; omega) | (repeat' first | assumption | exact Ext.refl _ | refine Ext.app ?_ _)) only [go_sem, load_at k0, rulesC, dec_f h0]; with_reducible rfl))))
  refine cond_f rfl ?_
  ((repeat (first | refine ya (by (with_reducible constructor) <;> first | rfl | decide) ?_ | apply yb | refine yc rfl ?_ | ((first | apply yd | apply ye); simp (disch := first | exact List.all_nil | omega | (simp only [go_sem]; done) | (simp only [ln, List.length_map]; omega) | (repeat' first | assumption | exact Ext.refl _ | refine Ext.app ?_ _)) only [go_sem, load_map k0]; with_reducible rfl))))
  refine aops_call_to (spCheckMap_c hl2 hb) ?_
  have em : (ckMap l).2 = mapErrL l := rfl
  rw [em]
  ((repeat (first | refine ya (by (with_reducible constructor) <;> first | rfl | decide) ?_ | apply yb | refine yc rfl ?_ | ((first | apply yd | apply ye); simp (disch := first | exact List.all_nil | omega | (simp only [go_sem]; done) | (simp only [ln, List.length_map]; omega) | (repeat' first | assumption | exact Ext.refl _ | refine Ext.app ?_ _)) only [go_sem, load_at k0, rulesC]; with_reducible rfl))))
  refine adraw_call (N := []) (firstD (within_c _ _ _)) ?_
  rw [List.append_nil]
  ((repeat (first | refine ya (by (with_reducible constructor) <;> first | rfl | decide) ?_ | apply yb | refine yc rfl ?_ | ((first | apply yd | apply ye); simp (disch := first | exact List.all_nil | omega | (simp only [go_sem]; done) | (simp only [ln, List.length_map]; omega) | (repeat' first | assumption | exact Ext.refl _ | refine Ext.app ?_ _)) only [go_sem]; with_reducible rfl))))
  refine adraw_call (N := []) (firstD (unless_c _ _)) ?_
  rw [List.append_nil]
  by_cases hs : num = 0
  · ((repeat (first | refine ya (by (with_reducible constructor) <;> first | rfl | decide) ?_ | apply yb | refine yc rfl ?_ | ((first | apply yd | apply ye); simp (disch := first | exact List.all_nil | omega | (simp only [go_sem]; done) | (simp only [ln, List.length_map]; omega) | (repeat' first | assumption | exact Ext.refl _ | refine Ext.app ?_ _)) only [go_sem, load_at k0, rulesC, dec_t hs]; with_reducible rfl))))
    refine adraw_call (N := []) (firstD (unless_c _ _)) ?_
    rw [List.append_nil]
    ((repeat (first | refine ya (by (with_reducible constructor) <;> first | rfl | decide) ?_ | apply yb | refine yc rfl ?_ | ((first | apply yd | apply ye); simp (disch := first | exact List.all_nil | omega | (simp only [go_sem]; done) | (simp only [ln, List.length_map]; omega) | (repeat' first | assumption | exact Ext.refl _ | refine Ext.app ?_ _)) only [go_sem]; with_reducible rfl))))
    refine adraw_call (N := []) (firstD (first_c (l := [_, _, _]) (Ints.last (l := [_, _, _]) 3) (by simp))) ?_
    rw [List.append_nil]
    ((repeat (first | refine ya (by (with_reducible constructor) <;> first | rfl | decide) ?_ | apply yb | refine yc rfl ?_ | ((first | apply yd | apply ye); simp (disch := first | exact List.all_nil | omega | (simp only [go_sem]; done) | (simp only [ln, List.length_map]; omega) | (repeat' first | assumption | exact Ext.refl _ | refine Ext.app ?_ _)) only [go_sem]; with_reducible rfl))))
    exact fin_1 ⟨by simp [hs], xH2.app _⟩
  · ((repeat (first | refine ya (by (with_reducible constructor) <;> first | rfl | decide) ?_ | apply yb | refine yc rfl ?_ | ((first | apply yd | apply ye); simp (disch := first | exact List.all_nil | omega | (simp only [go_sem]; done) | (simp only [ln, List.length_map]; omega) | (repeat' first | assumption | exact Ext.refl _ | refine Ext.app ?_ _)) only [go_sem, load_at k0, rulesC, dec_f hs]; with_reducible rfl))))
    refine adraw_call (N := []) (firstD (unless_c _ _)) ?_
    rw [List.append_nil]
    ((repeat (first | refine ya (by (with_reducible constructor) <;> first | rfl | decide) ?_ | apply yb | refine yc rfl ?_ | ((first | apply yd | apply ye); simp (disch := first | exact List.all_nil | omega | (simp only [go_sem]; done) | (simp only [ln, List.length_map]; omega) | (repeat' first | assumption | exact Ext.refl _ | refine Ext.app ?_ _)) only [go_sem]; with_reducible rfl))))
    refine adraw_call (N := []) (firstD (first_c (l := [_, _, _]) (Ints.last (l := [_, _, _]) 3) (by simp))) ?_
    rw [List.append_nil]
    ((repeat (first | refine ya (by (with_reducible constructor) <;> first | rfl | decide) ?_ | apply yb | refine yc rfl ?_ | ((first | apply yd | apply ye); simp (disch := first | exact List.all_nil | omega | (simp only [go_sem]; done) | (simp only [ln, List.length_map]; omega) | (repeat' first | assumption | exact Ext.refl _ | refine Ext.app ?_ _)) only [go_sem]; with_reducible rfl))))
    exact fin_1 ⟨by simp [hs], xH2.app _⟩
end
end Go.Lq

namespace Go.Lq
open Go
open Go.Proofs

def GenX (P : Program) (f : FuncId) (xs ys : List Value) (Fact : AHeap → Prop) (items : List (List Value)) (inf : Bool) : Prop :=
  ∀ (l : Nat) (I : List (List Value) → AHeap → Prop) (S : AHeap → Prop) (H : AHeap), (∀ rest H, I rest H → Fact H) → (∀ rest H N, I rest H → I rest (H ++ N)) → (inf = true → ∀ H, ¬ I [] H) →
    (∀ a rest H, I (a :: rest) H → ARound P l a H fun v H' => (v = .bool true ∧ I rest H') ∨ (v = .bool false ∧ S H')) → I items H → ACall P f (xs ++ [.func (.yield l) #[] #[]] ++ ys) H fun _ H' => I [] H' ∨ S H'
section
variable {P : Program} {ar : Option Nat} {g : Operand} {f : FuncId} {xs ys : List Value} {ps : List Nat} {assign body : RCode} {Q : AExit → Env → AHeap → Prop} {env : Env} {H : AHeap} {Fact : AHeap → Prop} {items : List (List Value)} {inf : Bool}
theorem awp_rangeX (hm : P.follows .mixedOrders = true) (hg : evalA env g = .func (.func f) ⟨xs⟩ ⟨ys⟩) (har : ∀ l, ar = some l → ∃ r, H[l]? = some (.loop r)) (hgen : GenX P f xs ys Fact items inf)
    (J : List (List Value) → AHeap → Prop) (S : AExit → AHeap → Prop) (hJ : ∀ rest H' c, J rest H' → J rest (H'.set H.length c)) (hS : ∀ x H' c, S x H' → S x (H'.set H.length c)) (hF : ∀ rest H', J rest H' → Fact H')
    (happ : ∀ rest H' N, J rest H' → J rest (H' ++ N)) (hinf : inf = true → ∀ H', ¬ J [] H')
    (h0 : ∀ N, J items (H ++ N))
    (hbody : ∀ a rest H1, J (a :: rest) H1 → H.length < H1.length → a.length = ps.length ∧ Round P H.length assign body (assignParams env ps a) H1 (J rest) S)
    (hend : ∀ H', J [] H' → Q .normal env H') (hstop : ∀ x H', x ≠ .normal → S x H' → Q x env H') : AWP P ar (.rangeFunc g ps assign body) Q env H := by
  refine awp_rangeFunc hg har ?_
  show ACall P f _ (H ++ [.loop (recOf env ps assign body)]) _
  refine (hgen H.length (fun rest H' => J rest H' ∧ H'[H.length]? = some (.loop (recOf env ps assign body)))
    (fun H' => ∃ x, x ≠ .normal ∧ S x H' ∧ H'[H.length]? = some (.loop { recOf env ps assign body with state := .done, pending := some x })) _ (fun rest H' h => hF rest H' h.1)
    (fun rest H' N h => ⟨happ _ _ N h.1, at_app h.2⟩) (fun hi H' h => hinf hi H' h.1) (fun a rest H1 ⟨h1, h2⟩ => ?_) ⟨h0 _, by simp⟩).mono fun _ H' h => ?_
  · refine round_of hm (hbody a rest H1 h1 (List.getElem?_eq_some_iff.1 h2).1).1 (hbody a rest H1 h1 (List.getElem?_eq_some_iff.1 h2).1).2 h2 rfl rfl (fun H' c h _ => hJ _ _ _ h) (fun H' h3 h4 => .inl ⟨rfl, h4, h3⟩) fun H' x hn h3 ⟨H3, h4, e⟩ => .inr ⟨rfl, x, hn, ?_, h3⟩
    rw [e]; exact hS _ _ _ h4
  · rcases h with ⟨h1, h2⟩ | ⟨x, hn, h1, h2⟩
    · exact rangeEnd_n h2 rfl rfl fun c => hend _ (hJ _ _ _ h1)
    · exact rangeEnd_x hn h2 fun c => hstop x _ hn (hS _ _ _ h1)
end

def streamI (f : Nat → Int) (k : Nat) : Nat → List (List Value)
  | 0 => []
  | n + 1 => [.int .i64 (f k)] :: streamI f (k + 1) n
def outN (f : Nat → Int) (B : Int) (k : Nat) : Nat → Nat × Int
  | 0 => (k, 0)
  | n + 1 => if B < f k then (k, 0) else if k = 2000 then (0, 8) else outN f B (k + 1) n
theorem outN_succ {f : Nat → Int} {B : Int} {k n : Nat} : outN f B k (n + 1) = if B < f k then (k, 0) else if k = 2000 then (0, 8) else outN f B (k + 1) n := rfl
def ratioF (num den : Int) (k : Nat) : Int := 64 * k * num / den

section
variable {H : AHeap} {kind deg num den step : Int} {v : Value}
set_option maxHeartbeats 4000000 in
theorem positions1_c {idr : Nat} (hn : 1 ≤ num ∧ num ≤ 1000) (hd : 1 ≤ den ∧ den ≤ 1000) :
    GenX Go.Proofs.Tryd.prog 146 [] [.pointer (some ⟨idr, 0, none⟩)] (fun H => H[idr]? = some (.cells true 0 (rulesC kind deg num den step v))) (streamI (ratioF num den) 0 2001) true := by
  intro lp I S H hF happ hinf hround hI0
  show ACall _ _ [.func (.yield lp) #[] #[], .pointer (some ⟨idr, 0, none⟩)] _ _
  (refine a146 ?_; simp only [n146, List.replicate, List.length_cons, List.length_nil, List.cons_append, List.nil_append]; first | refine q1 ?_ | refine q2 ?_ | refine q6 ?_ | refine q7 ?_ | refine qh rfl ?_ | skip)
  ((repeat (first | refine ya (by (with_reducible constructor) <;> first | rfl | decide) ?_ | apply yb | refine yc rfl ?_ | ((first | apply yd | apply ye); simp (disch := first | exact List.all_nil | omega | (simp only [go_sem]; done) | (simp only [ln, List.length_map]; omega) | (repeat' first | assumption | exact Ext.refl _ | refine Ext.app ?_ _)) only [go_sem]; with_reducible rfl))))
  refine awp_loop_n [true, true, false, true, false, false, false, false, false, false, false, false, false, false, false, false] 2001 (fun i e H' => e = [.func (.yield lp) #[] #[], .pointer (some ⟨idr, 0, none⟩), junk, .int .i64 i, junk, junk, junk, junk, junk, junk, junk, junk, junk, junk, junk, junk] ∧ I (streamI (ratioF num den) i (2001 - i)) H') ?_ ?_
  · exact ⟨by simp [forget], hI0⟩
  rintro i e H1 hi ⟨rfl, hI⟩
  have hi' : i < 2001 := by
    refine Decidable.byContradiction fun h => ?_
    obtain rfl : i = 2001 := by omega
    exact hinf rfl _ hI
  have g0 := hF _ _ hI
  obtain ⟨k, hk⟩ : ∃ k, k = 2001 - (i + 1) := ⟨_, rfl⟩
  rw [show 2001 - i = k + 1 by omega] at hI
  have m1 : 0 ≤ 64 * (i : Int) * num := Int.mul_nonneg (by omega) (by omega)
  have m2 : 64 * (i : Int) * num ≤ 64 * (i : Int) * 1000 := Int.mul_le_mul_of_nonneg_left (by omega) (by omega)
  have e1 : (64 * (i : Int) * num).tdiv den = ratioF num den i := Int.tdiv_eq_ediv_of_nonneg m1
  have b1 : ratioF num den i ≤ 128000000 := Int.le_trans (Int.ediv_le_self _ m1) (by omega)
  have b0 : 0 ≤ ratioF num den i := Int.ediv_nonneg m1 (by omega)
  ((repeat (first | refine ya (by (with_reducible constructor) <;> first | rfl | decide) ?_ | apply yb | refine yc rfl ?_ | ((first | apply yd | apply ye); simp (disch := first | exact List.all_nil | omega | (simp only [go_sem]; done) | (simp only [ln, List.length_map]; omega) | (repeat' first | assumption | exact Ext.refl _ | refine Ext.app ?_ _)) only [go_sem, load_at g0, rulesC, a_quo (show den ≠ 0 by omega), e1]; with_reducible rfl))))
  refine aops_call ((hround _ _ _ hI).mono fun v1 H3 h => ?_)
  rcases h with ⟨rfl, hI3⟩ | ⟨rfl, hS⟩
  · ((repeat (first | refine ya (by (with_reducible constructor) <;> first | rfl | decide) ?_ | apply yb | refine yc rfl ?_ | ((first | apply yd | apply ye); simp (disch := first | exact List.all_nil | omega | (simp only [go_sem]; done) | (simp only [ln, List.length_map]; omega) | (repeat' first | assumption | exact Ext.refl _ | refine Ext.app ?_ _)) only [go_sem]; with_reducible rfl))))
    refine cond_t rfl ?_
    ((repeat (first | refine ya (by (with_reducible constructor) <;> first | rfl | decide) ?_ | apply yb | refine yc rfl ?_ | ((first | apply yd | apply ye); simp (disch := first | exact List.all_nil | omega | (simp only [go_sem]; done) | (simp only [ln, List.length_map]; omega) | (repeat' first | assumption | exact Ext.refl _ | refine Ext.app ?_ _)) only [go_sem]; with_reducible rfl))))
    exact ⟨by omega, by simp [forget], by rw [← hk]; exact hI3⟩
  · ((repeat (first | refine ya (by (with_reducible constructor) <;> first | rfl | decide) ?_ | apply yb | refine yc rfl ?_ | ((first | apply yd | apply ye); simp (disch := first | exact List.all_nil | omega | (simp only [go_sem]; done) | (simp only [ln, List.length_map]; omega) | (repeat' first | assumption | exact Ext.refl _ | refine Ext.app ?_ _)) only [go_sem]; with_reducible rfl))))
    refine cond_f rfl ?_
    ((repeat (first | refine ya (by (with_reducible constructor) <;> first | rfl | decide) ?_ | apply yb | refine yc rfl ?_ | ((first | apply yd | apply ye); simp (disch := first | exact List.all_nil | omega | (simp only [go_sem]; done) | (simp only [ln, List.length_map]; omega) | (repeat' first | assumption | exact Ext.refl _ | refine Ext.app ?_ _)) only [go_sem]; with_reducible rfl))))
    exact ⟨.inl rfl, undef, rfl, .inr hS⟩
end
end Go.Lq

namespace Go.Lq
open Go
open Go.Proofs

def t0L (l : List (Int × Int)) : Int := (l.getD 0 (0, 0)).2
def tEL (l : List (Int × Int)) : Int := (l.getD (l.length - 1) (0, 0)).2
def curveF (l : List (Int × Int)) (step : Int) (k : Nat) : Int := (posAtL l (t0L l + k * step)).1.1
def curveN (l : List (Int × Int)) (step : Int) : Nat := ((tEL l - t0L l) / step + 1).toNat
theorem MapOk.span {l : List (Int × Int)} (h : MapOk l) : 0 ≤ t0L l ∧ t0L l ≤ tEL l ∧ tEL l ≤ 1000000000000 := by
  have := h.lo
  exact ⟨(h.time 0 (by omega)).1, h.timeLe (Nat.zero_le _) (by omega), (h.time _ (by omega)).2⟩
theorem curveN_lt {l : List (Int × Int)} {step : Int} {k : Nat} (h : MapOk l) (hs : 0 < step) : k < curveN l step ↔ t0L l + k * step ≤ tEL l := by
  obtain ⟨h1, h2, h3⟩ := h.span
  have e := Int.le_ediv_iff_mul_le (a := (k : Int)) (b := tEL l - t0L l) hs
  have h0 : 0 ≤ (tEL l - t0L l) / step := Int.ediv_nonneg (by omega) (by omega)
  unfold curveN
  constructor
  · intro hk
    have := e.1 (by omega)
    omega
  · intro hk
    have := e.2 (by omega)
    omega
theorem posAt_in {l : List (Int × Int)} {t : Int} (h : MapOk l) (h0 : t0L l ≤ t) (h1 : t ≤ tEL l) :
    posAtL l t = ((posLo (pieceOf l (atTime l t 0 (l.length - 2))) t, posHi (pieceOf l (atTime l t 0 (l.length - 2))) t), 0) := by
  have hl := h.lo
  unfold posAtL
  rw [if_pos h.err, h.timeOne h0 (k := l.length - 1) (i := 0) (by omega) (fun m hm => by omega) h1, if_neg (by omega)]
  rfl
theorem curveF_eq {l : List (Int × Int)} {step : Int} {k : Nat} (h : MapOk l) (hs : 0 < step) (hk : k < curveN l step) :
    curveF l step k = posLo (pieceOf l (atTime l (t0L l + k * step) 0 (l.length - 2))) (t0L l + k * step) := by
  unfold curveF
  rw [posAt_in h (by have := Int.mul_nonneg (show (0 : Int) ≤ k by omega) (show 0 ≤ step by omega); omega) ((curveN_lt h hs).1 hk)]

section
variable {H : AHeap} {kind deg num den step : Int} {l : List (Int × Int)} {v : Value}
set_option maxHeartbeats 4000000 in
theorem positions2_c {idn idr : Nat} (hok : MapOk l) (hs : 1 ≤ step ∧ step ≤ 1000000000000) :
    GenX Go.Proofs.Tryd.prog 147 [] [.pointer (some ⟨idn, 0, none⟩), .pointer (some ⟨idr, 0, none⟩)]
      (fun H => H[idn]? = some (.cells true 0 [v]) ∧ H[idr]? = some (.cells true 0 (rulesC kind deg num den step v)) ∧ Pairs H l v) (streamI (curveF l step) 0 (curveN l step)) false := by
  intro lp I S H hF happ hinf hround hI0
  show ACall _ _ [.func (.yield lp) #[] #[], .pointer (some ⟨idn, 0, none⟩), .pointer (some ⟨idr, 0, none⟩)] _ _
  obtain ⟨s1, s2, s3⟩ := hok.span
  have h02 := hok.lo
  have h20 := hok.hi
  obtain ⟨g0, g1, g2⟩ := hF _ _ hI0
  (refine a147 ?_; simp only [n147, List.replicate, List.length_cons, List.length_nil, List.cons_append, List.nil_append]; first | refine q1 ?_ | refine q2 ?_ | refine q6 ?_ | refine q7 ?_ | refine qh rfl ?_ | skip)
  have et : (l.getD 0 (0, 0)).2 = t0L l := rfl
  ((repeat (first | refine ya (by (with_reducible constructor) <;> first | rfl | decide) ?_ | apply yb | refine yc rfl ?_ | ((first | apply yd | apply ye); simp (disch := first | exact List.all_nil | omega | (simp only [go_sem]; done) | (simp only [ln, List.length_map]; omega) | (repeat' first | assumption | exact Ext.refl _ | refine Ext.app ?_ _)) only [go_sem, g2.len, g2.idx, g2.load, load_at g0, et]; with_reducible rfl))))
  refine awp_loop_n [true, true, true, false, true, false, false, false, false, false, false, false, false, false, false, false, false, false, false, false, false, false, false, false, false, false, false, false, false, false, false, false, false, false, false, false, false, false, false, false] (curveN l step) (fun i e H' => e = [.func (.yield lp) #[] #[], .pointer (some ⟨idn, 0, none⟩), .pointer (some ⟨idr, 0, none⟩), junk, .int .i64 (t0L l + i * step), junk, junk, junk, junk, junk, junk, junk, junk, junk, junk, junk, junk, junk, junk, junk, junk, junk, junk, junk, junk, junk, junk, junk, junk, junk, junk, junk, junk, junk, junk, junk, junk, junk, junk, junk] ∧ I (streamI (curveF l step) i (curveN l step - i)) H') ?_ ?_
  · exact ⟨by simp [forget, t0L], hI0⟩
  rintro i e H1 hi ⟨rfl, hI⟩
  obtain ⟨k0, k1, k2⟩ := hF _ _ hI
  have el : (l.length : Int) - 1 = ((l.length - 1 : Nat) : Int) := by omega
  have eE : (l.getD (l.length - 1) (0, 0)).2 = tEL l := rfl
  have m0 := Int.mul_nonneg (show (0 : Int) ≤ i by omega) (show 0 ≤ step by omega)
  have hlt := curveN_lt (k := i) hok (show 0 < step by omega)
  obtain ⟨z, hz⟩ : ∃ z, t0L l + (i : Int) * step = z := ⟨_, rfl⟩
  have hz1 : t0L l + ((i + 1 : Nat) : Int) * step = z + step := by
    rw [← hz, Int.natCast_add, Int.add_mul]; simp; omega
  by_cases hin : i < curveN l step
  rotate_left 1
  · obtain rfl : i = curveN l step := by omega
    rw [Nat.sub_self] at hI
    rw [hz] at hlt
    rw [hz]
    ((repeat (first | refine ya (by (with_reducible constructor) <;> first | rfl | decide) ?_ | apply yb | refine yc rfl ?_ | ((first | apply yd | apply ye); simp (disch := first | exact List.all_nil | omega | (simp only [go_sem]; done) | (simp only [ln, List.length_map]; omega) | (repeat' first | assumption | exact Ext.refl _ | refine Ext.app ?_ _)) only [go_sem, k2.len, k2.idx, k2.load, load_at k0, el, eE, dec_f (show ¬ z ≤ tEL l by omega)]; with_reducible rfl))))
    refine cond_f rfl ?_
    ((repeat (first | refine ya (by (with_reducible constructor) <;> first | rfl | decide) ?_ | apply yb | refine yc rfl ?_ | ((first | apply yd | apply ye); simp (disch := first | exact List.all_nil | omega | (simp only [go_sem]; done) | (simp only [ln, List.length_map]; omega) | (repeat' first | assumption | exact Ext.refl _ | refine Ext.app ?_ _)) only [go_sem]; with_reducible rfl))))
    exact ⟨.inl rfl, undef, rfl, .inl hI⟩
  have hzE := hlt.1 hin
  have hpa := posAt_in (t := z) hok (by omega) (by omega)
  have hcf : curveF l step i = (posAtL l z).1.1 := by unfold curveF; rw [hz]
  rw [hz] at hzE
  have he0 : (posAtL l z).2 = 0 := by rw [hpa]
  obtain ⟨n, hn⟩ : ∃ n, n = curveN l step - (i + 1) := ⟨_, rfl⟩
  rw [show curveN l step - i = n + 1 by omega] at hI
  have hI2 := happ _ _ [AObj.cells true 0 [.int .i64 (posAtL l z).1.1, .int .i64 (posAtL l z).1.2]] hI
  have b5 : (H1 ++ [AObj.cells true 0 [.int .i64 (posAtL l z).1.1, .int .i64 (posAtL l z).1.2]])[H1.length]? = some (.cells true 0 [.int .i64 (posAtL l z).1.1, .int .i64 (posAtL l z).1.2]) := at_new
  rw [hz]
  ((repeat (first | refine ya (by (with_reducible constructor) <;> first | rfl | decide) ?_ | apply yb | refine yc rfl ?_ | ((first | apply yd | apply ye); simp (disch := first | exact List.all_nil | omega | (simp only [go_sem]; done) | (simp only [ln, List.length_map]; omega) | (repeat' first | assumption | exact Ext.refl _ | refine Ext.app ?_ _)) only [go_sem, k2.len, k2.idx, k2.load, load_at k0, el, eE, dec_t hzE]; with_reducible rfl))))
  refine cond_t rfl ?_
  ((repeat (first | refine ya (by (with_reducible constructor) <;> first | rfl | decide) ?_ | apply yb | refine yc rfl ?_ | ((first | apply yd | apply ye); simp (disch := first | exact List.all_nil | omega | (simp only [go_sem]; done) | (simp only [ln, List.length_map]; omega) | (repeat' first | assumption | exact Ext.refl _ | refine Ext.app ?_ _)) only [go_sem, load_map k1]; with_reducible rfl))))
  refine aops_call_to (positionAt_c (t := z) k2 (by omega)) ?_
  rw [he0]
  have hround2 := hround _ _ _ hI2
  rw [hcf] at hround2
  ((repeat (first | refine ya (by (with_reducible constructor) <;> first | rfl | decide) ?_ | apply yb | refine yc rfl ?_ | ((first | apply yd | apply ye); simp (disch := first | exact List.all_nil | omega | (simp only [go_sem]; done) | (simp only [ln, List.length_map]; omega) | (repeat' first | assumption | exact Ext.refl _ | refine Ext.app ?_ _)) only [go_sem, store_newF, load_at b5]; with_reducible rfl))))
  refine aops_call (hround2.mono fun v1 H3 h => ?_)
  rcases h with ⟨rfl, hI3⟩ | ⟨rfl, hS⟩
  · obtain ⟨j0, j1, j2⟩ := hF _ _ hI3
    ((repeat (first | refine ya (by (with_reducible constructor) <;> first | rfl | decide) ?_ | apply yb | refine yc rfl ?_ | ((first | apply yd | apply ye); simp (disch := first | exact List.all_nil | omega | (simp only [go_sem]; done) | (simp only [ln, List.length_map]; omega) | (repeat' first | assumption | exact Ext.refl _ | refine Ext.app ?_ _)) only [go_sem]; with_reducible rfl))))
    refine cond_f rfl ?_
    ((repeat (first | refine ya (by (with_reducible constructor) <;> first | rfl | decide) ?_ | apply yb | refine yc rfl ?_ | ((first | apply yd | apply ye); simp (disch := first | exact List.all_nil | omega | (simp only [go_sem]; done) | (simp only [ln, List.length_map]; omega) | (repeat' first | assumption | exact Ext.refl _ | refine Ext.app ?_ _)) only [go_sem, load_at j1, rulesC]; with_reducible rfl))))
    exact ⟨by omega, by rw [hz1]; simp [forget], by rw [← hn]; exact hI3⟩
  · ((repeat (first | refine ya (by (with_reducible constructor) <;> first | rfl | decide) ?_ | apply yb | refine yc rfl ?_ | ((first | apply yd | apply ye); simp (disch := first | exact List.all_nil | omega | (simp only [go_sem]; done) | (simp only [ln, List.length_map]; omega) | (repeat' first | assumption | exact Ext.refl _ | refine Ext.app ?_ _)) only [go_sem]; with_reducible rfl))))
    refine cond_t rfl ?_
    ((repeat (first | refine ya (by (with_reducible constructor) <;> first | rfl | decide) ?_ | apply yb | refine yc rfl ?_ | ((first | apply yd | apply ye); simp (disch := first | exact List.all_nil | omega | (simp only [go_sem]; done) | (simp only [ln, List.length_map]; omega) | (repeat' first | assumption | exact Ext.refl _ | refine Ext.app ?_ _)) only [go_sem]; with_reducible rfl))))
    exact ⟨.inr rfl, undef, rfl, .inr hS⟩
end
end Go.Lq

namespace Go.Lq
open Go
open Go.Proofs

def outTo (f : Nat → Int) (k : Nat) : List Int := (List.range k).map f
theorem outTo_len (f : Nat → Int) (k : Nat) : (outTo f k).length = k := by simp [outTo]
theorem outTo_succ (f : Nat → Int) (k : Nat) : outTo f (k + 1) = outTo f k ++ [f k] := by simp [outTo, List.range_succ]
def outsL (f : Nat → Int) (N : Nat) (count : Int) : List Int × Int := (outTo f (outN f (64 * (count - 1)) 0 N).1, (outN f (64 * (count - 1)) 0 N).2)
theorem stream_nil {f : Nat → Int} {k n : Nat} (h : ([] : List (List Value)) = streamI f k n) : n = 0 := by
  cases n with
  | zero => rfl
  | succ n => cases h
theorem fin_2l {c : RCode} {n a b : Nat} {R : Value → AHeap → Prop} {e : Env} {H : AHeap} {u w : Value} (h1 : loadR (e.getD a undef) H = some (u, H)) (h2 : loadR (e.getD b undef) H = some (w, H)) (h : R (.tuple #[u, w]) H) :
    Fin ⟨c, n, [.load a, .load b]⟩ R .ret e H := by
  refine ⟨.inr rfl, _, ?_, h⟩
  unfold loadR at h1 h2
  split at h1
  · rename_i id off hp
    simp only [Option.map_eq_some_iff, Prod.mk.injEq, and_true] at h1
    obtain ⟨us, h3, rfl⟩ := h1
    split at h2
    · rename_i id' off' hp'
      simp only [Option.map_eq_some_iff, Prod.mk.injEq, and_true] at h2
      obtain ⟨us', h4, rfl⟩ := h2
      simp only [resultA, List.mapM_cons, resA, hp, h3, hp', h4, Option.map_some, List.mapM_nil]
      rfl
    · cases h2
  · cases h1

section
variable {H : AHeap} {kind deg num den step : Int} {l : List (Int × Int)} {v : Value}
theorem positionsR_c (hl : Pairs H l v) (h0 : kind = 0) : ACall Go.Proofs.Tryd.prog 132 [rulesV kind deg num den step v] H fun w H' =>
    w = .func (.func 146) #[] #[.pointer (some ⟨H.length, 0, none⟩)] ∧ H' = H ++ [.cells true 0 (rulesC kind deg num den step v)] := by
  (refine a132 ?_; simp only [n132, List.replicate, List.length_cons, List.length_nil, List.cons_append, List.nil_append]; first | refine q1 ?_ | refine q2 ?_ | refine q6 ?_ | refine q7 ?_ | refine qh rfl ?_ | skip)
  have g0 : (H ++ [AObj.cells true 0 (rulesC kind deg num den step v)])[H.length]? = some (.cells true 0 (rulesC kind deg num den step v)) := at_new
  have hk : loadR (.pointer (some ⟨H.length, 0, none⟩)) (H ++ [AObj.cells true 0 (rulesC kind deg num den step v)]) = some (.int .i64 kind, H ++ [AObj.cells true 0 (rulesC kind deg num den step v)]) := by rw [load_at g0]; rfl
  ((repeat (first | refine ya (by (with_reducible constructor) <;> first | rfl | decide) ?_ | apply yb | refine yc rfl ?_ | ((first | apply yd | apply ye); simp (disch := first | exact List.all_nil | omega | (simp only [go_sem]; done) | (simp only [ln, List.length_map]; omega) | (repeat' first | assumption | exact Ext.refl _ | refine Ext.app ?_ _)) only [go_sem, box_rules hl.atom, hk, dec_t h0]; with_reducible rfl))))
  refine cond_t rfl ?_
  ((repeat (first | refine ya (by (with_reducible constructor) <;> first | rfl | decide) ?_ | apply yb | refine yc rfl ?_ | ((first | apply yd | apply ye); simp (disch := first | exact List.all_nil | omega | (simp only [go_sem]; done) | (simp only [ln, List.length_map]; omega) | (repeat' first | assumption | exact Ext.refl _ | refine Ext.app ?_ _)) only [go_sem]; with_reducible rfl))))
  refine fin_1 ⟨?_, rfl⟩
  simp [go_sem]
theorem positionsC_c (hl : Pairs H l v) (h0 : ¬ kind = 0) : ACall Go.Proofs.Tryd.prog 132 [rulesV kind deg num den step v] H fun w H' =>
    w = .func (.func 147) #[] #[.pointer (some ⟨H.length + 1, 0, none⟩), .pointer (some ⟨H.length, 0, none⟩)] ∧ H' = H ++ [.cells true 0 (rulesC kind deg num den step v)] ++ [.cells true 0 [v]] := by
  (refine a132 ?_; simp only [n132, List.replicate, List.length_cons, List.length_nil, List.cons_append, List.nil_append]; first | refine q1 ?_ | refine q2 ?_ | refine q6 ?_ | refine q7 ?_ | refine qh rfl ?_ | skip)
  have g0 : (H ++ [AObj.cells true 0 (rulesC kind deg num den step v)])[H.length]? = some (.cells true 0 (rulesC kind deg num den step v)) := at_new
  have lG : (H ++ [AObj.cells true 0 (rulesC kind deg num den step v)]).length = H.length + 1 := by simp
  have hk : loadR (.pointer (some ⟨H.length, 0, none⟩)) (H ++ [AObj.cells true 0 (rulesC kind deg num den step v)]) = some (.int .i64 kind, H ++ [AObj.cells true 0 (rulesC kind deg num den step v)]) := by rw [load_at g0]; rfl
  have hm : loadR (.pointer (some ⟨H.length, 5, none⟩)) (H ++ [AObj.cells true 0 (rulesC kind deg num den step v)]) = some (v, H ++ [AObj.cells true 0 (rulesC kind deg num den step v)]) := by rw [load_at g0]; rfl
  ((repeat (first | refine ya (by (with_reducible constructor) <;> first | rfl | decide) ?_ | apply yb | refine yc rfl ?_ | ((first | apply yd | apply ye); simp (disch := first | exact List.all_nil | omega | (simp only [go_sem]; done) | (simp only [ln, List.length_map]; omega) | (repeat' first | assumption | exact Ext.refl _ | refine Ext.app ?_ _)) only [go_sem, box_rules hl.atom, hk, dec_f h0]; with_reducible rfl))))
  refine cond_f rfl ?_
  generalize (H ++ [AObj.cells true 0 (rulesC kind deg num den step v)] : AHeap) = G at g0 lG hm ⊢
  have hst : storeR 1 (.pointer (some ⟨G.length, 0, none⟩)) v (G ++ [AObj.cells true 0 [.slice none 0 0]]) = some (undef, G ++ [AObj.cells true 0 [v]]) := by
    have hc : v.cells = ⟨[v]⟩ := by rcases hl.2 with ⟨rfl, _⟩ | ⟨id, off, c, rfl, _⟩ <;> rfl
    rw [store_b1 (at_new : (G ++ [AObj.cells true 0 [.slice none 0 0]])[G.length]? = _) hl.atom hc]
    simp
  ((repeat (first | refine ya (by (with_reducible constructor) <;> first | rfl | decide) ?_ | apply yb | refine yc rfl ?_ | ((first | apply yd | apply ye); simp (disch := first | exact List.all_nil | omega | (simp only [go_sem]; done) | (simp only [ln, List.length_map]; omega) | (repeat' first | assumption | exact Ext.refl _ | refine Ext.app ?_ _)) only [go_sem, hm, hst]; with_reducible rfl))))
  refine fin_1 ⟨?_, rfl⟩
  simp [go_sem, lG]

set_option maxHeartbeats 8000000 in
theorem outputsR_c {count : Int} (hl : Pairs H l v) (h0 : kind = 0) (hn : 1 ≤ num ∧ num ≤ 1000) (hd : 1 ≤ den ∧ den ≤ 1000) (hcnt : 0 ≤ count ∧ count ≤ 400) : ACall Go.Proofs.Tryd.prog 90 [rulesV kind deg num den step v, .int .i64 count] H
    (IntsRes H (outsL (ratioF num den) (2001) count).1 (outsL (ratioF num den) (2001) count).2) := by
  refine ACall.intsE ?_
  (refine a90 ?_; simp only [n90, List.replicate, List.length_cons, List.length_nil, List.cons_append, List.nil_append]; first | refine q1 ?_ | refine q2 ?_ | refine q6 ?_ | refine q7 ?_ | refine qh rfl ?_ | skip)
  have hbi : ∀ J : AHeap, boxR (.int .i64 count) J = some (.pointer (some ⟨J.length, 0, none⟩), J ++ [.cells true 0 [.int .i64 count]]) := fun J => rfl
  obtain ⟨G, hG⟩ : ∃ G, G = H ++ [AObj.cells true 0 (rulesC kind deg num den step v)] ++ [AObj.cells true 0 [.int .i64 count]] ++ [AObj.cells true 0 [.slice none 0 0]] ++ [AObj.cells true 0 [.int .i64 0]] := ⟨_, rfl⟩
  have g0 : G[H.length]? = some (.cells true 0 (rulesC kind deg num den step v)) := by rw [hG]; simp
  have g1 : G[H.length + 1]? = some (.cells true 0 [.int .i64 count]) := by rw [hG]; simp
  have g2 : G[H.length + 2]? = some (.cells true 0 [.slice none 0 0]) := by rw [hG]; simp
  have g3 : G[H.length + 3]? = some (.cells true 0 [.int .i64 0]) := by rw [hG]; simp
  have xG : Ext H G := by rw [hG]; exact ((((Ext.refl H).app _).app _).app _).app _
  have lG : G.length = H.length + 4 := by rw [hG]; simp
  (repeat (first | refine ya (by (with_reducible constructor) <;> first | rfl | decide) ?_ | (apply yd; simp (disch := first | exact List.all_nil | omega | (simp only [go_sem]; done) | (simp only [ln, List.length_map]; omega) | (repeat' first | assumption | exact Ext.refl _ | refine Ext.app ?_ _)) only [go_sem, box_rules hl.atom, hbi]; with_reducible rfl)))
  (simp only [List.length_append, List.length_cons, List.length_nil, Nat.zero_add, Nat.add_assoc, Nat.reduceAdd])
  rw [← hG]
  clear hG
  obtain ⟨f, hf⟩ : ∃ f, f = ratioF num den := ⟨_, rfl⟩
  obtain ⟨N, hN⟩ : ∃ N, N = 2001 := ⟨_, rfl⟩
  obtain ⟨B, hB⟩ : ∃ B, 64 * (count - 1) = B := ⟨_, rfl⟩
  have ho : outsL (ratioF num den) (2001) count = (outTo f (outN f B 0 N).1, (outN f B 0 N).2) := by unfold outsL; rw [hf, hN, hB]
  rw [ho]
  have z0 := at_app (N := [AObj.cells true 0 [.slice none 0 0]]) g0
  have z4 : (G ++ [AObj.cells true 0 [.slice none 0 0]])[H.length + 4]? = some (.cells true 0 [.slice none 0 0]) := by rw [← lG]; exact at_new
  have x1 := (Ext.refl G).app [AObj.cells true 0 [.slice none 0 0]]
  have l1 : (G ++ [AObj.cells true 0 [.slice none 0 0]]).length = G.length + 1 := by simp
  have l6 : loadNR 6 (.pointer (some ⟨H.length, 0, none⟩)) (G ++ [AObj.cells true 0 [.slice none 0 0]]) = some (rulesV kind deg num den step v, G ++ [AObj.cells true 0 [.slice none 0 0]]) := loadN_at z0 (by simp [rulesC])
  ((repeat (first | refine ya (by (with_reducible constructor) <;> first | rfl | decide) ?_ | apply yb | refine yc rfl ?_ | ((first | apply yd | apply ye); simp (disch := first | exact List.all_nil | omega | (simp only [go_sem]; done) | (simp only [ln, List.length_map]; omega) | (repeat' first | assumption | exact Ext.refl _ | refine Ext.app ?_ _)) only [go_sem, l6]; with_reducible rfl))))
  generalize (G ++ [AObj.cells true 0 [.slice none 0 0]] : AHeap) = G1 at z0 z4 x1 l1 l6
  refine aops_call ((positionsR_c (hl.ext (xG.trans x1)) h0).mono fun v1 G3 ⟨e1, e2⟩ => ?_)
  subst e1
  have x3 : Ext G1 G3 := by rw [e2]; exact (Ext.refl _).app _
  have kr : G3[G1.length]? = some (.cells true 0 (rulesC kind deg num den step v)) := by rw [e2]; exact at_new
  clear e2
  have xG3 := x1.trans x3
  have xH3 := xG.trans xG3
  have k1 := xG3.cell g1
  have k2 := xG3.cell g2
  have k3 := xG3.cell g3
  have k4 := x3.cell z4
  have l3 := x3.len
  (repeat (first | refine ya (by (with_reducible constructor) <;> first | rfl | decide) ?_ | apply yb | refine yc rfl ?_))
  refine awp_rangeX mo rfl (fun l h => by cases h) (positions1_c (kind := kind) (deg := deg) (step := step) (v := v) (idr := G1.length) hn hd)
    (fun rest H' => ∃ k ov, rest = streamI (ratioF num den) k ((2001) - k) ∧ k ≤ (2001) ∧ k ≤ 2000 ∧ outN f B 0 N = outN f B k (N - k) ∧ BoxI (H.length + 4) G3 (outTo f k) ov H')
    (fun x H' => (x = .exit 0 ∧ ∃ ov, BoxI (H.length + 4) G3 (outTo f (outN f B 0 N).1) ov H' ∧ (outN f B 0 N).2 = 0) ∨
      (x = .ret ∧ outN f B 0 N = (0, 8) ∧ H'[H.length + 2]? = some (.cells true 0 [.slice none 0 0]) ∧ H'[H.length + 3]? = some (.cells true 0 [.int .i64 8]) ∧ Ext H H')) ?_ ?_ ?_ ?_ ?_ ?_ ?_ ?_ ?_
  · rintro rest H' c' ⟨k, ov, h1, h2, h3, h4, h5⟩
    exact ⟨k, ov, h1, h2, h3, h4, h5.set (by omega) _⟩
  · rintro x H' c' (⟨h1, ov, h2, h3⟩ | ⟨h1, h2, h3, h4, h5⟩)
    · exact .inl ⟨h1, ov, h2.set (by omega) _, h3⟩
    · refine .inr ⟨h1, h2, ?_, ?_, h5.set (by omega) _⟩
      · rw [List.getElem?_set_ne (by omega)]; exact h3
      · rw [List.getElem?_set_ne (by omega)]; exact h4
  · rintro rest H' ⟨k, ov, h1, h2, h3, h4, h5⟩
    exact h5.keeps.get kr (by omega)
  · rintro rest H' N' ⟨k, ov, h1, h2, h3, h4, h5⟩
    exact ⟨k, ov, h1, h2, h3, h4, h5.app _⟩
  · rintro hi H' ⟨k, ov, h1, h2, h3, h4, h5⟩
    have := stream_nil h1; omega
  · intro N'
    exact ⟨0, .slice none 0 0, rfl, Nat.zero_le _, Nat.zero_le _, by rw [Nat.sub_zero], Keeps.of_ext ((Ext.refl _).app _), at_app k4, OwnI.nil _ _⟩
  · rintro a rest H1 ⟨k, ov, h1, h2, h3, h4, h5⟩ hlt
    obtain ⟨n, hn⟩ : ∃ n, (2001) - k = n := ⟨_, rfl⟩
    rw [hn] at h1
    rw [show N - k = n by rw [hN]; exact hn] at h4
    match n, h1 with
    | n + 1, h1 =>
    obtain ⟨rfl, rfl⟩ := List.cons.inj h1
    rw [outN_succ] at h4
    refine ⟨rfl, fun R Rb _ hR => ?_⟩
    simp only [assignParams, List.zip_cons_cons, List.zip_nil_left, List.foldl_cons, List.foldl_nil]
    ((repeat (first | refine ya (by (with_reducible constructor) <;> first | rfl | decide) ?_ | apply yb | refine yc rfl ?_ | ((first | apply yd | apply ye); simp (disch := first | exact List.all_nil | omega | (simp only [go_sem]; done) | (simp only [ln, List.length_map]; omega) | (repeat' first | assumption | exact Ext.refl _ | refine Ext.app ?_ _)) only [go_sem]; with_reducible rfl))))
    refine ⟨rfl, hR, ?_⟩
    have hRb := get_set_self (d := Rb) hR
    have h6 := h5.set (k := H.length + 4) (by omega) Rb
    have hlb : G3.length < (H1.set G3.length Rb).length := by simpa using hlt
    generalize (H1.set G3.length Rb : AHeap) = Hb at h6 hRb hlb
    have xHb := h6.keeps.ext xH3 (by omega)
    have efk : (ratioF num den) k = f k := by rw [hf]
    rw [efk]
    have hoI := h6.own.ints
    ((repeat (first | refine ya (by (with_reducible constructor) <;> first | rfl | decide) ?_ | apply yb | refine yc rfl ?_ | ((first | apply yd | apply ye); simp (disch := first | exact List.all_nil | omega | (simp only [go_sem]; done) | (simp only [ln, List.length_map]; omega) | (repeat' first | assumption | exact Ext.refl _ | refine Ext.app ?_ _)) only [go_sem, load_at (h6.keeps.get k1 (by omega)), hB]; with_reducible rfl))))
    refine cond_p rfl (fun hq => ?_) (fun hq => ?_)
    · rw [if_pos hq] at h4
      ((repeat (first | refine ya (by (with_reducible constructor) <;> first | rfl | decide) ?_ | apply yb | refine yc rfl ?_ | ((first | apply yd | apply ye); simp (disch := first | exact List.all_nil | omega | (simp only [go_sem]; done) | (simp only [ln, List.length_map]; omega) | (repeat' first | assumption | exact Ext.refl _ | refine Ext.app ?_ _)) only [go_sem]; with_reducible rfl))))
      refine rounded_x hRb (.inl ⟨rfl, ov, ?_, ?_⟩)
      · rw [h4]; exact h6
      · rw [h4]
    rw [if_neg hq] at h4
    by_cases hk : k = 2000
    · rw [if_pos hk] at h4
      have b2 := h6.keeps.get k2 (by omega)
      have b3 := h6.keeps.get k3 (by omega)
      have b3' : (Hb.set (H.length + 2) (.cells true 0 [.slice none 0 0]))[H.length + 3]? = some (.cells true 0 [.int .i64 0]) := by rw [List.getElem?_set_ne (by omega)]; exact b3
      ((repeat (first | refine ya (by (with_reducible constructor) <;> first | rfl | decide) ?_ | apply yb | refine yc rfl ?_ | ((first | apply yd | apply ye); simp (disch := first | exact List.all_nil | omega | (simp only [go_sem]; done) | (simp only [ln, List.length_map]; omega) | (repeat' first | assumption | exact Ext.refl _ | refine Ext.app ?_ _)) only [go_sem, hoI.len, hoI.idx, hoI.load, load_at h6.box, outTo_len, dec_t (show ((k : Nat) : Int) = 2000 by omega)]; with_reducible rfl))))
      refine cond_t rfl ?_
      ((repeat (first | refine ya (by (with_reducible constructor) <;> first | rfl | decide) ?_ | apply yb | refine yc rfl ?_ | ((first | apply yd | apply ye); simp (disch := first | exact List.all_nil | omega | (simp only [go_sem]; done) | (simp only [ln, List.length_map]; omega) | (repeat' first | assumption | exact Ext.refl _ | refine Ext.app ?_ _)) only [go_sem, store_b1 b2 (y := .slice none 0 0) rfl rfl, store_b1 b3' (y := .int .i64 8) rfl rfl]; with_reducible rfl))))
      refine rounded_r ?_ (.inr ⟨rfl, h4, ?_, get_set_self b3', (xHb.set (by omega) _).set (by omega) _⟩)
      · rw [List.getElem?_set_ne (by omega), List.getElem?_set_ne (by omega)]; exact hRb
      · rw [List.getElem?_set_ne (by omega)]; exact get_set_self b2
    · rw [if_neg hk] at h4
      obtain ⟨s1, s2, s3⟩ := h6.push (by omega) hlb (f k) hRb
      have hpush := h6.own.push (by rw [outTo_len]; omega) (f k)
      ((repeat (first | refine ya (by (with_reducible constructor) <;> first | rfl | decide) ?_ | apply yb | refine yc rfl ?_ | ((first | apply yd | apply ye); simp (disch := first | exact List.all_nil | omega | (simp only [go_sem]; done) | (simp only [ln, List.length_map]; omega) | (repeat' first | assumption | exact Ext.refl _ | refine Ext.app ?_ _)) only [go_sem, hoI.len, hoI.idx, hoI.load, load_at h6.box, outTo_len, dec_f (show ¬ ((k : Nat) : Int) = 2000 by omega)]; with_reducible rfl))))
      refine cond_f rfl ?_
      ((repeat (first | refine ya (by (with_reducible constructor) <;> first | rfl | decide) ?_ | apply yb | refine yc rfl ?_ | ((first | apply yd | apply ye); simp (disch := first | exact List.all_nil | omega | (simp only [go_sem]; done) | (simp only [ln, List.length_map]; omega) | (repeat' first | assumption | exact Ext.refl _ | refine Ext.app ?_ _)) only [go_sem, load_at h6.box, hpush, s1]; with_reducible rfl))))
      refine rounded_n s3 ⟨k + 1, pushV Hb (outTo f k).length, ?_, by omega, by omega, ?_, ?_⟩
      · rw [show (2001) - (k + 1) = n by omega]
      · rw [h4, show N - (k + 1) = n by rw [hN]; omega]
      · rw [outTo_succ]; exact s2
  · rintro H' ⟨k, ov, h1, h2, h3, h4, h5⟩
    have h0 := stream_nil h1
    rw [show N - k = 0 by rw [hN]; exact h0] at h4
    have e1 : outN f B 0 N = (k, 0) := h4
    rw [e1]
    have b2 := h5.keeps.get k2 (by omega)
    have b3 := h5.keeps.get k3 (by omega)
    have xH' := h5.keeps.ext xH3 (by omega)
    have hov : ov.cells = ⟨[ov]⟩ := by rcases h5.own.ints.2 with ⟨rfl, _⟩ | ⟨id, off, c, rfl, _⟩ <;> rfl
    have b3' : (H'.set (H.length + 2) (.cells true 0 [ov]))[H.length + 3]? = some (.cells true 0 [.int .i64 0]) := by rw [List.getElem?_set_ne (by omega)]; exact b3
    ((repeat (first | refine ya (by (with_reducible constructor) <;> first | rfl | decide) ?_ | apply yb | refine yc rfl ?_ | ((first | apply yd | apply ye); simp (disch := first | exact List.all_nil | omega | (simp only [go_sem]; done) | (simp only [ln, List.length_map]; omega) | (repeat' first | assumption | exact Ext.refl _ | refine Ext.app ?_ _)) only [go_sem, load_at h5.box, store_b1 b2 h5.own.ints.atom hov, store_b1 b3' (y := .int .i64 0) rfl rfl]; with_reducible rfl))))
    refine fin_2l (u := ov) (w := .int .i64 0) (load1 (by rw [List.getElem?_set_ne (by omega)]; exact get_set_self b2)) (load1 (get_set_self b3')) ⟨ov, rfl, (xH'.set (by omega) _).set (by omega) _, ?_⟩
    exact ((h5.own.set_ne (h5.own.aside (by simp; omega)) _).set_ne (h5.own.aside (by simp; omega)) _).weaken (by simp; omega)
  · rintro x H' hx (⟨rfl, ov, h5, h6⟩ | ⟨rfl, h2, h3, h4, h5⟩)
    · have b2 := h5.keeps.get k2 (by omega)
      have b3 := h5.keeps.get k3 (by omega)
      have xH' := h5.keeps.ext xH3 (by omega)
      have hov : ov.cells = ⟨[ov]⟩ := by rcases h5.own.ints.2 with ⟨rfl, _⟩ | ⟨id, off, c, rfl, _⟩ <;> rfl
      have b3' : (H'.set (H.length + 2) (.cells true 0 [ov]))[H.length + 3]? = some (.cells true 0 [.int .i64 0]) := by rw [List.getElem?_set_ne (by omega)]; exact b3
      rw [h6]
      ((repeat (first | refine ya (by (with_reducible constructor) <;> first | rfl | decide) ?_ | apply yb | refine yc rfl ?_ | ((first | apply yd | apply ye); simp (disch := first | exact List.all_nil | omega | (simp only [go_sem]; done) | (simp only [ln, List.length_map]; omega) | (repeat' first | assumption | exact Ext.refl _ | refine Ext.app ?_ _)) only [go_sem, load_at h5.box, store_b1 b2 h5.own.ints.atom hov, store_b1 b3' (y := .int .i64 0) rfl rfl]; with_reducible rfl))))
      refine fin_2l (u := ov) (w := .int .i64 0) (load1 (by rw [List.getElem?_set_ne (by omega)]; exact get_set_self b2)) (load1 (get_set_self b3')) ⟨ov, rfl, (xH'.set (by omega) _).set (by omega) _, ?_⟩
      exact ((h5.own.set_ne (h5.own.aside (by simp; omega)) _).set_ne (h5.own.aside (by simp; omega)) _).weaken (by simp; omega)
    · rw [h2]
      ((repeat (first | refine ya (by (with_reducible constructor) <;> first | rfl | decide) ?_ | apply yb | refine yc rfl ?_ | ((first | apply yd | apply ye); simp (disch := first | exact List.all_nil | omega | (simp only [go_sem]; done) | (simp only [ln, List.length_map]; omega) | (repeat' first | assumption | exact Ext.refl _ | refine Ext.app ?_ _)) only [go_sem]; with_reducible rfl))))
      refine fin_2l (u := .slice none 0 0) (w := .int .i64 8) (load1 h3) (load1 h4) ⟨_, rfl, h5, OwnI.nil _ _⟩

set_option maxHeartbeats 8000000 in
theorem outputsC_c {count : Int} (hl : Pairs H l v) (h0 : ¬ kind = 0) (hok : MapOk l) (hs : 1 ≤ step ∧ step ≤ 1000000000000) (hcnt : 0 ≤ count ∧ count ≤ 400) : ACall Go.Proofs.Tryd.prog 90 [rulesV kind deg num den step v, .int .i64 count] H
    (IntsRes H (outsL (curveF l step) (curveN l step) count).1 (outsL (curveF l step) (curveN l step) count).2) := by
  refine ACall.intsE ?_
  (refine a90 ?_; simp only [n90, List.replicate, List.length_cons, List.length_nil, List.cons_append, List.nil_append]; first | refine q1 ?_ | refine q2 ?_ | refine q6 ?_ | refine q7 ?_ | refine qh rfl ?_ | skip)
  have hbi : ∀ J : AHeap, boxR (.int .i64 count) J = some (.pointer (some ⟨J.length, 0, none⟩), J ++ [.cells true 0 [.int .i64 count]]) := fun J => rfl
  obtain ⟨G, hG⟩ : ∃ G, G = H ++ [AObj.cells true 0 (rulesC kind deg num den step v)] ++ [AObj.cells true 0 [.int .i64 count]] ++ [AObj.cells true 0 [.slice none 0 0]] ++ [AObj.cells true 0 [.int .i64 0]] := ⟨_, rfl⟩
  have g0 : G[H.length]? = some (.cells true 0 (rulesC kind deg num den step v)) := by rw [hG]; simp
  have g1 : G[H.length + 1]? = some (.cells true 0 [.int .i64 count]) := by rw [hG]; simp
  have g2 : G[H.length + 2]? = some (.cells true 0 [.slice none 0 0]) := by rw [hG]; simp
  have g3 : G[H.length + 3]? = some (.cells true 0 [.int .i64 0]) := by rw [hG]; simp
  have xG : Ext H G := by rw [hG]; exact ((((Ext.refl H).app _).app _).app _).app _
  have lG : G.length = H.length + 4 := by rw [hG]; simp
  (repeat (first | refine ya (by (with_reducible constructor) <;> first | rfl | decide) ?_ | (apply yd; simp (disch := first | exact List.all_nil | omega | (simp only [go_sem]; done) | (simp only [ln, List.length_map]; omega) | (repeat' first | assumption | exact Ext.refl _ | refine Ext.app ?_ _)) only [go_sem, box_rules hl.atom, hbi]; with_reducible rfl)))
  (simp only [List.length_append, List.length_cons, List.length_nil, Nat.zero_add, Nat.add_assoc, Nat.reduceAdd])
  rw [← hG]
  clear hG
  obtain ⟨f, hf⟩ : ∃ f, f = curveF l step := ⟨_, rfl⟩
  obtain ⟨N, hN⟩ : ∃ N, N = curveN l step := ⟨_, rfl⟩
  obtain ⟨B, hB⟩ : ∃ B, 64 * (count - 1) = B := ⟨_, rfl⟩
  have ho : outsL (curveF l step) (curveN l step) count = (outTo f (outN f B 0 N).1, (outN f B 0 N).2) := by unfold outsL; rw [hf, hN, hB]
  rw [ho]
  have z0 := at_app (N := [AObj.cells true 0 [.slice none 0 0]]) g0
  have z4 : (G ++ [AObj.cells true 0 [.slice none 0 0]])[H.length + 4]? = some (.cells true 0 [.slice none 0 0]) := by rw [← lG]; exact at_new
  have x1 := (Ext.refl G).app [AObj.cells true 0 [.slice none 0 0]]
  have l1 : (G ++ [AObj.cells true 0 [.slice none 0 0]]).length = G.length + 1 := by simp
  have l6 : loadNR 6 (.pointer (some ⟨H.length, 0, none⟩)) (G ++ [AObj.cells true 0 [.slice none 0 0]]) = some (rulesV kind deg num den step v, G ++ [AObj.cells true 0 [.slice none 0 0]]) := loadN_at z0 (by simp [rulesC])
  ((repeat (first | refine ya (by (with_reducible constructor) <;> first | rfl | decide) ?_ | apply yb | refine yc rfl ?_ | ((first | apply yd | apply ye); simp (disch := first | exact List.all_nil | omega | (simp only [go_sem]; done) | (simp only [ln, List.length_map]; omega) | (repeat' first | assumption | exact Ext.refl _ | refine Ext.app ?_ _)) only [go_sem, l6]; with_reducible rfl))))
  generalize (G ++ [AObj.cells true 0 [.slice none 0 0]] : AHeap) = G1 at z0 z4 x1 l1 l6
  refine aops_call ((positionsC_c (hl.ext (xG.trans x1)) h0).mono fun v1 G3 ⟨e1, e2⟩ => ?_)
  subst e1
  have x3 : Ext G1 G3 := by rw [e2]; exact ((Ext.refl _).app _).app _
  have kr : G3[G1.length]? = some (.cells true 0 (rulesC kind deg num den step v)) := by rw [e2]; simp
  have kn : G3[G1.length + 1]? = some (.cells true 0 [v]) := by rw [e2]; simp
  clear e2
  have xG3 := x1.trans x3
  have xH3 := xG.trans xG3
  have k1 := xG3.cell g1
  have k2 := xG3.cell g2
  have k3 := xG3.cell g3
  have k4 := x3.cell z4
  have l3 := x3.len
  (repeat (first | refine ya (by (with_reducible constructor) <;> first | rfl | decide) ?_ | apply yb | refine yc rfl ?_))
  refine awp_rangeX mo rfl (fun l h => by cases h) (positions2_c (kind := kind) (deg := deg) (num := num) (den := den) (v := v) (idn := G1.length + 1) (idr := G1.length) hok hs)
    (fun rest H' => ∃ k ov, rest = streamI (curveF l step) k ((curveN l step) - k) ∧ k ≤ (curveN l step) ∧ k ≤ 2000 ∧ outN f B 0 N = outN f B k (N - k) ∧ BoxI (H.length + 4) G3 (outTo f k) ov H')
    (fun x H' => (x = .exit 0 ∧ ∃ ov, BoxI (H.length + 4) G3 (outTo f (outN f B 0 N).1) ov H' ∧ (outN f B 0 N).2 = 0) ∨
      (x = .ret ∧ outN f B 0 N = (0, 8) ∧ H'[H.length + 2]? = some (.cells true 0 [.slice none 0 0]) ∧ H'[H.length + 3]? = some (.cells true 0 [.int .i64 8]) ∧ Ext H H')) ?_ ?_ ?_ ?_ ?_ ?_ ?_ ?_ ?_
  · rintro rest H' c' ⟨k, ov, h1, h2, h3, h4, h5⟩
    exact ⟨k, ov, h1, h2, h3, h4, h5.set (by omega) _⟩
  · rintro x H' c' (⟨h1, ov, h2, h3⟩ | ⟨h1, h2, h3, h4, h5⟩)
    · exact .inl ⟨h1, ov, h2.set (by omega) _, h3⟩
    · refine .inr ⟨h1, h2, ?_, ?_, h5.set (by omega) _⟩
      · rw [List.getElem?_set_ne (by omega)]; exact h3
      · rw [List.getElem?_set_ne (by omega)]; exact h4
  · rintro rest H' ⟨k, ov, h1, h2, h3, h4, h5⟩
    exact ⟨h5.keeps.get kn (by omega), h5.keeps.get kr (by omega), hl.ext (h5.keeps.ext xH3 (by omega))⟩
  · rintro rest H' N' ⟨k, ov, h1, h2, h3, h4, h5⟩
    exact ⟨k, ov, h1, h2, h3, h4, h5.app _⟩
  · rintro hi H' ⟨k, ov, h1, h2, h3, h4, h5⟩
    cases hi
  · intro N'
    exact ⟨0, .slice none 0 0, rfl, Nat.zero_le _, Nat.zero_le _, by rw [Nat.sub_zero], Keeps.of_ext ((Ext.refl _).app _), at_app k4, OwnI.nil _ _⟩
  · rintro a rest H1 ⟨k, ov, h1, h2, h3, h4, h5⟩ hlt
    obtain ⟨n, hn⟩ : ∃ n, (curveN l step) - k = n := ⟨_, rfl⟩
    rw [hn] at h1
    rw [show N - k = n by rw [hN]; exact hn] at h4
    match n, h1 with
    | n + 1, h1 =>
    obtain ⟨rfl, rfl⟩ := List.cons.inj h1
    rw [outN_succ] at h4
    refine ⟨rfl, fun R Rb _ hR => ?_⟩
    simp only [assignParams, List.zip_cons_cons, List.zip_nil_left, List.foldl_cons, List.foldl_nil]
    ((repeat (first | refine ya (by (with_reducible constructor) <;> first | rfl | decide) ?_ | apply yb | refine yc rfl ?_ | ((first | apply yd | apply ye); simp (disch := first | exact List.all_nil | omega | (simp only [go_sem]; done) | (simp only [ln, List.length_map]; omega) | (repeat' first | assumption | exact Ext.refl _ | refine Ext.app ?_ _)) only [go_sem]; with_reducible rfl))))
    refine ⟨rfl, hR, ?_⟩
    have hRb := get_set_self (d := Rb) hR
    have h6 := h5.set (k := H.length + 4) (by omega) Rb
    have hlb : G3.length < (H1.set G3.length Rb).length := by simpa using hlt
    generalize (H1.set G3.length Rb : AHeap) = Hb at h6 hRb hlb
    have xHb := h6.keeps.ext xH3 (by omega)
    have efk : (curveF l step) k = f k := by rw [hf]
    rw [efk]
    have hoI := h6.own.ints
    ((repeat (first | refine ya (by (with_reducible constructor) <;> first | rfl | decide) ?_ | apply yb | refine yc rfl ?_ | ((first | apply yd | apply ye); simp (disch := first | exact List.all_nil | omega | (simp only [go_sem]; done) | (simp only [ln, List.length_map]; omega) | (repeat' first | assumption | exact Ext.refl _ | refine Ext.app ?_ _)) only [go_sem, load_at (h6.keeps.get k1 (by omega)), hB]; with_reducible rfl))))
    refine cond_p rfl (fun hq => ?_) (fun hq => ?_)
    · rw [if_pos hq] at h4
      ((repeat (first | refine ya (by (with_reducible constructor) <;> first | rfl | decide) ?_ | apply yb | refine yc rfl ?_ | ((first | apply yd | apply ye); simp (disch := first | exact List.all_nil | omega | (simp only [go_sem]; done) | (simp only [ln, List.length_map]; omega) | (repeat' first | assumption | exact Ext.refl _ | refine Ext.app ?_ _)) only [go_sem]; with_reducible rfl))))
      refine rounded_x hRb (.inl ⟨rfl, ov, ?_, ?_⟩)
      · rw [h4]; exact h6
      · rw [h4]
    rw [if_neg hq] at h4
    by_cases hk : k = 2000
    · rw [if_pos hk] at h4
      have b2 := h6.keeps.get k2 (by omega)
      have b3 := h6.keeps.get k3 (by omega)
      have b3' : (Hb.set (H.length + 2) (.cells true 0 [.slice none 0 0]))[H.length + 3]? = some (.cells true 0 [.int .i64 0]) := by rw [List.getElem?_set_ne (by omega)]; exact b3
      ((repeat (first | refine ya (by (with_reducible constructor) <;> first | rfl | decide) ?_ | apply yb | refine yc rfl ?_ | ((first | apply yd | apply ye); simp (disch := first | exact List.all_nil | omega | (simp only [go_sem]; done) | (simp only [ln, List.length_map]; omega) | (repeat' first | assumption | exact Ext.refl _ | refine Ext.app ?_ _)) only [go_sem, hoI.len, hoI.idx, hoI.load, load_at h6.box, outTo_len, dec_t (show ((k : Nat) : Int) = 2000 by omega)]; with_reducible rfl))))
      refine cond_t rfl ?_
      ((repeat (first | refine ya (by (with_reducible constructor) <;> first | rfl | decide) ?_ | apply yb | refine yc rfl ?_ | ((first | apply yd | apply ye); simp (disch := first | exact List.all_nil | omega | (simp only [go_sem]; done) | (simp only [ln, List.length_map]; omega) | (repeat' first | assumption | exact Ext.refl _ | refine Ext.app ?_ _)) only [go_sem, store_b1 b2 (y := .slice none 0 0) rfl rfl, store_b1 b3' (y := .int .i64 8) rfl rfl]; with_reducible rfl))))
      refine rounded_r ?_ (.inr ⟨rfl, h4, ?_, get_set_self b3', (xHb.set (by omega) _).set (by omega) _⟩)
      · rw [List.getElem?_set_ne (by omega), List.getElem?_set_ne (by omega)]; exact hRb
      · rw [List.getElem?_set_ne (by omega)]; exact get_set_self b2
    · rw [if_neg hk] at h4
      obtain ⟨s1, s2, s3⟩ := h6.push (by omega) hlb (f k) hRb
      have hpush := h6.own.push (by rw [outTo_len]; omega) (f k)
      ((repeat (first | refine ya (by (with_reducible constructor) <;> first | rfl | decide) ?_ | apply yb | refine yc rfl ?_ | ((first | apply yd | apply ye); simp (disch := first | exact List.all_nil | omega | (simp only [go_sem]; done) | (simp only [ln, List.length_map]; omega) | (repeat' first | assumption | exact Ext.refl _ | refine Ext.app ?_ _)) only [go_sem, hoI.len, hoI.idx, hoI.load, load_at h6.box, outTo_len, dec_f (show ¬ ((k : Nat) : Int) = 2000 by omega)]; with_reducible rfl))))
      refine cond_f rfl ?_
      ((repeat (first | refine ya (by (with_reducible constructor) <;> first | rfl | decide) ?_ | apply yb | refine yc rfl ?_ | ((first | apply yd | apply ye); simp (disch := first | exact List.all_nil | omega | (simp only [go_sem]; done) | (simp only [ln, List.length_map]; omega) | (repeat' first | assumption | exact Ext.refl _ | refine Ext.app ?_ _)) only [go_sem, load_at h6.box, hpush, s1]; with_reducible rfl))))
      refine rounded_n s3 ⟨k + 1, pushV Hb (outTo f k).length, ?_, by omega, by omega, ?_, ?_⟩
      · rw [show (curveN l step) - (k + 1) = n by omega]
      · rw [h4, show N - (k + 1) = n by rw [hN]; omega]
      · rw [outTo_succ]; exact s2
  · rintro H' ⟨k, ov, h1, h2, h3, h4, h5⟩
    have h0 := stream_nil h1
    rw [show N - k = 0 by rw [hN]; exact h0] at h4
    have e1 : outN f B 0 N = (k, 0) := h4
    rw [e1]
    have b2 := h5.keeps.get k2 (by omega)
    have b3 := h5.keeps.get k3 (by omega)
    have xH' := h5.keeps.ext xH3 (by omega)
    have hov : ov.cells = ⟨[ov]⟩ := by rcases h5.own.ints.2 with ⟨rfl, _⟩ | ⟨id, off, c, rfl, _⟩ <;> rfl
    have b3' : (H'.set (H.length + 2) (.cells true 0 [ov]))[H.length + 3]? = some (.cells true 0 [.int .i64 0]) := by rw [List.getElem?_set_ne (by omega)]; exact b3
    ((repeat (first | refine ya (by (with_reducible constructor) <;> first | rfl | decide) ?_ | apply yb | refine yc rfl ?_ | ((first | apply yd | apply ye); simp (disch := first | exact List.all_nil | omega | (simp only [go_sem]; done) | (simp only [ln, List.length_map]; omega) | (repeat' first | assumption | exact Ext.refl _ | refine Ext.app ?_ _)) only [go_sem, load_at h5.box, store_b1 b2 h5.own.ints.atom hov, store_b1 b3' (y := .int .i64 0) rfl rfl]; with_reducible rfl))))
    refine fin_2l (u := ov) (w := .int .i64 0) (load1 (by rw [List.getElem?_set_ne (by omega)]; exact get_set_self b2)) (load1 (get_set_self b3')) ⟨ov, rfl, (xH'.set (by omega) _).set (by omega) _, ?_⟩
    exact ((h5.own.set_ne (h5.own.aside (by simp; omega)) _).set_ne (h5.own.aside (by simp; omega)) _).weaken (by simp; omega)
  · rintro x H' hx (⟨rfl, ov, h5, h6⟩ | ⟨rfl, h2, h3, h4, h5⟩)
    · have b2 := h5.keeps.get k2 (by omega)
      have b3 := h5.keeps.get k3 (by omega)
      have xH' := h5.keeps.ext xH3 (by omega)
      have hov : ov.cells = ⟨[ov]⟩ := by rcases h5.own.ints.2 with ⟨rfl, _⟩ | ⟨id, off, c, rfl, _⟩ <;> rfl
      have b3' : (H'.set (H.length + 2) (.cells true 0 [ov]))[H.length + 3]? = some (.cells true 0 [.int .i64 0]) := by rw [List.getElem?_set_ne (by omega)]; exact b3
      rw [h6]
      ((repeat (first | refine ya (by (with_reducible constructor) <;> first | rfl | decide) ?_ | apply yb | refine yc rfl ?_ | ((first | apply yd | apply ye); simp (disch := first | exact List.all_nil | omega | (simp only [go_sem]; done) | (simp only [ln, List.length_map]; omega) | (repeat' first | assumption | exact Ext.refl _ | refine Ext.app ?_ _)) only [go_sem, load_at h5.box, store_b1 b2 h5.own.ints.atom hov, store_b1 b3' (y := .int .i64 0) rfl rfl]; with_reducible rfl))))
      refine fin_2l (u := ov) (w := .int .i64 0) (load1 (by rw [List.getElem?_set_ne (by omega)]; exact get_set_self b2)) (load1 (get_set_self b3')) ⟨ov, rfl, (xH'.set (by omega) _).set (by omega) _, ?_⟩
      exact ((h5.own.set_ne (h5.own.aside (by simp; omega)) _).set_ne (h5.own.aside (by simp; omega)) _).weaken (by simp; omega)
    · rw [h2]
      ((repeat (first | refine ya (by (with_reducible constructor) <;> first | rfl | decide) ?_ | apply yb | refine yc rfl ?_ | ((first | apply yd | apply ye); simp (disch := first | exact List.all_nil | omega | (simp only [go_sem]; done) | (simp only [ln, List.length_map]; omega) | (repeat' first | assumption | exact Ext.refl _ | refine Ext.app ?_ _)) only [go_sem]; with_reducible rfl))))
      refine fin_2l (u := .slice none 0 0) (w := .int .i64 8) (load1 h3) (load1 h4) ⟨_, rfl, h5, OwnI.nil _ _⟩
end
end Go.Lq

namespace Go.Lq
open Go
open Go.Proofs

def outF (kind num den step : Int) (l : List (Int × Int)) : Nat → Int := if kind = 0 then ratioF num den else curveF l step
def outC (kind step : Int) (l : List (Int × Int)) : Nat := if kind = 0 then 2001 else curveN l step
def outsR (kind num den step : Int) (l : List (Int × Int)) (count : Int) : List Int × Int := outsL (outF kind num den step l) (outC kind step l) count
theorem rules_ratio {kind deg num den step : Int} {l : List (Int × Int)} (h : rulesErrL kind deg num den step l = 0) (h0 : kind = 0) : (1 ≤ num ∧ num ≤ 1000) ∧ (1 ≤ den ∧ den ≤ 1000) ∧ (deg = 1 ∨ deg = 3) := by
  unfold rulesErrL at h
  by_cases hk : 0 ≤ kind ∧ kind ≤ 1
  · rw [if_pos hk] at h
    by_cases hd : degErrL deg = 0
    · rw [if_pos hd, if_pos h0] at h
      unfold ratioErrL at h
      by_cases hn : (1 ≤ num ∧ num ≤ 1000) ∧ (1 ≤ den ∧ den ≤ 1000)
      · exact ⟨hn.1, hn.2, degErr_ok hd⟩
      · rw [if_neg hn] at h; exact absurd h (by simp [firstErr])
    · rw [if_neg hd] at h; exact absurd h hd
  · rw [if_neg hk] at h; exact absurd h (by decide)
theorem rules_curve {kind deg num den step : Int} {l : List (Int × Int)} (h : rulesErrL kind deg num den step l = 0) (h0 : ¬ kind = 0) : MapOk l ∧ (1 ≤ step ∧ step ≤ 1000000000000) ∧ (deg = 1 ∨ deg = 3) := by
  unfold rulesErrL at h
  by_cases hk : 0 ≤ kind ∧ kind ≤ 1
  · rw [if_pos hk] at h
    by_cases hd : degErrL deg = 0
    · rw [if_pos hd, if_neg h0] at h
      unfold curveErrL at h
      by_cases hm : mapErrL l = 0
      · rw [hm, firstErr_z] at h
        by_cases hs : 1 ≤ step ∧ step ≤ 1000000000000
        · exact ⟨mapErr_ok hm, hs, degErr_ok hd⟩
        · rw [if_neg hs] at h; exact absurd h (by simp [firstErr])
      · rw [firstErr_e hm] at h; exact absurd h hm
    · rw [if_neg hd] at h; exact absurd h hd
  · rw [if_neg hk] at h; exact absurd h (by decide)

section
variable {H : AHeap} {kind deg num den step : Int} {l : List (Int × Int)} {v : Value}
theorem outputs_c {count : Int} (hl : Pairs H l v) (he : rulesErrL kind deg num den step l = 0) (hcnt : 0 ≤ count ∧ count ≤ 400) : ACall Go.Proofs.Tryd.prog 90 [rulesV kind deg num den step v, .int .i64 count] H
    (IntsRes H (outsR kind num den step l count).1 (outsR kind num den step l count).2) := by
  by_cases h0 : kind = 0
  · obtain ⟨h1, h2, _⟩ := rules_ratio he h0
    have e : outsR kind num den step l count = outsL (ratioF num den) 2001 count := by unfold outsR outF outC; rw [if_pos h0, if_pos h0]
    rw [e]
    exact outputsR_c hl h0 h1 h2 hcnt
  · obtain ⟨h1, h2, _⟩ := rules_curve he h0
    have e : outsR kind num den step l count = outsL (curveF l step) (curveN l step) count := by unfold outsR outF outC; rw [if_neg h0, if_neg h0]
    rw [e]
    exact outputsC_c hl h0 h1 h2 hcnt
def askErrL (kind deg num den step : Int) (l : List (Int × Int)) (count : Int) : Int := firstErr [rulesErrL kind deg num den step l, (if decide (0 ≤ count ∧ count ≤ 400) = true then 0 else 2)]
def askL (kind deg num den step : Int) (l : List (Int × Int)) (count : Int) : List Int × Int := if askErrL kind deg num den step l count = 0 then outsR kind num den step l count else ([], askErrL kind deg num den step l count)
set_option maxHeartbeats 4000000 in
theorem positionsOf_c {count : Int} (hl : Pairs H l v) (hb : l.length ≤ 1000000000) : ACall Go.Proofs.Tryd.prog 31 [rulesV kind deg num den step v, .int .i64 count] H
    (IntsRes H (askL kind deg num den step l count).1 (askL kind deg num den step l count).2) := by
  refine ACall.intsE ?_
  (refine a31 ?_; simp only [n31, List.replicate, List.length_cons, List.length_nil, List.cons_append, List.nil_append]; first | refine q1 ?_ | refine q2 ?_ | refine q6 ?_ | refine q7 ?_ | refine qh rfl ?_ | skip)
  have g0 : (H ++ [AObj.cells true 0 (rulesC kind deg num den step v)])[H.length]? = some (.cells true 0 (rulesC kind deg num den step v)) := at_new
  have xG : Ext H (H ++ [AObj.cells true 0 (rulesC kind deg num den step v)]) := (Ext.refl H).app _
  have l6 : loadNR 6 (.pointer (some ⟨H.length, 0, none⟩)) (H ++ [AObj.cells true 0 (rulesC kind deg num den step v)]) = some (rulesV kind deg num den step v, H ++ [AObj.cells true 0 (rulesC kind deg num den step v)]) := loadN_at g0 (by simp [rulesC])
  ((repeat (first | refine ya (by (with_reducible constructor) <;> first | rfl | decide) ?_ | apply yb | refine yc rfl ?_ | ((first | apply yd | apply ye); simp (disch := first | exact List.all_nil | omega | (simp only [go_sem]; done) | (simp only [ln, List.length_map]; omega) | (repeat' first | assumption | exact Ext.refl _ | refine Ext.app ?_ _)) only [go_sem, box_rules hl.atom, l6]; with_reducible rfl))))
  generalize (H ++ [AObj.cells true 0 (rulesC kind deg num den step v)] : AHeap) = G at g0 xG l6
  refine aops_call_to (checkRules_c (hl.ext xG) hb) ?_
  ((repeat (first | refine ya (by (with_reducible constructor) <;> first | rfl | decide) ?_ | apply yb | refine yc rfl ?_ | ((first | apply yd | apply ye); simp (disch := first | exact List.all_nil | omega | (simp only [go_sem]; done) | (simp only [ln, List.length_map]; omega) | (repeat' first | assumption | exact Ext.refl _ | refine Ext.app ?_ _)) only [go_sem]; with_reducible rfl))))
  refine aops_call_to (within_c _ _ _) ?_
  ((repeat (first | refine ya (by (with_reducible constructor) <;> first | rfl | decide) ?_ | apply yb | refine yc rfl ?_ | ((first | apply yd | apply ye); simp (disch := first | exact List.all_nil | omega | (simp only [go_sem]; done) | (simp only [ln, List.length_map]; omega) | (repeat' first | assumption | exact Ext.refl _ | refine Ext.app ?_ _)) only [go_sem]; with_reducible rfl))))
  refine aops_call_to (unless_c _ _) ?_
  ((repeat (first | refine ya (by (with_reducible constructor) <;> first | rfl | decide) ?_ | apply yb | refine yc rfl ?_ | ((first | apply yd | apply ye); simp (disch := first | exact List.all_nil | omega | (simp only [go_sem]; done) | (simp only [ln, List.length_map]; omega) | (repeat' first | assumption | exact Ext.refl _ | refine Ext.app ?_ _)) only [go_sem]; with_reducible rfl))))
  refine aops_call_to (first_c (l := [_, _]) (Ints.last (l := [_, _]) 2) (by simp)) ?_
  have he : firstErr [rulesErrL kind deg num den step l, (if decide (0 ≤ count ∧ count ≤ 400) = true then 0 else 2)] = askErrL kind deg num den step l count := rfl
  rw [he]
  have x2 : Ext G (G ++ [AObj.cells true 1 [.int .i64 (rulesErrL kind deg num den step l), .int .i64 (if decide (0 ≤ count ∧ count ≤ 400) = true then 0 else 2)]]) := (Ext.refl G).app _
  generalize (G ++ [AObj.cells true 1 [.int .i64 (rulesErrL kind deg num den step l), .int .i64 (if decide (0 ≤ count ∧ count ≤ 400) = true then 0 else 2)]] : AHeap) = G2 at x2
  have xH2 := xG.trans x2
  have k6 : loadNR 6 (.pointer (some ⟨H.length, 0, none⟩)) G2 = some (rulesV kind deg num den step v, G2) := loadN_at (x2.cell g0) (by simp [rulesC])
  ((repeat (first | refine ya (by (with_reducible constructor) <;> first | rfl | decide) ?_ | apply yb | refine yc rfl ?_ | ((first | apply yd | apply ye); simp (disch := first | exact List.all_nil | omega | (simp only [go_sem]; done) | (simp only [ln, List.length_map]; omega) | (repeat' first | assumption | exact Ext.refl _ | refine Ext.app ?_ _)) only [go_sem]; with_reducible rfl))))
  refine cond_p rfl (fun hne => ?_) (fun heq => ?_)
  · have ev : askL kind deg num den step l count = ([], askErrL kind deg num den step l count) := by unfold askL; rw [if_neg hne]
    rw [ev]
    ((repeat (first | refine ya (by (with_reducible constructor) <;> first | rfl | decide) ?_ | apply yb | refine yc rfl ?_ | ((first | apply yd | apply ye); simp (disch := first | exact List.all_nil | omega | (simp only [go_sem]; done) | (simp only [ln, List.length_map]; omega) | (repeat' first | assumption | exact Ext.refl _ | refine Ext.app ?_ _)) only [go_sem]; with_reducible rfl))))
    exact fin_2 ⟨_, rfl, xH2, OwnI.nil _ _⟩
  · have hz := Decidable.not_not.1 heq
    have ev : askL kind deg num den step l count = outsR kind num den step l count := by unfold askL; rw [if_pos hz]
    have hr : rulesErrL kind deg num den step l = 0 := by
      refine Decidable.byContradiction fun hn => ?_
      unfold askErrL at hz
      rw [firstErr_e hn] at hz; exact hn hz
    have hc : 0 ≤ count ∧ count ≤ 400 := by
      refine Decidable.byContradiction fun hn => ?_
      unfold askErrL at hz
      rw [hr, firstErr_z, decide_eq_false hn] at hz
      exact absurd hz (by decide)
    rw [ev]
    ((repeat (first | refine ya (by (with_reducible constructor) <;> first | rfl | decide) ?_ | apply yb | refine yc rfl ?_ | ((first | apply yd | apply ye); simp (disch := first | exact List.all_nil | omega | (simp only [go_sem]; done) | (simp only [ln, List.length_map]; omega) | (repeat' first | assumption | exact Ext.refl _ | refine Ext.app ?_ _)) only [go_sem, k6]; with_reducible rfl))))
    refine aops_call ((outputs_c (hl.ext xH2) hr hc).mono fun u G3 hu => ?_)
    obtain ⟨rfl, rfl⟩ := hu
    ((repeat (first | refine ya (by (with_reducible constructor) <;> first | rfl | decide) ?_ | apply yb | refine yc rfl ?_ | ((first | apply yd | apply ye); simp (disch := first | exact List.all_nil | omega | (simp only [go_sem]; done) | (simp only [ln, List.length_map]; omega) | (repeat' first | assumption | exact Ext.refl _ | refine Ext.app ?_ _)) only [go_sem]; with_reducible rfl))))
    exact fin_2 ⟨_, rfl, xH2.app _, OwnI.ret_own xH2.len⟩
end
end Go.Lq


namespace Go.Lq
open Go
open Go.Proofs

def yL (deg : Int) (x : List Int) (q : Int) : Int := min (max ((2 * valueL deg x q + denL deg) / (2 * denL deg)) (-32767)) 32767
def midL (qs : List Int) (y : Int → Int) (i : Nat) : List Int := (qs.take i).map y ++ qs.drop i
theorem midL_len {qs : List Int} {y : Int → Int} {i : Nat} : (midL qs y i).length = qs.length := by
  unfold midL; simp; omega
theorem midL_zero {qs : List Int} {y : Int → Int} : midL qs y 0 = qs := by simp [midL]
theorem midL_all {qs : List Int} {y : Int → Int} : midL qs y qs.length = qs.map y := by simp [midL]
theorem midL_getD {qs : List Int} {y : Int → Int} {i : Nat} (h : i < qs.length) : (midL qs y i).getD i 0 = qs.getD i 0 := by
  unfold midL
  rw [List.getD_eq_getElem?_getD, List.getElem?_append_right (by simp; omega), List.getD_eq_getElem?_getD, List.getElem?_drop]
  have : i + (i - ((qs.take i).map y).length) = i := by simp; omega
  rw [this]
theorem midL_set {qs : List Int} {y : Int → Int} {i : Nat} (h : i < qs.length) : (midL qs y i).set i (y (qs.getD i 0)) = midL qs y (i + 1) := by
  have hl : ((qs.take i).map y).length = i := by simp; omega
  unfold midL
  rw [List.set_append_right _ _ (by omega), hl, Nat.sub_self, List.drop_eq_getElem_cons h, List.set_cons_zero]
  rw [List.take_add_one, List.getElem?_eq_getElem h, List.map_append, List.getD_eq_getElem?_getD, List.getElem?_eq_getElem h]
  simp
theorem outN_bound {f : Nat → Int} {B : Int} : ∀ {n k j : Nat}, k ≤ j → j < (outN f B k n).1 → f j ≤ B ∧ j < k + n
  | 0, k, j, h1, h2 => by have : j < k := h2; omega
  | n + 1, k, j, h1, h2 => by
    rw [outN_succ] at h2
    by_cases hq : B < f k
    · rw [if_pos hq] at h2
      have : j < k := h2
      omega
    · rw [if_neg hq] at h2
      by_cases hk : k = 2000
      · rw [if_pos hk] at h2
        have : j < 0 := h2
        omega
      · rw [if_neg hk] at h2
        by_cases e : j = k
        · subst e; exact ⟨by omega, by omega⟩
        · have := outN_bound (n := n) (k := k + 1) (j := j) (by omega) h2
          exact ⟨this.1, by omega⟩
theorem posLo_nn {p : (Int × Int) × (Int × Int)} {t : Int} (h1 : 0 ≤ p.1.1) (h2 : p.1.1 ≤ p.2.1) (h3 : p.1.2 < p.2.2) (h4 : p.1.2 ≤ t) : 0 ≤ posLo p t := by
  unfold posLo posN
  have := Int.ediv_nonneg (Int.mul_nonneg (show 0 ≤ t - p.1.2 by omega) (show 0 ≤ 64 * (p.2.1 - p.1.1) by omega)) (show 0 ≤ p.2.2 - p.1.2 by omega)
  omega
theorem atTime_in {l : List (Int × Int)} {t : Int} : ∀ {k i : Nat}, i + k + 1 < l.length → (l.getD i (0, 0)).2 ≤ t → atTime l t i k + 1 < l.length ∧ (l.getD (atTime l t i k) (0, 0)).2 ≤ t
  | 0, i, h, h2 => ⟨by show i + 1 < _; omega, h2⟩
  | k + 1, i, h, h2 => by
    rw [atTime_succ]
    split
    · exact atTime_in (by omega) (by omega)
    · exact ⟨by omega, h2⟩
theorem outs_in {kind deg num den step count : Int} {l : List (Int × Int)} (he : rulesErrL kind deg num den step l = 0) (i : Nat) (hi : i < (outsR kind num den step l count).1.length) :
    0 ≤ (outsR kind num den step l count).1.getD i 0 ∧ (outsR kind num den step l count).1.getD i 0 ≤ 64 * (count - 1) := by
  unfold outsR outsL at hi ⊢
  rw [outTo_len] at hi
  have hb := outN_bound (Nat.zero_le i) hi
  have e : (outTo (outF kind num den step l) (outN (outF kind num den step l) (64 * (count - 1)) 0 (outC kind step l)).1).getD i 0 = outF kind num den step l i := by
    unfold outTo
    rw [List.getD_eq_getElem?_getD, List.getElem?_map, List.getElem?_range hi]; rfl
  rw [e]
  refine ⟨?_, hb.1⟩
  unfold outF
  by_cases h0 : kind = 0
  · obtain ⟨h1, h2, _⟩ := rules_ratio he h0
    rw [if_pos h0]
    exact Int.ediv_nonneg (Int.mul_nonneg (by omega) (by omega)) (by omega)
  · obtain ⟨hok, hs, _⟩ := rules_curve he h0
    rw [if_neg h0]
    have hN : i < curveN l step := by have := hb.2; unfold outC at this; rw [if_neg h0] at this; omega
    rw [curveF_eq hok (by omega) hN]
    have hlo := hok.lo
    have ht := Int.mul_nonneg (show (0 : Int) ≤ i by omega) (show 0 ≤ step by omega)
    obtain ⟨a1, a2⟩ := atTime_in (l := l) (t := t0L l + i * step) (k := l.length - 2) (i := 0) (by omega) (show t0L l ≤ _ by omega)
    have p1 := hok.pos _ (show atTime l (t0L l + i * step) 0 (l.length - 2) < l.length by omega)
    have p2 := hok.posUp _ a1
    have p3 := hok.timeUp _ a1
    exact posLo_nn p1.1 (Int.le_of_lt p2) p3 a2
end Go.Lq

namespace Go.Lq
open Go
open Go.Proofs

theorem cells3 : Tryd.prog.cellsOf 3 = 1 := by kernel_rfl
set_option maxRecDepth 100000 in
theorem repMap {H : AHeap} {s : Value} (h : Rep Tryd.prog H 24 [s]) : ∃ l, Pairs H l s ∧ l.length ≤ maxLen := by
  obtain ⟨_, hf⟩ := h.struct_inv Tryd.underlying24
  have h0 : Rep Tryd.prog H 22 (([s].drop 0).take (Tryd.prog.cellsOf 22)) := hf 0 _ rfl
  rw [show Tryd.prog.cellsOf 22 = 1 by kernel_rfl] at h0
  have h1 : Rep Tryd.prog H 22 [s] := h0
  obtain ⟨l, h2, h3, _⟩ := (RepA.of_slice Tryd.underlying22 h1).pairs Tryd.underlying22 Tryd.underlying72 (by kernel_rfl) rfl rfl rfl rfl Tryd.underlying3 Tryd.underlying3 cells3 cells3
  exact ⟨l, h2, h3⟩
set_option maxRecDepth 100000 in
theorem repRules {H : AHeap} {v : Value} (h : RepA Tryd.prog H 26 v) : ∃ kind deg num den step s l, v = rulesV kind deg num den step s ∧ Pairs H l s ∧ l.length ≤ maxLen := by
  obtain ⟨acs, rfl, hr⟩ := h.struct Tryd.underlying26
  obtain ⟨hl, hf⟩ := hr.struct_inv Tryd.underlying26
  rw [show Tryd.prog.cellsOf 26 = 6 by kernel_rfl] at hl
  match acs, hl with
  | [a, b, c, d, e, s], _ =>
    have h0 : Rep Tryd.prog H 3 (([a, b, c, d, e, s].drop 0).take (Tryd.prog.cellsOf 3)) := hf 0 _ rfl
    have h1 : Rep Tryd.prog H 3 (([a, b, c, d, e, s].drop 1).take (Tryd.prog.cellsOf 3)) := hf 1 _ rfl
    have h2 : Rep Tryd.prog H 3 (([a, b, c, d, e, s].drop 2).take (Tryd.prog.cellsOf 3)) := hf 2 _ rfl
    have h3 : Rep Tryd.prog H 3 (([a, b, c, d, e, s].drop 3).take (Tryd.prog.cellsOf 3)) := hf 3 _ rfl
    have h4 : Rep Tryd.prog H 3 (([a, b, c, d, e, s].drop 4).take (Tryd.prog.cellsOf 3)) := hf 4 _ rfl
    have h5 : Rep Tryd.prog H 24 (([a, b, c, d, e, s].drop 5).take (Tryd.prog.cellsOf 24)) := hf 5 _ rfl
    rw [cells3] at h0 h1 h2 h3 h4
    rw [show Tryd.prog.cellsOf 24 = 1 by kernel_rfl] at h5
    obtain ⟨n0, e0, _⟩ := h0.int_inv Tryd.underlying3
    obtain ⟨n1, e1, _⟩ := h1.int_inv Tryd.underlying3
    obtain ⟨n2, e2, _⟩ := h2.int_inv Tryd.underlying3
    obtain ⟨n3, e3, _⟩ := h3.int_inv Tryd.underlying3
    obtain ⟨n4, e4, _⟩ := h4.int_inv Tryd.underlying3
    have e0' : [a] = [.int .i64 n0] := e0
    have e1' : [b] = [.int .i64 n1] := e1
    have e2' : [c] = [.int .i64 n2] := e2
    have e3' : [d] = [.int .i64 n3] := e3
    have e4' : [e] = [.int .i64 n4] := e4
    cases e0'; cases e1'; cases e2'; cases e3'; cases e4'
    obtain ⟨l, h6, h7⟩ := repMap (s := s) h5
    exact ⟨n0, n1, n2, n3, n4, s, l, rfl, h6, h7⟩
theorem ask_z {kind deg num den step count : Int} {l : List (Int × Int)} (h : rulesErrL kind deg num den step l = 0) (hc : 0 ≤ count ∧ count ≤ 400) : askL kind deg num den step l count = outsR kind num den step l count := by
  have e : askErrL kind deg num den step l count = 0 := by unfold askErrL; rw [h, firstErr_z, decide_eq_true hc]; rfl
  unfold askL; rw [e, if_pos rfl]
theorem outN_two {f : Nat → Int} {B : Int} : ∀ {n k : Nat}, k ≤ 2000 → ((outN f B k n).2 = 0 ∧ (outN f B k n).1 ≤ k + n) ∨ outN f B k n = (0, 8)
  | 0, k, _ => .inl ⟨rfl, Nat.le_refl _⟩
  | n + 1, k, hk => by
    rw [outN_succ]
    split
    · exact .inl ⟨rfl, by show k ≤ _; omega⟩
    · split
      · exact .inr rfl
      · rcases outN_two (f := f) (B := B) (n := n) (k := k + 1) (by omega) with ⟨h1, h2⟩ | h
        · exact .inl ⟨h1, by omega⟩
        · exact .inr h
theorem outN_le {f : Nat → Int} {B : Int} : ∀ {n k : Nat}, k ≤ 2000 → (outN f B k n).1 ≤ 2000
  | 0, k, h => h
  | n + 1, k, hk => by
    rw [outN_succ]
    split
    · exact hk
    · split
      · exact Nat.zero_le _
      · exact outN_le (by omega)
theorem outs_two (kind num den step count : Int) (l : List (Int × Int)) : (outsR kind num den step l count).1.length ≤ 2000 ∧ ((outsR kind num den step l count).2 = 0 ∨ outsR kind num den step l count = ([], 8)) := by
  unfold outsR outsL
  refine ⟨by rw [outTo_len]; exact outN_le (Nat.zero_le _), ?_⟩
  rcases outN_two (f := outF kind num den step l) (B := 64 * (count - 1)) (n := outC kind step l) (k := 0) (by omega) with ⟨h1, _⟩ | h
  · exact .inl h1
  · exact .inr (by rw [h]; rfl)
end Go.Lq

namespace Go.Lq
open Go
open Go.Proofs

def resErrL (kind deg num den step : Int) (l : List (Int × Int)) (x : List Int) : Int := firstErr [rulesErrL kind deg num den step l, signalErrL x]
def resL (kind deg num den step : Int) (l : List (Int × Int)) (x : List Int) : List Int × Int :=
  if resErrL kind deg num den step l x = 0 then
    (if (outsR kind num den step l x.length).2 = 0 then ((outsR kind num den step l x.length).1.map (yL deg x), 0) else ([], (outsR kind num den step l x.length).2))
  else ([], resErrL kind deg num den step l x)
theorem resErr_ok {kind deg num den step : Int} {l : List (Int × Int)} {x : List Int} (h : resErrL kind deg num den step l x = 0) : rulesErrL kind deg num den step l = 0 ∧ signalErrL x = 0 := by
  unfold resErrL at h
  by_cases h1 : rulesErrL kind deg num den step l = 0
  · refine ⟨h1, ?_⟩
    rw [h1, firstErr_z] at h
    refine Decidable.byContradiction fun hn => ?_
    rw [firstErr_e hn] at h; exact hn h
  · rw [firstErr_e h1] at h; exact absurd h h1
theorem rules_deg {kind deg num den step : Int} {l : List (Int × Int)} (h : rulesErrL kind deg num den step l = 0) : deg = 1 ∨ deg = 3 := by
  by_cases h0 : kind = 0
  · exact (rules_ratio h h0).2.2
  · exact (rules_curve h h0).2.2
def kernH (G : AHeap) (m : List Int) (deg : Int) : AHeap := G ++ [.cells true 1 (m.map (.int .i64))] ++ [.cells true 0 (kern deg)]
section
variable {G : AHeap} {m : List Int} {deg : Int}
theorem kernH_s : (kernH G m deg)[G.length]? = some (.cells true 1 (m.map (.int .i64))) := by simp [kernH]
theorem kernH_k : (kernH G m deg)[G.length + 1]? = some (.cells true 0 (kern deg)) := by simp [kernH]
theorem kernH_x : Ext G (kernH G m deg) := ((Ext.refl G).app _).app _
theorem kernH_set {i : Nat} {x : Int} : (kernH G m deg).set G.length (.cells true 1 ((m.set i x).map (.int .i64))) = kernH G (m.set i x) deg := set_in
theorem kernH_ints {n : Nat} (h : m.length = n) : Ints (kernH G m deg) m (.slice (some ⟨G.length, 0, none⟩) n n) := by
  subst h
  exact ints_first (b := true) (r := []) (by rw [List.append_nil]; exact kernH_s)
theorem den_bound (deg : Int) : 0 < denL deg ∧ denL deg ≤ 1572864 := by unfold denL; split <;> omega
end

section
variable {H : AHeap} {kind deg num den step : Int} {l : List (Int × Int)} {v w : Value} {x : List Int}
set_option maxHeartbeats 8000000 in
theorem resampled_c (hx : Ext H0 H) (hl : Pairs H l v) (hb : l.length ≤ 1000000000) (hX : Ints H x w) (hxl : x.length ≤ 1000000000) : ACall Go.Proofs.Tryd.prog 23 [rulesV kind deg num den step v, w] H
    (IntsRes H (resL kind deg num den step l x).1 (resL kind deg num den step l x).2) := by
  refine ACall.intsE ?_
  (refine a23 ?_; simp only [n23, List.replicate, List.length_cons, List.length_nil, List.cons_append, List.nil_append]; first | refine q1 ?_ | refine q2 ?_ | refine q6 ?_ | refine q7 ?_ | refine qh rfl ?_ | skip)
  have g0 : (H ++ [AObj.cells true 0 (rulesC kind deg num den step v)])[H.length]? = some (.cells true 0 (rulesC kind deg num den step v)) := at_new
  have xG : Ext H (H ++ [AObj.cells true 0 (rulesC kind deg num den step v)]) := (Ext.refl H).app _
  have l6 : loadNR 6 (.pointer (some ⟨H.length, 0, none⟩)) (H ++ [AObj.cells true 0 (rulesC kind deg num den step v)]) = some (rulesV kind deg num den step v, H ++ [AObj.cells true 0 (rulesC kind deg num den step v)]) := loadN_at g0 (by simp [rulesC])
  ((repeat (first | refine ya (by (with_reducible constructor) <;> first | rfl | decide) ?_ | apply yb | refine yc rfl ?_ | ((first | apply yd | apply ye); simp (disch := first | exact List.all_nil | omega | (simp only [go_sem]; done) | (simp only [ln, List.length_map]; omega) | (repeat' first | assumption | exact Ext.refl _ | refine Ext.app ?_ _)) only [go_sem, box_rules hl.atom, l6]; with_reducible rfl))))
  generalize (H ++ [AObj.cells true 0 (rulesC kind deg num den step v)] : AHeap) = G at g0 xG l6
  refine aops_call_to (checkRules_c (hl.ext xG) hb) ?_
  ((repeat (first | refine ya (by (with_reducible constructor) <;> first | rfl | decide) ?_ | apply yb | refine yc rfl ?_ | ((first | apply yd | apply ye); simp (disch := first | exact List.all_nil | omega | (simp only [go_sem]; done) | (simp only [ln, List.length_map]; omega) | (repeat' first | assumption | exact Ext.refl _ | refine Ext.app ?_ _)) only [go_sem]; with_reducible rfl))))
  refine aops_call_to (signalErr_c (hX.ext xG) hxl) ?_
  ((repeat (first | refine ya (by (with_reducible constructor) <;> first | rfl | decide) ?_ | apply yb | refine yc rfl ?_ | ((first | apply yd | apply ye); simp (disch := first | exact List.all_nil | omega | (simp only [go_sem]; done) | (simp only [ln, List.length_map]; omega) | (repeat' first | assumption | exact Ext.refl _ | refine Ext.app ?_ _)) only [go_sem]; with_reducible rfl))))
  refine aops_call_to (first_c (l := [_, _]) (Ints.last (l := [_, _]) 2) (by simp)) ?_
  have he : firstErr [rulesErrL kind deg num den step l, signalErrL x] = resErrL kind deg num den step l x := rfl
  rw [he]
  have x2 : Ext G (G ++ [AObj.cells true 1 [.int .i64 (rulesErrL kind deg num den step l), .int .i64 (signalErrL x)]]) := (Ext.refl G).app _
  generalize (G ++ [AObj.cells true 1 [.int .i64 (rulesErrL kind deg num den step l), .int .i64 (signalErrL x)]] : AHeap) = G2 at x2
  have xH2 := xG.trans x2
  have k0 := x2.cell g0
  have k6 : loadNR 6 (.pointer (some ⟨H.length, 0, none⟩)) G2 = some (rulesV kind deg num den step v, G2) := loadN_at k0 (by simp [rulesC])
  ((repeat (first | refine ya (by (with_reducible constructor) <;> first | rfl | decide) ?_ | apply yb | refine yc rfl ?_ | ((first | apply yd | apply ye); simp (disch := first | exact List.all_nil | omega | (simp only [go_sem]; done) | (simp only [ln, List.length_map]; omega) | (repeat' first | assumption | exact Ext.refl _ | refine Ext.app ?_ _)) only [go_sem]; with_reducible rfl))))
  refine cond_p rfl (fun hne => ?_) (fun heq => ?_)
  · have ev : resL kind deg num den step l x = ([], resErrL kind deg num den step l x) := by unfold resL; rw [if_neg hne]
    rw [ev]
    ((repeat (first | refine ya (by (with_reducible constructor) <;> first | rfl | decide) ?_ | apply yb | refine yc rfl ?_ | ((first | apply yd | apply ye); simp (disch := first | exact List.all_nil | omega | (simp only [go_sem]; done) | (simp only [ln, List.length_map]; omega) | (repeat' first | assumption | exact Ext.refl _ | refine Ext.app ?_ _)) only [go_sem]; with_reducible rfl))))
    exact fin_2 ⟨_, rfl, xH2, OwnI.nil _ _⟩
  have hz := Decidable.not_not.1 heq
  obtain ⟨hr, hs⟩ := resErr_ok hz
  have hd := rules_deg hr
  obtain ⟨s1, s2⟩ := signalErr_ok hs
  have hX2 := hX.ext xH2
  ((repeat (first | refine ya (by (with_reducible constructor) <;> first | rfl | decide) ?_ | apply yb | refine yc rfl ?_ | ((first | apply yd | apply ye); simp (disch := first | exact List.all_nil | omega | (simp only [go_sem]; done) | (simp only [ln, List.length_map]; omega) | (repeat' first | assumption | exact Ext.refl _ | refine Ext.app ?_ _)) only [go_sem, hX2.len, hX2.idx, hX2.load, k6]; with_reducible rfl))))
  refine aops_call ((outputs_c (count := (x.length : Int)) (hl.ext xH2) hr ⟨by omega, by omega⟩).mono fun u G3 hu => ?_)
  obtain ⟨rfl, rfl⟩ := hu
  obtain ⟨ol, otw⟩ := outs_two kind num den step (x.length : Int) l
  have hin := outs_in (count := (x.length : Int)) hr
  have ev : resL kind deg num den step l x = if (outsR kind num den step l x.length).2 = 0 then ((outsR kind num den step l x.length).1.map (yL deg x), 0) else ([], (outsR kind num den step l x.length).2) := by unfold resL; rw [if_pos hz]
  rw [ev]
  rcases otw with h0 | h8
  rotate_left 1
  · rw [h8]
    ((repeat (first | refine ya (by (with_reducible constructor) <;> first | rfl | decide) ?_ | apply yb | refine yc rfl ?_ | ((first | apply yd | apply ye); simp (disch := first | exact List.all_nil | omega | (simp only [go_sem]; done) | (simp only [ln, List.length_map]; omega) | (repeat' first | assumption | exact Ext.refl _ | refine Ext.app ?_ _)) only [go_sem]; with_reducible rfl))))
    refine cond_t rfl ?_
    ((repeat (first | refine ya (by (with_reducible constructor) <;> first | rfl | decide) ?_ | apply yb | refine yc rfl ?_ | ((first | apply yd | apply ye); simp (disch := first | exact List.all_nil | omega | (simp only [go_sem]; done) | (simp only [ln, List.length_map]; omega) | (repeat' first | assumption | exact Ext.refl _ | refine Ext.app ?_ _)) only [go_sem]; with_reducible rfl))))
    exact fin_2 ⟨_, rfl, xH2.app _, OwnI.nil _ _⟩
  rw [h0, if_pos rfl]
  generalize (outsR kind num den step l x.length).1 = qs at ol hin ⊢
  ((repeat (first | refine ya (by (with_reducible constructor) <;> first | rfl | decide) ?_ | apply yb | refine yc rfl ?_ | ((first | apply yd | apply ye); simp (disch := first | exact List.all_nil | omega | (simp only [go_sem]; done) | (simp only [ln, List.length_map]; omega) | (repeat' first | assumption | exact Ext.refl _ | refine Ext.app ?_ _)) only [go_sem]; with_reducible rfl))))
  refine cond_f rfl ?_
  have xG3 : Ext G2 (G2 ++ retN 1 qs.length (qs.map (.int .i64))) := ⟨_, rfl⟩
  have hx3 := (hx.trans xH2).trans xG3
  have n0 := xG3.cell k0
  have hdg : loadR (.pointer (some ⟨H.length, 1, none⟩)) (G2 ++ retN 1 qs.length (qs.map (.int .i64))) = some (.int .i64 deg, G2 ++ retN 1 qs.length (qs.map (.int .i64))) := by rw [load_at n0]; rfl
  have hR : Ints (G2 ++ retN 1 qs.length (qs.map (.int .i64)) ++ [AObj.cells true 0 (kern deg)]) qs (retV G2 qs.length) := Ints.ret.ext ((Ext.refl _).app _)
  ((repeat (first | refine ya (by (with_reducible constructor) <;> first | rfl | decide) ?_ | apply yb | refine yc rfl ?_ | ((first | apply yd | apply ye); simp (disch := first | exact List.all_nil | omega | (simp only [go_sem]; done) | (simp only [ln, List.length_map]; omega) | (repeat' first | assumption | exact Ext.refl _ | refine Ext.app ?_ _)) only [go_sem, hR.len, hR.idx, hR.load, hdg, kern_idx hd, kern_load hx3 hd, store_kern]; with_reducible rfl))))
  by_cases hn : qs.length = 0
  · have hq0 : qs = [] := List.length_eq_zero_iff.1 hn
    subst hq0
    refine awp_loop_n [false, false, false, false, false, false, false, true, false, false, false, false, false, false, false, false, false, false, false, false, false, false, false, false, false, false, false, false, false, false, false, false, false, false, false, false, true, true, true, false, false, false, false, false, false, false, false, false, false, false, false, false, false, false, false, false, false, false, false, false, false, false, false] 0 (fun i e H' => H' = G2 ++ retN 1 0 [] ++ [AObj.cells true 0 (kern deg)] ∧ e = [junk, junk, junk, junk, junk, junk, junk, retV G2 0, junk, junk, junk, junk, junk, junk, junk, junk, junk, junk, junk, junk, junk, junk, junk, junk, junk, junk, junk, junk, junk, junk, junk, junk, junk, junk, junk, junk, retV G2 0, .int .i64 ((0 : Nat) : Int), .int .i64 i, junk, junk, junk, junk, junk, junk, junk, junk, junk, junk, junk, junk, junk, junk, junk, junk, junk, junk, junk, junk, junk, junk, junk, junk]) ?_ ?_
    · exact ⟨rfl, by simp [forget]⟩
    rintro i e H' hi ⟨rfl, rfl⟩
    obtain rfl : i = 0 := by omega
    ((repeat (first | refine ya (by (with_reducible constructor) <;> first | rfl | decide) ?_ | apply yb | refine yc rfl ?_ | ((first | apply yd | apply ye); simp (disch := first | exact List.all_nil | omega | (simp only [go_sem]; done) | (simp only [ln, List.length_map]; omega) | (repeat' first | assumption | exact Ext.refl _ | refine Ext.app ?_ _)) only [go_sem, dec_f (show ¬ ((0 : Nat) : Int) < ((0 : Nat) : Int) by decide)]; with_reducible rfl))))
    refine cond_f rfl ?_
    ((repeat (first | refine ya (by (with_reducible constructor) <;> first | rfl | decide) ?_ | apply yb | refine yc rfl ?_ | ((first | apply yd | apply ye); simp (disch := first | exact List.all_nil | omega | (simp only [go_sem]; done) | (simp only [ln, List.length_map]; omega) | (repeat' first | assumption | exact Ext.refl _ | refine Ext.app ?_ _)) only [go_sem]; with_reducible rfl))))
    exact fin_2 ⟨_, rfl, (xH2.app _).app _, OwnI.nil _ _⟩
  have erV : retV G2 qs.length = .slice (some ⟨G2.length, 0, none⟩) qs.length qs.length := by unfold retV; rw [if_neg hn]
  have erN : G2 ++ retN 1 qs.length (qs.map (.int .i64)) ++ [AObj.cells true 0 (kern deg)] = kernH G2 qs deg := by unfold retN kernH; rw [if_neg hn]
  have erL : (G2 ++ retN 1 qs.length (qs.map (.int .i64))).length = G2.length + 1 := by unfold retN; rw [if_neg hn]; simp
  rw [erN, erL, erV]
  obtain ⟨n, hnn⟩ : ∃ n, qs.length = n := ⟨_, rfl⟩
  rw [hnn]
  refine awp_loop_n [false, true, false, false, false, false, false, true, false, true, false, false, false, false, false, false, false, false, false, false, false, false, false, false, false, false, false, false, false, false, false, false, false, false, false, false, true, true, true, false, false, false, false, false, false, false, false, false, false, false, false, false, false, false, false, false, false, false, false, false, false, false, false] n (fun i e H' => H' = kernH G2 (midL qs (yL deg x) i) deg ∧ e = [junk, w, junk, junk, junk, junk, junk, .slice (some ⟨G2.length, 0, none⟩) n n, junk, .pointer (some ⟨G2.length + 1, 0, none⟩), junk, junk, junk, junk, junk, junk, junk, junk, junk, junk, junk, junk, junk, junk, junk, junk, junk, junk, junk, junk, junk, junk, junk, junk, junk, junk, .slice (some ⟨G2.length, 0, none⟩) n n, .int .i64 n, .int .i64 i, junk, junk, junk, junk, junk, junk, junk, junk, junk, junk, junk, junk, junk, junk, junk, junk, junk, junk, junk, junk, junk, junk, junk, junk]) ?_ ?_
  · exact ⟨by rw [midL_zero], by simp [forget]⟩
  rintro i e H' hi ⟨rfl, rfl⟩
  have hml : (midL qs (yL deg x) i).length = n := by rw [midL_len, hnn]
  have ho := kernH_ints (G := G2) (deg := deg) hml
  have hXm := hX2.ext (kernH_x (G := G2) (m := midL qs (yL deg x) i) (deg := deg))
  ((repeat (first | refine ya (by (with_reducible constructor) <;> first | rfl | decide) ?_ | apply yb | refine yc rfl ?_ | ((first | apply yd | apply ye); simp (disch := first | exact List.all_nil | omega | (simp only [go_sem]; done) | (simp only [ln, List.length_map]; omega) | (repeat' first | assumption | exact Ext.refl _ | refine Ext.app ?_ _)) only [go_sem]; with_reducible rfl))))
  refine cond_p rfl (fun hlt => ?_) (fun hge => ?_)
  · have hi' : i < qs.length := by omega
    have hq := hin i hi'
    have eg := midL_getD (y := yL deg x) hi'
    have vb := value_bound (q := qs.getD i 0) hd s2 hq.1
    have db := den_bound deg
    have kk := kernH_k (G := G2) (m := midL qs (yL deg x) i) (deg := deg)
    have fb := ediv_bound (n := 2 * valueL deg x (qs.getD i 0) + denL deg) (b := 2 * denL deg) (m := 4000000000000000000) (by omega) ⟨by omega, by omega⟩
    have hst := store_cellI (n := n) (c := n) (i := i) (kernH_s (G := G2) (m := midL qs (yL deg x) i) (deg := deg)) (by omega) (yL deg x (qs.getD i 0))
    rw [kernH_set, midL_set hi'] at hst
    have ey : min (max ((2 * valueL deg x (qs.getD i 0) + denL deg) / (2 * denL deg)) (-32767)) 32767 = yL deg x (qs.getD i 0) := rfl
    ((repeat (first | refine ya (by (with_reducible constructor) <;> first | rfl | decide) ?_ | apply yb | refine yc rfl ?_ | ((first | apply yd | apply ye); simp (disch := first | exact List.all_nil | omega | (simp only [go_sem]; done) | (simp only [ln, List.length_map]; omega) | (repeat' first | assumption | exact Ext.refl _ | refine Ext.app ?_ _)) only [go_sem, ho.len, ho.idx, ho.load, eg, kern_all kk]; with_reducible rfl))))
    refine adraw_call (N := []) (firstD (value_c hd hXm s1 s2 hq)) ?_
    rw [List.append_nil]
    ((repeat (first | refine ya (by (with_reducible constructor) <;> first | rfl | decide) ?_ | apply yb | refine yc rfl ?_ | ((first | apply yd | apply ye); simp (disch := first | exact List.all_nil | omega | (simp only [go_sem]; done) | (simp only [ln, List.length_map]; omega) | (repeat' first | assumption | exact Ext.refl _ | refine Ext.app ?_ _)) only [go_sem, kern_den kk]; with_reducible rfl))))
    refine adraw_call (N := []) (firstD (rfloor_c _ _ (by omega) (by omega))) ?_
    rw [List.append_nil]
    ((repeat (first | refine ya (by (with_reducible constructor) <;> first | rfl | decide) ?_ | apply yb | refine yc rfl ?_ | ((first | apply yd | apply ye); simp (disch := first | exact List.all_nil | omega | (simp only [go_sem]; done) | (simp only [ln, List.length_map]; omega) | (repeat' first | assumption | exact Ext.refl _ | refine Ext.app ?_ _)) only [go_sem, ho.len, ho.idx, ho.load, ey, hst]; with_reducible rfl))))
    exact ⟨by omega, rfl, by simp [forget]⟩
  · obtain rfl : i = n := by omega
    ((repeat (first | refine ya (by (with_reducible constructor) <;> first | rfl | decide) ?_ | apply yb | refine yc rfl ?_ | ((first | apply yd | apply ye); simp (disch := first | exact List.all_nil | omega | (simp only [go_sem]; done) | (simp only [ln, List.length_map]; omega) | (repeat' first | assumption | exact Ext.refl _ | refine Ext.app ?_ _)) only [go_sem]; with_reducible rfl))))
    have em : midL qs (yL deg x) i = qs.map (yL deg x) := by rw [← hnn]; exact midL_all
    rw [em]
    refine fin_2 ⟨_, rfl, xH2.trans kernH_x, ?_⟩
    refine ⟨by simp, .inr ⟨G2.length, by simp [hnn], xH2.len, by simp; omega, ?_⟩⟩
    exact kernH_s
end
end Go.Lq

namespace Go.Lq

theorem y_in (deg : Int) (x : List Int) (q : Int) : -32767 ≤ yL deg x q ∧ yL deg x q ≤ 32767 := by unfold yL; omega
end Go.Lq

namespace Go.Lq

theorem ratio_mono {num den : Int} (hn : 0 ≤ num) (hd : 0 < den) (k : Nat) : ratioF num den k ≤ ratioF num den (k + 1) := by
  unfold ratioF
  exact Int.ediv_le_ediv hd (Int.mul_le_mul_of_nonneg_right (by push_cast; omega) hn)
theorem atTime_ge {l : List (Int × Int)} {t : Int} : ∀ {k i : Nat}, i ≤ atTime l t i k
  | 0, i => Nat.le_refl _
  | k + 1, i => by
    rw [atTime_succ]
    split
    · exact Nat.le_trans (Nat.le_succ i) atTime_ge
    · exact Nat.le_refl _
theorem atTime_mono {l : List (Int × Int)} {t u : Int} (h : t ≤ u) : ∀ {k i : Nat}, atTime l t i k ≤ atTime l u i k
  | 0, i => Nat.le_refl _
  | k + 1, i => by
    rw [atTime_succ, atTime_succ]
    by_cases h1 : (l.getD (i + 1) (0, 0)).2 < t
    · rw [if_pos h1, if_pos (by omega)]; exact atTime_mono h
    · rw [if_neg h1]
      split
      · exact Nat.le_trans (Nat.le_succ i) atTime_ge
      · exact Nat.le_refl _
theorem atTime_up {l : List (Int × Int)} {t : Int} : ∀ {k i : Nat}, i + k + 2 = l.length → t ≤ (l.getD (l.length - 1) (0, 0)).2 → t ≤ (l.getD (atTime l t i k + 1) (0, 0)).2
  | 0, i, h, ht => by
    show t ≤ (l.getD (i + 1) (0, 0)).2
    rwa [show l.length - 1 = i + 1 by omega] at ht
  | k + 1, i, h, ht => by
    rw [atTime_succ]
    split
    · exact atTime_up (by omega) ht
    · omega
theorem posLo_mono {p : (Int × Int) × (Int × Int)} {t u : Int} (h1 : p.1.1 ≤ p.2.1) (h3 : p.1.2 < p.2.2) (h : t ≤ u) : posLo p t ≤ posLo p u := by
  unfold posLo posN
  have := Int.ediv_le_ediv (show 0 < p.2.2 - p.1.2 by omega) (Int.mul_le_mul_of_nonneg_right (show t - p.1.2 ≤ u - p.1.2 by omega) (show 0 ≤ 64 * (p.2.1 - p.1.1) by omega))
  omega
theorem posLo_ge {p : (Int × Int) × (Int × Int)} {t : Int} (h1 : p.1.1 ≤ p.2.1) (h3 : p.1.2 < p.2.2) (h4 : p.1.2 ≤ t) : 64 * p.1.1 ≤ posLo p t := by
  unfold posLo posN
  have := Int.ediv_nonneg (Int.mul_nonneg (show 0 ≤ t - p.1.2 by omega) (show 0 ≤ 64 * (p.2.1 - p.1.1) by omega)) (show 0 ≤ p.2.2 - p.1.2 by omega)
  omega
theorem posLo_le {p : (Int × Int) × (Int × Int)} {t : Int} (h1 : p.1.1 ≤ p.2.1) (h3 : p.1.2 < p.2.2) (h5 : t ≤ p.2.2) : posLo p t ≤ 64 * p.2.1 := by
  unfold posLo posN
  have h := Int.ediv_le_ediv (show 0 < p.2.2 - p.1.2 by omega) (Int.mul_le_mul_of_nonneg_right (show t - p.1.2 ≤ p.2.2 - p.1.2 by omega) (show 0 ≤ 64 * (p.2.1 - p.1.1) by omega))
  rw [Int.mul_ediv_cancel_left _ (show p.2.2 - p.1.2 ≠ 0 by omega)] at h
  omega
theorem curve_mono {l : List (Int × Int)} {step : Int} {k : Nat} (h : MapOk l) (hs : 0 < step) (hk : k + 1 < curveN l step) : curveF l step k ≤ curveF l step (k + 1) := by
  rw [curveF_eq h hs (show k < curveN l step by omega), curveF_eq h hs hk]
  have hlo := h.lo
  have hlt := (curveN_lt h hs).1 hk
  have z0 := Int.mul_nonneg (show (0 : Int) ≤ k by omega) (show 0 ≤ step by omega)
  obtain ⟨z, hz⟩ : ∃ z, t0L l + (k : Int) * step = z := ⟨_, rfl⟩
  obtain ⟨y, hy⟩ : ∃ y, t0L l + ((k + 1 : Nat) : Int) * step = y := ⟨_, rfl⟩
  have zy : z ≤ y := by rw [← hz, ← hy]; push_cast; rw [Int.add_mul]; omega
  rw [hy] at hlt
  rw [hz, hy]
  have z1 : t0L l ≤ z := by omega
  have hm := atTime_mono (l := l) zy (k := l.length - 2) (i := 0)
  obtain ⟨a1, a2⟩ := atTime_in (l := l) (t := z) (k := l.length - 2) (i := 0) (by omega) z1
  obtain ⟨b1, b2⟩ := atTime_in (l := l) (t := y) (k := l.length - 2) (i := 0) (by omega) (show t0L l ≤ y by omega)
  have a3 := atTime_up (l := l) (t := z) (k := l.length - 2) (i := 0) (by omega) (show z ≤ tEL l by omega)
  generalize atTime l z 0 (l.length - 2) = i at *
  generalize atTime l y 0 (l.length - 2) = j at *
  by_cases e : i = j
  · subst e; exact posLo_mono (p := pieceOf l i) (Int.le_of_lt (h.posUp i a1)) (h.timeUp i a1) zy
  · have c1 := posLo_le (p := pieceOf l i) (t := z) (Int.le_of_lt (h.posUp i a1)) (h.timeUp i a1) a3
    have c2 := posLo_ge (p := pieceOf l j) (t := y) (Int.le_of_lt (h.posUp j b1)) (h.timeUp j b1) b2
    have c3 := h.posLe (show i + 1 ≤ j by omega) (by omega)
    have c4 : (pieceOf l i).2.1 = (l.getD (i + 1) (0, 0)).1 := rfl
    have c5 : (pieceOf l j).1.1 = (l.getD j (0, 0)).1 := rfl
    omega
theorem outTo_getD {f : Nat → Int} {m i : Nat} (h : i < m) : (outTo f m).getD i 0 = f i := by
  unfold outTo
  rw [List.getD_eq_getElem?_getD, List.getElem?_map, List.getElem?_range h]; rfl
theorem outs_mono {kind deg num den step count : Int} {l : List (Int × Int)} (he : rulesErrL kind deg num den step l = 0) {i : Nat} (hi : i + 1 < (outsR kind num den step l count).1.length) :
    (outsR kind num den step l count).1.getD i 0 ≤ (outsR kind num den step l count).1.getD (i + 1) 0 := by
  unfold outsR outsL at hi ⊢
  rw [outTo_len] at hi
  have hb := outN_bound (Nat.zero_le (i + 1)) hi
  dsimp only at hi ⊢
  rw [outTo_getD hi, outTo_getD (by omega)]
  unfold outF
  by_cases h0 : kind = 0
  · obtain ⟨h1, h2, _⟩ := rules_ratio he h0
    rw [if_pos h0]
    exact ratio_mono (by omega) (by omega) i
  · obtain ⟨hok, hs, _⟩ := rules_curve he h0
    rw [if_neg h0]
    have hN : i + 1 < curveN l step := by have := hb.2; unfold outC at this; rw [if_neg h0] at this; omega
    exact curve_mono hok (by omega) hN

def besX (x : List Int) (q : Int) (j : Int) : Int := x.getD (clampI x.length (q / 64 + j)) 0
theorem value_1 {x : List Int} {q : Int} : valueL 1 x q = (64 - q % 64) * besX x q 0 + (q % 64) * besX x q 1 := by
  unfold besX
  show 0 + (64 - q % 64) * x.getD (clampI x.length (q / 64 + 0 + ((0 : Nat) : Int))) 0 + (q % 64) * x.getD (clampI x.length (q / 64 + 0 + ((1 : Nat) : Int))) 0 = _
  rw [Int.zero_add, show q / 64 + 0 + ((0 : Nat) : Int) = q / 64 + 0 by omega, show q / 64 + 0 + ((1 : Nat) : Int) = q / 64 + 1 by omega]
theorem value_3 {x : List Int} {q : Int} : valueL 3 x q = (weightsL 3 (q % 64)).getD 0 0 * besX x q (-1) + (weightsL 3 (q % 64)).getD 1 0 * besX x q 0 + (weightsL 3 (q % 64)).getD 2 0 * besX x q 1 + (weightsL 3 (q % 64)).getD 3 0 * besX x q 2 := by
  unfold besX
  show 0 + (weightsL 3 (q % 64)).getD 0 0 * x.getD (clampI x.length (q / 64 + -1 + ((0 : Nat) : Int))) 0 + (weightsL 3 (q % 64)).getD 1 0 * x.getD (clampI x.length (q / 64 + -1 + ((1 : Nat) : Int))) 0
    + (weightsL 3 (q % 64)).getD 2 0 * x.getD (clampI x.length (q / 64 + -1 + ((2 : Nat) : Int))) 0 + (weightsL 3 (q % 64)).getD 3 0 * x.getD (clampI x.length (q / 64 + -1 + ((3 : Nat) : Int))) 0 = _
  rw [Int.zero_add, show q / 64 + -1 + ((0 : Nat) : Int) = q / 64 + -1 by omega, show q / 64 + -1 + ((1 : Nat) : Int) = q / 64 + 0 by omega, show q / 64 + -1 + ((2 : Nat) : Int) = q / 64 + 1 by omega, show q / 64 + -1 + ((3 : Nat) : Int) = q / 64 + 2 by omega]
theorem mul_in {w m a : Int} (hw : 0 ≤ w) (h1 : -m ≤ a) (h2 : a ≤ m) : -(w * m) ≤ w * a ∧ w * a ≤ w * m := by
  have e1 := Int.mul_le_mul_of_nonneg_left h1 hw
  have e2 := Int.mul_le_mul_of_nonneg_left h2 hw
  rw [Int.mul_neg] at e1
  exact ⟨e1, e2⟩
theorem mul_out {w m a : Int} (hw : w ≤ 0) (h1 : -m ≤ a) (h2 : a ≤ m) : -((-w) * m) ≤ w * a ∧ w * a ≤ (-w) * m := by
  have := mul_in (w := -w) (m := m) (a := a) (by omega) h1 h2
  rw [Int.neg_mul] at this
  rw [Int.neg_mul] at this ⊢
  omega
theorem weights_54 {f : Int} (h : 0 ≤ f ∧ f ≤ 63) : (weightsL 3 f).getD 0 0 ≤ 0 ∧ 0 ≤ (weightsL 3 f).getD 1 0 ∧ 0 ≤ (weightsL 3 f).getD 2 0 ∧ (weightsL 3 f).getD 3 0 ≤ 0 ∧
    4 * (-(weightsL 3 f).getD 0 0 + (weightsL 3 f).getD 1 0 + (weightsL 3 f).getD 2 0 + -(weightsL 3 f).getD 3 0) ≤ 7864320 := by
  obtain ⟨k, rfl⟩ := fin64 h
  have : ∀ k : _root_.Fin 64, (weightsL 3 (k.val : Int)).getD 0 0 ≤ 0 ∧ 0 ≤ (weightsL 3 (k.val : Int)).getD 1 0 ∧ 0 ≤ (weightsL 3 (k.val : Int)).getD 2 0 ∧ (weightsL 3 (k.val : Int)).getD 3 0 ≤ 0 ∧
    4 * (-(weightsL 3 (k.val : Int)).getD 0 0 + (weightsL 3 (k.val : Int)).getD 1 0 + (weightsL 3 (k.val : Int)).getD 2 0 + -(weightsL 3 (k.val : Int)).getD 3 0) ≤ 7864320 := by decide +kernel
  exact this k
theorem y_most {deg : Int} {x : List Int} {q m : Int} (hd : deg = 1 ∨ deg = 3) (h0 : 0 ≤ m) (ha : -m ≤ besX x q (-1) ∧ besX x q (-1) ≤ m) (hb : -m ≤ besX x q 0 ∧ besX x q 0 ≤ m) (hc : -m ≤ besX x q 1 ∧ besX x q 1 ≤ m) (he : -m ≤ besX x q 2 ∧ besX x q 2 ≤ m) :
    -(5 * m + 4) ≤ 4 * yL deg x q ∧ 4 * yL deg x q ≤ 5 * m + 4 := by
  have hf : 0 ≤ q % 64 ∧ q % 64 ≤ 63 := by omega
  unfold yL
  rcases hd with rfl | rfl
  · have e1 := mul_in (w := 64 - q % 64) (by omega) hb.1 hb.2
    have e2 := mul_in (w := q % 64) (by omega) hc.1 hc.2
    have e3 : (64 - q % 64) * m + q % 64 * m = 64 * m := by rw [← Int.add_mul]; exact congrArg (· * m) (by omega)
    have ev := value_1 (x := x) (q := q)
    rw [show denL 1 = 64 from rfl]
    omega
  · obtain ⟨w0, w1, w2, w3, w4⟩ := weights_54 hf
    have ev := value_3 (x := x) (q := q)
    generalize (weightsL 3 (q % 64)).getD 0 0 = a0 at *
    generalize (weightsL 3 (q % 64)).getD 1 0 = a1 at *
    generalize (weightsL 3 (q % 64)).getD 2 0 = a2 at *
    generalize (weightsL 3 (q % 64)).getD 3 0 = a3 at *
    have e0 := mul_out w0 ha.1 ha.2
    have e1 := mul_in w1 hb.1 hb.2
    have e2 := mul_in w2 hc.1 hc.2
    have e3 := mul_out w3 he.1 he.2
    have e4 := Int.mul_le_mul_of_nonneg_right w4 h0
    have e5 : 4 * (-a0 + a1 + a2 + -a3) * m = 4 * (-a0 * m + a1 * m + a2 * m + -a3 * m) := by rw [Int.mul_assoc, Int.add_mul, Int.add_mul, Int.add_mul]
    rw [show denL 3 = 1572864 from rfl]
    omega
theorem y_between {x : List Int} {q lo hi : Int} (h0 : lo ≤ besX x q 0 ∧ besX x q 0 ≤ hi) (h1 : 0 < q % 64 → lo ≤ besX x q 1 ∧ besX x q 1 ≤ hi) (hl : -32767 ≤ hi ∧ lo ≤ 32767) : lo ≤ yL 1 x q ∧ yL 1 x q ≤ hi := by
  have ev := value_1 (x := x) (q := q)
  have hf : 0 ≤ q % 64 ∧ q % 64 ≤ 63 := by omega
  unfold yL
  rw [show denL 1 = 64 from rfl]
  by_cases hz : q % 64 = 0
  · rw [hz] at ev
    omega
  · obtain ⟨h2, h3⟩ := h1 (by omega)
    have e1 := Int.mul_le_mul_of_nonneg_left h0.1 (show 0 ≤ 64 - q % 64 by omega)
    have e2 := Int.mul_le_mul_of_nonneg_left h0.2 (show 0 ≤ 64 - q % 64 by omega)
    have e3 := Int.mul_le_mul_of_nonneg_left h2 (show 0 ≤ q % 64 by omega)
    have e4 := Int.mul_le_mul_of_nonneg_left h3 (show 0 ≤ q % 64 by omega)
    have e5 : (64 - q % 64) * lo + q % 64 * lo = 64 * lo := by rw [← Int.add_mul]; exact congrArg (· * lo) (by omega)
    have e6 : (64 - q % 64) * hi + q % 64 * hi = 64 * hi := by rw [← Int.add_mul]; exact congrArg (· * hi) (by omega)
    omega
end Go.Lq

namespace Go.Lq
open Go
open Go.Proofs

theorem res_z {kind deg num den step : Int} {l : List (Int × Int)} {x : List Int} (h : rulesErrL kind deg num den step l = 0) (hs : signalErrL x = 0) :
    resL kind deg num den step l x = if (outsR kind num den step l x.length).2 = 0 then ((outsR kind num den step l x.length).1.map (yL deg x), 0) else ([], (outsR kind num den step l x.length).2) := by
  have e : resErrL kind deg num den step l x = 0 := by unfold resErrL; rw [h, firstErr_z, hs, firstErr_z]; rfl
  unfold resL; rw [if_pos e]

section
variable {H : AHeap} {kind deg num den step : Int} {l : List (Int × Int)} {v w : Value} {x : List Int}
end
end Go.Lq

namespace Go.Lq
open Go
open Go.Proofs

def mostTo (x : List Int) (q : Int) : Nat → Int
  | 0 => 0
  | j + 1 => max (mostTo x q j) (max (besX x q ((j : Int) - 1)) (-besX x q ((j : Int) - 1)))
def loTo (x : List Int) (q : Int) (j : Nat) : Int := if 3 ≤ j ∧ 0 < q % 64 then min (besX x q 0) (besX x q 1) else besX x q 0
def hiTo (x : List Int) (q : Int) (j : Nat) : Int := if 3 ≤ j ∧ 0 < q % 64 then max (besX x q 0) (besX x q 1) else besX x q 0
theorem bes_in {x : List Int} (hx : ∀ j : Nat, -32767 ≤ x.getD j 0 ∧ x.getD j 0 ≤ 32767) (q j : Int) : -32767 ≤ besX x q j ∧ besX x q j ≤ 32767 := hx _
theorem mostTo_in {x : List Int} (hx : ∀ j : Nat, -32767 ≤ x.getD j 0 ∧ x.getD j 0 ≤ 32767) (q : Int) : ∀ j : Nat, 0 ≤ mostTo x q j ∧ mostTo x q j ≤ 32767
  | 0 => by show (0 : Int) ≤ 0 ∧ (0 : Int) ≤ 32767; omega
  | j + 1 => by
    have ih := mostTo_in hx q j
    have := bes_in hx q ((j : Int) - 1)
    unfold mostTo
    omega
theorem most_4 (x : List Int) (q : Int) : (-mostTo x q 4 ≤ besX x q (-1) ∧ besX x q (-1) ≤ mostTo x q 4) ∧ (-mostTo x q 4 ≤ besX x q 0 ∧ besX x q 0 ≤ mostTo x q 4) ∧ (-mostTo x q 4 ≤ besX x q 1 ∧ besX x q 1 ≤ mostTo x q 4) ∧ (-mostTo x q 4 ≤ besX x q 2 ∧ besX x q 2 ≤ mostTo x q 4) := by
  have e : mostTo x q 4 = max (max (max (max 0 (max (besX x q (-1)) (-besX x q (-1)))) (max (besX x q 0) (-besX x q 0))) (max (besX x q 1) (-besX x q 1))) (max (besX x q 2) (-besX x q 2)) := rfl
  omega
theorem out_ok {deg : Int} {x : List Int} {q : Int} (hd : deg = 1 ∨ deg = 3) (hx : ∀ j : Nat, -32767 ≤ x.getD j 0 ∧ x.getD j 0 ≤ 32767) :
    (deg = 1 → loTo x q 4 ≤ yL deg x q ∧ yL deg x q ≤ hiTo x q 4) ∧ ¬ 5 * mostTo x q 4 + 4 < 4 * max (yL deg x q) (-yL deg x q) := by
  have hm := mostTo_in hx q 4
  obtain ⟨m1, m2, m3, m4⟩ := most_4 x q
  have b0 := bes_in hx q 0
  have b1 := bes_in hx q 1
  refine ⟨fun h => ?_, ?_⟩
  · subst h
    refine y_between ?_ (fun hq => ?_) ?_
    · unfold loTo hiTo
      split <;> omega
    · unfold loTo hiTo
      rw [if_pos ⟨by omega, hq⟩, if_pos ⟨by omega, hq⟩]
      omega
    · unfold loTo hiTo
      split <;> omega
  · have := y_most hd hm.1 m1 m2 m3 m4
    omega
set_option maxRecDepth 100000 in
set_option maxHeartbeats 8000000 in
theorem law6 {H : AHeap} {avs : List Value} (hx : Ext H0 H) (h : RepAll Tryd.prog H [26, 27] avs) : ACall Tryd.prog 6 avs H fun v _ => v = .bool true := by
  obtain ⟨a, w, rfl, h1, h2⟩ := h.two
  obtain ⟨kind, deg, num, den, step, v, l, rfl, hl, hlm⟩ := repRules h1
  obtain ⟨x, hX, hxm, _⟩ := h2.ints Tryd.underlying27 Tryd.underlying3 (by kernel_rfl)
  (refine a6 ?_; simp only [n6, List.replicate, List.length_cons, List.length_nil, List.cons_append, List.nil_append]; first | refine q1 ?_ | refine q2 ?_ | refine q6 ?_ | refine q7 ?_ | refine qh rfl ?_ | skip)
  have g0 : (H ++ [AObj.cells true 0 (rulesC kind deg num den step v)])[H.length]? = some (.cells true 0 (rulesC kind deg num den step v)) := at_new
  have xG : Ext H (H ++ [AObj.cells true 0 (rulesC kind deg num den step v)]) := (Ext.refl H).app _
  ((repeat (first | refine ya (by (with_reducible constructor) <;> first | rfl | decide) ?_ | apply yb | refine yc rfl ?_ | ((first | apply yd | apply ye); simp (disch := first | exact List.all_nil | omega | (simp only [go_sem]; done) | (simp only [ln, List.length_map]; omega) | (repeat' first | assumption | exact Ext.refl _ | refine Ext.app ?_ _)) only [go_sem, box_rules hl.atom]; with_reducible rfl))))
  generalize (H ++ [AObj.cells true 0 (rulesC kind deg num den step v)] : AHeap) = G at g0 xG
  have k0 := hl.ext xG
  have hXg := hX.ext xG
  have hx0 := hx.trans xG
  refine aops_call_to (awake_c hx0) ?_
  ((repeat (first | refine ya (by (with_reducible constructor) <;> first | rfl | decide) ?_ | apply yb | refine yc rfl ?_ | ((first | apply yd | apply ye); simp (disch := first | exact List.all_nil | omega | (simp only [go_sem]; done) | (simp only [ln, List.length_map]; omega) | (repeat' first | assumption | exact Ext.refl _ | refine Ext.app ?_ _)) only [go_sem]; with_reducible rfl))))
  refine cond_f rfl ?_
  ((repeat (first | refine ya (by (with_reducible constructor) <;> first | rfl | decide) ?_ | apply yb | refine yc rfl ?_ | ((first | apply yd | apply ye); simp (disch := first | exact List.all_nil | omega | (simp only [go_sem]; done) | (simp only [ln, List.length_map]; omega) | (repeat' first | assumption | exact Ext.refl _ | refine Ext.app ?_ _)) only [go_sem, load_map g0]; with_reducible rfl))))
  refine aops_call_to (few_c k0) ?_
  by_cases hf : l.length ≤ 22
  rotate_left 1
  · ((repeat (first | refine ya (by (with_reducible constructor) <;> first | rfl | decide) ?_ | apply yb | refine yc rfl ?_ | ((first | apply yd | apply ye); simp (disch := first | exact List.all_nil | omega | (simp only [go_sem]; done) | (simp only [ln, List.length_map]; omega) | (repeat' first | assumption | exact Ext.refl _ | refine Ext.app ?_ _)) only [go_sem, dec_f hf]; with_reducible rfl))))
    refine cond_t rfl ?_
    ((repeat (first | refine ya (by (with_reducible constructor) <;> first | rfl | decide) ?_ | apply yb | refine yc rfl ?_ | ((first | apply yd | apply ye); simp (disch := first | exact List.all_nil | omega | (simp only [go_sem]; done) | (simp only [ln, List.length_map]; omega) | (repeat' first | assumption | exact Ext.refl _ | refine Ext.app ?_ _)) only [go_sem]; with_reducible rfl))))
    exact fin_1 rfl
  have l6 : loadNR 6 (.pointer (some ⟨H.length, 0, none⟩)) G = some (rulesV kind deg num den step v, G) := loadN_at g0 (by simp [rulesC])
  by_cases h64 : x.length ≤ 64
  rotate_left 1
  · ((repeat (first | refine ya (by (with_reducible constructor) <;> first | rfl | decide) ?_ | apply yb | refine yc rfl ?_ | ((first | apply yd | apply ye); simp (disch := first | exact List.all_nil | omega | (simp only [go_sem]; done) | (simp only [ln, List.length_map]; omega) | (repeat' first | assumption | exact Ext.refl _ | refine Ext.app ?_ _)) only [go_sem, hXg.len, hXg.idx, hXg.load, dec_t hf, dec_t (show (64 : Int) < (x.length : Int) by omega)]; with_reducible rfl))))
    refine cond_t rfl ?_
    ((repeat (first | refine ya (by (with_reducible constructor) <;> first | rfl | decide) ?_ | apply yb | refine yc rfl ?_ | ((first | apply yd | apply ye); simp (disch := first | exact List.all_nil | omega | (simp only [go_sem]; done) | (simp only [ln, List.length_map]; omega) | (repeat' first | assumption | exact Ext.refl _ | refine Ext.app ?_ _)) only [go_sem]; with_reducible rfl))))
    exact fin_1 rfl
  ((repeat (first | refine ya (by (with_reducible constructor) <;> first | rfl | decide) ?_ | apply yb | refine yc rfl ?_ | ((first | apply yd | apply ye); simp (disch := first | exact List.all_nil | omega | (simp only [go_sem]; done) | (simp only [ln, List.length_map]; omega) | (repeat' first | assumption | exact Ext.refl _ | refine Ext.app ?_ _)) only [go_sem, hXg.len, hXg.idx, hXg.load, dec_t hf, dec_f (show ¬ (64 : Int) < (x.length : Int) by omega), l6]; with_reducible rfl))))
  refine aops_call_to (rRulesErr_c k0 (by omega)) ?_
  by_cases hr : rulesErrL kind deg num den step l = 0
  rotate_left 1
  · ((repeat (first | refine ya (by (with_reducible constructor) <;> first | rfl | decide) ?_ | apply yb | refine yc rfl ?_ | ((first | apply yd | apply ye); simp (disch := first | exact List.all_nil | omega | (simp only [go_sem]; done) | (simp only [ln, List.length_map]; omega) | (repeat' first | assumption | exact Ext.refl _ | refine Ext.app ?_ _)) only [go_sem, dec_t (show rulesErrL kind deg num den step l ≠ 0 from hr)]; with_reducible rfl))))
    refine cond_t rfl ?_
    ((repeat (first | refine ya (by (with_reducible constructor) <;> first | rfl | decide) ?_ | apply yb | refine yc rfl ?_ | ((first | apply yd | apply ye); simp (disch := first | exact List.all_nil | omega | (simp only [go_sem]; done) | (simp only [ln, List.length_map]; omega) | (repeat' first | assumption | exact Ext.refl _ | refine Ext.app ?_ _)) only [go_sem]; with_reducible rfl))))
    exact fin_1 rfl
  ((repeat (first | refine ya (by (with_reducible constructor) <;> first | rfl | decide) ?_ | apply yb | refine yc rfl ?_ | ((first | apply yd | apply ye); simp (disch := first | exact List.all_nil | omega | (simp only [go_sem]; done) | (simp only [ln, List.length_map]; omega) | (repeat' first | assumption | exact Ext.refl _ | refine Ext.app ?_ _)) only [go_sem, hr]; with_reducible rfl))))
  refine aops_call_to (refSignalErr_c hXg (by omega)) ?_
  by_cases hs : signalErrL x = 0
  rotate_left 1
  · ((repeat (first | refine ya (by (with_reducible constructor) <;> first | rfl | decide) ?_ | apply yb | refine yc rfl ?_ | ((first | apply yd | apply ye); simp (disch := first | exact List.all_nil | omega | (simp only [go_sem]; done) | (simp only [ln, List.length_map]; omega) | (repeat' first | assumption | exact Ext.refl _ | refine Ext.app ?_ _)) only [go_sem, dec_t (show signalErrL x ≠ 0 from hs)]; with_reducible rfl))))
    refine cond_t rfl ?_
    ((repeat (first | refine ya (by (with_reducible constructor) <;> first | rfl | decide) ?_ | apply yb | refine yc rfl ?_ | ((first | apply yd | apply ye); simp (disch := first | exact List.all_nil | omega | (simp only [go_sem]; done) | (simp only [ln, List.length_map]; omega) | (repeat' first | assumption | exact Ext.refl _ | refine Ext.app ?_ _)) only [go_sem]; with_reducible rfl))))
    exact fin_1 rfl
  obtain ⟨s1, s2⟩ := signalErr_ok hs
  have hd := rules_deg hr
  ((repeat (first | refine ya (by (with_reducible constructor) <;> first | rfl | decide) ?_ | apply yb | refine yc rfl ?_ | ((first | apply yd | apply ye); simp (disch := first | exact List.all_nil | omega | (simp only [go_sem]; done) | (simp only [ln, List.length_map]; omega) | (repeat' first | assumption | exact Ext.refl _ | refine Ext.app ?_ _)) only [go_sem, hs]; with_reducible rfl))))
  refine cond_f rfl ?_
  ((repeat (first | refine ya (by (with_reducible constructor) <;> first | rfl | decide) ?_ | apply yb | refine yc rfl ?_ | ((first | apply yd | apply ye); simp (disch := first | exact List.all_nil | omega | (simp only [go_sem]; done) | (simp only [ln, List.length_map]; omega) | (repeat' first | assumption | exact Ext.refl _ | refine Ext.app ?_ _)) only [go_sem, l6]; with_reducible rfl))))
  refine aops_call_to (copyRules_c k0 (by omega)) ?_
  have hC : Pairs (G ++ [.cells true 2 (flatP l)]) l (.slice (some ⟨G.length, 0, none⟩) l.length l.length) := Pairs.last l.length
  have x1 : Ext G (G ++ [AObj.cells true 2 (flatP l)]) := (Ext.refl G).app _
  generalize (G ++ [AObj.cells true 2 (flatP l)] : AHeap) = G1 at hC x1
  have hX1 := hXg.ext x1
  ((repeat (first | refine ya (by (with_reducible constructor) <;> first | rfl | decide) ?_ | apply yb | refine yc rfl ?_ | ((first | apply yd | apply ye); simp (disch := first | exact List.all_nil | omega | (simp only [go_sem]; done) | (simp only [ln, List.length_map]; omega) | (repeat' first | assumption | exact Ext.refl _ | refine Ext.app ?_ _)) only [go_sem, hX1.len, hX1.idx, hX1.load]; with_reducible rfl))))
  refine aops_call ((positionsOf_c (count := (x.length : Int)) hC (by omega)).mono fun u G2 hu => ?_)
  obtain ⟨ls, rfl, hL, x2⟩ := hu.use
  rw [ask_z hr ⟨by omega, by omega⟩] at hL ⊢
  have x02 := x1.trans x2
  have m6 : loadNR 6 (.pointer (some ⟨H.length, 0, none⟩)) G2 = some (rulesV kind deg num den step v, G2) := loadN_at (x02.cell g0) (by simp [rulesC])
  ((repeat (first | refine ya (by (with_reducible constructor) <;> first | rfl | decide) ?_ | apply yb | refine yc rfl ?_ | ((first | apply yd | apply ye); simp (disch := first | exact List.all_nil | omega | (simp only [go_sem]; done) | (simp only [ln, List.length_map]; omega) | (repeat' first | assumption | exact Ext.refl _ | refine Ext.app ?_ _)) only [go_sem, m6]; with_reducible rfl))))
  refine aops_call_to (copyRules_c (k0.ext x02) (by omega)) ?_
  have hC3 : Pairs (G2 ++ [.cells true 2 (flatP l)]) l (.slice (some ⟨G2.length, 0, none⟩) l.length l.length) := Pairs.last l.length
  have x3 : Ext G2 (G2 ++ [AObj.cells true 2 (flatP l)]) := (Ext.refl G2).app _
  generalize (G2 ++ [AObj.cells true 2 (flatP l)] : AHeap) = G3 at hC3 x3
  have x03 := x02.trans x3
  ((repeat (first | refine ya (by (with_reducible constructor) <;> first | rfl | decide) ?_ | apply yb | refine yc rfl ?_ | ((first | apply yd | apply ye); simp (disch := first | exact List.all_nil | omega | (simp only [go_sem]; done) | (simp only [ln, List.length_map]; omega) | (repeat' first | assumption | exact Ext.refl _ | refine Ext.app ?_ _)) only [go_sem]; with_reducible rfl))))
  refine aops_call_to (copyInts_c (hXg.ext x03) (by omega)) ?_
  have hXc : Ints (G3 ++ [.cells true 1 (x.map (.int .i64))]) x (.slice (some ⟨G3.length, 0, none⟩) x.length x.length) := Ints.last x.length
  have x4 : Ext G3 (G3 ++ [AObj.cells true 1 (x.map (.int .i64))]) := (Ext.refl G3).app _
  generalize (G3 ++ [AObj.cells true 1 (x.map (.int .i64))] : AHeap) = G4 at hXc x4
  have x04 := x03.trans x4
  ((repeat (first | refine ya (by (with_reducible constructor) <;> first | rfl | decide) ?_ | apply yb | refine yc rfl ?_ | ((first | apply yd | apply ye); simp (disch := first | exact List.all_nil | omega | (simp only [go_sem]; done) | (simp only [ln, List.length_map]; omega) | (repeat' first | assumption | exact Ext.refl _ | refine Ext.app ?_ _)) only [go_sem]; with_reducible rfl))))
  refine aops_call ((resampled_c (hx0.trans x04) (hC3.ext x4) (by omega) hXc (by omega)).mono fun u G5 hu => ?_)
  obtain ⟨ys, rfl, hY, x5⟩ := hu.use
  have x05 := x04.trans x5
  have g5 := x05.cell g0
  have hX5 := hXg.ext x05
  have hL5 := hL.ext ((x3.trans x4).trans x5)
  rw [res_z hr hs] at hY ⊢
  obtain ⟨ol, otw⟩ := outs_two kind num den step (x.length : Int) l
  have hin := outs_in (count := (x.length : Int)) hr
  have hmo := fun i => outs_mono (count := (x.length : Int)) (i := i) hr
  rcases otw with h0 | h8
  rotate_left 1
  · rw [h8] at hL5 hY ⊢
    rw [if_neg (by decide)] at hY ⊢
    dsimp only at hL5 hY ⊢
    have z1 : decide (((([] : List Int).length : Nat) : Int) + ((([] : List Int).length : Nat) : Int) = 0) = true := rfl
    ((repeat (first | refine ya (by (with_reducible constructor) <;> first | rfl | decide) ?_ | apply yb | refine yc rfl ?_ | ((first | apply yd | apply ye); simp (disch := first | exact List.all_nil | omega | (simp only [go_sem]; done) | (simp only [ln, List.length_map]; omega) | (repeat' first | assumption | exact Ext.refl _ | refine Ext.app ?_ _)) only [go_sem]; with_reducible rfl))))
    refine cond_t rfl ?_
    ((repeat (first | refine ya (by (with_reducible constructor) <;> first | rfl | decide) ?_ | apply yb | refine yc rfl ?_ | ((first | apply yd | apply ye); simp (disch := first | exact List.all_nil | omega | (simp only [go_sem]; done) | (simp only [ln, List.length_map]; omega) | (repeat' first | assumption | exact Ext.refl _ | refine Ext.app ?_ _)) only [go_sem, hL5.len, hL5.idx, hL5.load, hY.len, hY.idx, hY.load, z1]; with_reducible rfl))))
    exact fin_1 rfl
  rw [h0, if_pos rfl] at hY ⊢
  dsimp only at hY ⊢
  generalize (outsR kind num den step l x.length).1 = qs at ol hin hmo hL5 hY ⊢
  have hyl : (qs.map (yL deg x)).length = qs.length := List.length_map _
  have hyi : ∀ i : Nat, i < qs.length → (qs.map (yL deg x)).getD i 0 = yL deg x (qs.getD i 0) := fun i hi => by
    rw [List.getD_eq_getElem?_getD, List.getElem?_map, List.getD_eq_getElem?_getD, List.getElem?_eq_getElem hi]; rfl
  generalize qs.map (yL deg x) = zs at hY hyl hyi ⊢
  ((repeat (first | refine ya (by (with_reducible constructor) <;> first | rfl | decide) ?_ | apply yb | refine yc rfl ?_ | ((first | apply yd | apply ye); simp (disch := first | exact List.all_nil | omega | (simp only [go_sem]; done) | (simp only [ln, List.length_map]; omega) | (repeat' first | assumption | exact Ext.refl _ | refine Ext.app ?_ _)) only [go_sem]; with_reducible rfl))))
  refine cond_f rfl ?_
  ((repeat (first | refine ya (by (with_reducible constructor) <;> first | rfl | decide) ?_ | apply yb | refine yc rfl ?_ | ((first | apply yd | apply ye); simp (disch := first | exact List.all_nil | omega | (simp only [go_sem]; done) | (simp only [ln, List.length_map]; omega) | (repeat' first | assumption | exact Ext.refl _ | refine Ext.app ?_ _)) only [go_sem, hL5.len, hL5.idx, hL5.load, hY.len, hY.idx, hY.load, dec_f (show ¬ (qs.length : Int) ≠ (zs.length : Int) by omega), dec_f (show ¬ (2000 : Int) < (qs.length : Int) by omega)]; with_reducible rfl))))
  refine cond_f rfl ?_
  ((repeat (first | refine ya (by (with_reducible constructor) <;> first | rfl | decide) ?_ | apply yb | refine yc rfl ?_ | ((first | apply yd | apply ye); simp (disch := first | exact List.all_nil | omega | (simp only [go_sem]; done) | (simp only [ln, List.length_map]; omega) | (repeat' first | assumption | exact Ext.refl _ | refine Ext.app ?_ _)) only [go_sem]; with_reducible rfl))))
  refine awp_loop_n [false, true, true, false, false, true, false, true, false, true, false, false, false, false, false, false, false, false, false, false, false, false, false, false, false, false, false, false, false, false, false, false, false, false, false, false, false, false, false, false, false, false, false, false, false, false, false, false, false, false, false, false, false, false, false, false, false, false, false, false, false, false, false, false, false, false, false, false, false, false, false, false, false, false, false, false, false, false, false, false, false, false, false, false, false, false, false, false, false, false, false, false, false, false, false, false, false, false, false, false, false, false, false, false, false, false, false, false, false, false, false, false, false, false, false, false, false, false, false, false, false, false, false, false, false, false, false, false, false, false, false, false, false, false, false, false, false, false, false, false, false, false, false, false, false, false, false, false, false, false, false, false, false, false, false, false, false, false, false, false, false, false, false, false, false, false, false, false, false, false, false, false, false, false, false, false, false, false, false, false, false, false, false, false, false, false, false, false, false, false, false, false, false, false, false, false, false, false, false, false] qs.length (fun i e H' => G5 = H' ∧ e = [junk, w, .pointer (some ⟨H.length, 0, none⟩), junk, junk, ls, junk, ys, junk, .int .i64 i, junk, junk, junk, junk, junk, junk, junk, junk, junk, junk, junk, junk, junk, junk, junk, junk, junk, junk, junk, junk, junk, junk, junk, junk, junk, junk, junk, junk, junk, junk, junk, junk, junk, junk, junk, junk, junk, junk, junk, junk, junk, junk, junk, junk, junk, junk, junk, junk, junk, junk, junk, junk, junk, junk, junk, junk, junk, junk, junk, junk, junk, junk, junk, junk, junk, junk, junk, junk, junk, junk, junk, junk, junk, junk, junk, junk, junk, junk, junk, junk, junk, junk, junk, junk, junk, junk, junk, junk, junk, junk, junk, junk, junk, junk, junk, junk, junk, junk, junk, junk, junk, junk, junk, junk, junk, junk, junk, junk, junk, junk, junk, junk, junk, junk, junk, junk, junk, junk, junk, junk, junk, junk, junk, junk, junk, junk, junk, junk, junk, junk, junk, junk, junk, junk, junk, junk, junk, junk, junk, junk, junk, junk, junk, junk, junk, junk, junk, junk, junk, junk, junk, junk, junk, junk, junk, junk, junk, junk, junk, junk, junk, junk, junk, junk, junk, junk, junk, junk, junk, junk, junk, junk, junk, junk, junk, junk, junk, junk, junk, junk, junk, junk, junk, junk, junk, junk, junk, junk, junk, junk]) ?_ ?_
  · exact ⟨rfl, by simp [forget]⟩
  rintro i e H' hi ⟨rfl, rfl⟩
  ((repeat (first | refine ya (by (with_reducible constructor) <;> first | rfl | decide) ?_ | apply yb | refine yc rfl ?_ | ((first | apply yd | apply ye); simp (disch := first | exact List.all_nil | omega | (simp only [go_sem]; done) | (simp only [ln, List.length_map]; omega) | (repeat' first | assumption | exact Ext.refl _ | refine Ext.app ?_ _)) only [go_sem, hL5.len, hL5.idx, hL5.load]; with_reducible rfl))))
  refine cond_p rfl (fun hlt => ?_) (fun hge => ?_)
  rotate_left 1
  · obtain rfl : i = qs.length := by omega
    ((repeat (first | refine ya (by (with_reducible constructor) <;> first | rfl | decide) ?_ | apply yb | refine yc rfl ?_ | ((first | apply yd | apply ye); simp (disch := first | exact List.all_nil | omega | (simp only [go_sem]; done) | (simp only [ln, List.length_map]; omega) | (repeat' first | assumption | exact Ext.refl _ | refine Ext.app ?_ _)) only [go_sem]; with_reducible rfl))))
    exact fin_1 rfl
  have hi' : i < qs.length := by omega
  have hq := hin i hi'
  have hyq := hyi i hi'
  have hyb := y_in deg x (qs.getD i 0)
  ((repeat (first | refine ya (by (with_reducible constructor) <;> first | rfl | decide) ?_ | apply yb | refine yc rfl ?_ | ((first | apply yd | apply ye); simp (disch := first | exact List.all_nil | omega | (simp only [go_sem]; done) | (simp only [ln, List.length_map]; omega) | (repeat' first | assumption | exact Ext.refl _ | refine Ext.app ?_ _)) only [go_sem, hL5.len, hL5.idx, hL5.load, hX5.len, hX5.idx, hX5.load]; with_reducible rfl))))
  refine adraw_call (N := []) (firstD (bwithin_c _ _ _)) ?_
  rw [List.append_nil]
  have hmi : 0 < i → ¬ qs.getD i 0 < qs.getD (i - 1) 0 := fun h => by
    have := hmo (i - 1) (by omega)
    rw [show i - 1 + 1 = i by omega] at this
    omega
  obtain ⟨q, eq⟩ : ∃ q, qs.getD i 0 = q := ⟨_, rfl⟩
  rw [eq] at hq hyq hyb hmi ⊢
  by_cases h0i : 0 < i
  have ei : (i : Int) - 1 = ((i - 1 : Nat) : Int) := by omega
  ((repeat (first | refine ya (by (with_reducible constructor) <;> first | rfl | decide) ?_ | apply yb | refine yc rfl ?_ | ((first | apply yd | apply ye); simp (disch := first | exact List.all_nil | omega | (simp only [go_sem]; done) | (simp only [ln, List.length_map]; omega) | (repeat' first | assumption | exact Ext.refl _ | refine Ext.app ?_ _)) only [go_sem, hL5.len, hL5.idx, hL5.load, hY.len, hY.idx, hY.load, dec_t hq, dec_t (show (0 : Int) < (i : Int) by omega), ei, eq, dec_f (hmi h0i), hyq]; with_reducible rfl))))
  rotate_left 1
  ((repeat (first | refine ya (by (with_reducible constructor) <;> first | rfl | decide) ?_ | apply yb | refine yc rfl ?_ | ((first | apply yd | apply ye); simp (disch := first | exact List.all_nil | omega | (simp only [go_sem]; done) | (simp only [ln, List.length_map]; omega) | (repeat' first | assumption | exact Ext.refl _ | refine Ext.app ?_ _)) only [go_sem, hL5.len, hL5.idx, hL5.load, hY.len, hY.idx, hY.load, dec_t hq, dec_f (show ¬ (0 : Int) < (i : Int) by omega), hyq]; with_reducible rfl))))
  all_goals
    refine adraw_call (N := []) (firstD (bwithin_c _ _ _)) ?_
    rw [List.append_nil]
    ((repeat (first | refine ya (by (with_reducible constructor) <;> first | rfl | decide) ?_ | apply yb | refine yc rfl ?_ | ((first | apply yd | apply ye); simp (disch := first | exact List.all_nil | omega | (simp only [go_sem]; done) | (simp only [ln, List.length_map]; omega) | (repeat' first | assumption | exact Ext.refl _ | refine Ext.app ?_ _)) only [go_sem, dec_t hyb]; with_reducible rfl))))
    refine cond_f rfl ?_
    obtain ⟨N, hN⟩ : ∃ N : Nat, q / 64 = (N : Int) := ⟨(q / 64).toNat, by omega⟩
    have hNx : N < x.length := by omega
    have eq2 : q.tdiv 64 = (N : Int) := by rw [← hN]; exact Int.tdiv_eq_ediv_of_nonneg hq.1
    have eq3 : q.tmod 64 = q % 64 := Int.tmod_eq_emod_of_nonneg hq.1
    have b0 : x.getD N 0 = besX x q 0 := by unfold besX; rw [hN]; congr 1; unfold clampI; omega
    ((repeat (first | refine ya (by (with_reducible constructor) <;> first | rfl | decide) ?_ | apply yb | refine yc rfl ?_ | ((first | apply yd | apply ye); simp (disch := first | exact List.all_nil | omega | (simp only [go_sem]; done) | (simp only [ln, List.length_map]; omega) | (repeat' first | assumption | exact Ext.refl _ | refine Ext.app ?_ _)) only [go_sem, hL5.len, hL5.idx, hL5.load, hX5.len, hX5.idx, hX5.load, eq, a_quo (show (64 : Int) ≠ 0 by decide), eq2, b0]; with_reducible rfl))))
    refine awp_loop_n [false, true, true, false, false, true, false, true, false, true, true, true, true, true, true, false, false, false, false, false, false, false, false, false, false, false, false, false, false, false, false, false, false, false, false, false, false, false, false, false, false, false, false, false, false, false, false, false, false, false, false, false, false, false, false, false, false, false, false, false, false, false, false, false, false, false, false, false, false, false, false, false, false, false, false, false, false, false, false, false, false, false, false, false, false, false, false, false, false, false, false, false, false, false, false, false, false, false, false, false, false, false, false, false, false, false, false, false, false, false, false, false, false, false, false, false, false, false, false, false, false, false, false, false, false, false, false, false, false, false, false, false, false, false, false, false, false, false, false, false, false, false, false, false, false, false, false, false, false, false, false, false, false, false, false, false, false, false, false, false, false, false, false, false, false, false, false, false, false, false, false, false, false, false, false, false, false, false, false, false, false, false, false, false, false, false, false, false, false, false, false, false, false, false, false, false, false, false, false, false] 4 (fun j e H' => G5 = H' ∧ e = [junk, w, .pointer (some ⟨H.length, 0, none⟩), junk, junk, ls, junk, ys, junk, .int .i64 i, .int .i64 (N : Int), .int .i64 (loTo x q j), .int .i64 (hiTo x q j), .int .i64 (mostTo x q j), .int .i64 ((N : Int) - 1 + (j : Int)), junk, junk, junk, junk, junk, junk, junk, junk, junk, junk, junk, junk, junk, junk, junk, junk, junk, junk, junk, junk, junk, junk, junk, junk, junk, junk, junk, junk, junk, junk, junk, junk, junk, junk, junk, junk, junk, junk, junk, junk, junk, junk, junk, junk, junk, junk, junk, junk, junk, junk, junk, junk, junk, junk, junk, junk, junk, junk, junk, junk, junk, junk, junk, junk, junk, junk, junk, junk, junk, junk, junk, junk, junk, junk, junk, junk, junk, junk, junk, junk, junk, junk, junk, junk, junk, junk, junk, junk, junk, junk, junk, junk, junk, junk, junk, junk, junk, junk, junk, junk, junk, junk, junk, junk, junk, junk, junk, junk, junk, junk, junk, junk, junk, junk, junk, junk, junk, junk, junk, junk, junk, junk, junk, junk, junk, junk, junk, junk, junk, junk, junk, junk, junk, junk, junk, junk, junk, junk, junk, junk, junk, junk, junk, junk, junk, junk, junk, junk, junk, junk, junk, junk, junk, junk, junk, junk, junk, junk, junk, junk, junk, junk, junk, junk, junk, junk, junk, junk, junk, junk, junk, junk, junk, junk, junk, junk, junk, junk, junk, junk, junk, junk, junk, junk, junk]) ?_ ?_
    · exact ⟨rfl, by simp [forget, loTo, hiTo, mostTo]⟩
    rintro j e H' hj ⟨rfl, rfl⟩
    have hmj := mostTo_in s2 q j
    have hbj : x.getD (clampI x.length ((N : Int) - 1 + (j : Int))) 0 = besX x q ((j : Int) - 1) := by unfold besX; rw [hN, show (N : Int) - 1 + (j : Int) = N + ((j : Int) - 1) by omega]
    have hbb := bes_in s2 q ((j : Int) - 1)
    have ec : min ((x.length : Int) - 1) (max 0 ((N : Int) - 1 + (j : Int))) = ((clampI x.length ((N : Int) - 1 + (j : Int)) : Nat) : Int) := by unfold clampI; omega
    have hcl := clampI_lt (n := x.length) (j := (N : Int) - 1 + (j : Int)) (by omega)
    ((repeat (first | refine ya (by (with_reducible constructor) <;> first | rfl | decide) ?_ | apply yb | refine yc rfl ?_ | ((first | apply yd | apply ye); simp (disch := first | exact List.all_nil | omega | (simp only [go_sem]; done) | (simp only [ln, List.length_map]; omega) | (repeat' first | assumption | exact Ext.refl _ | refine Ext.app ?_ _)) only [go_sem]; with_reducible rfl))))
    refine cond_p rfl (fun hlt => ?_) (fun hge => ?_)
    · have em : max (mostTo x q j) (max (besX x q ((j : Int) - 1)) (-besX x q ((j : Int) - 1))) = mostTo x q (j + 1) := rfl
      have ej : (N : Int) - 1 + (j : Int) + 1 = (N : Int) - 1 + ((j + 1 : Nat) : Int) := by omega
      ((repeat (first | refine ya (by (with_reducible constructor) <;> first | rfl | decide) ?_ | apply yb | refine yc rfl ?_ | ((first | apply yd | apply ye); simp (disch := first | exact List.all_nil | omega | (simp only [go_sem]; done) | (simp only [ln, List.length_map]; omega) | (repeat' first | assumption | exact Ext.refl _ | refine Ext.app ?_ _)) only [go_sem, hX5.len, hX5.idx, hX5.load, ec, hbj]; with_reducible rfl))))
      refine aops_call_to (bsize_c _ (by omega)) ?_
      by_cases h2 : j = 2
      · have e2 : besX x q ((j : Int) - 1) = besX x q 1 := by subst h2; rfl
        by_cases hq0 : 0 < q % 64
        · have l1 : min (loTo x q j) (besX x q ((j : Int) - 1)) = loTo x q (j + 1) := by rw [e2]; subst h2; unfold loTo; rw [if_neg (by omega), if_pos ⟨by omega, hq0⟩]
          have l2 : max (hiTo x q j) (besX x q ((j : Int) - 1)) = hiTo x q (j + 1) := by rw [e2]; subst h2; unfold hiTo; rw [if_neg (by omega), if_pos ⟨by omega, hq0⟩]
          ((repeat (first | refine ya (by (with_reducible constructor) <;> first | rfl | decide) ?_ | apply yb | refine yc rfl ?_ | ((first | apply yd | apply ye); simp (disch := first | exact List.all_nil | omega | (simp only [go_sem]; done) | (simp only [ln, List.length_map]; omega) | (repeat' first | assumption | exact Ext.refl _ | refine Ext.app ?_ _)) only [go_sem, hL5.len, hL5.idx, hL5.load, em, dec_t (show (N : Int) - 1 + (j : Int) = (N : Int) + 1 by omega), eq, a_rem (show (64 : Int) ≠ 0 by decide), eq3, dec_t hq0]; with_reducible rfl))))
          refine cond_t rfl ?_
          ((repeat (first | refine ya (by (with_reducible constructor) <;> first | rfl | decide) ?_ | apply yb | refine yc rfl ?_ | ((first | apply yd | apply ye); simp (disch := first | exact List.all_nil | omega | (simp only [go_sem]; done) | (simp only [ln, List.length_map]; omega) | (repeat' first | assumption | exact Ext.refl _ | refine Ext.app ?_ _)) only [go_sem, l1, l2, ej]; with_reducible rfl))))
          exact ⟨by omega, rfl, by simp [forget]⟩
        · have l1 : loTo x q j = loTo x q (j + 1) := by unfold loTo; rw [if_neg (by omega), if_neg (by omega)]
          have l2 : hiTo x q j = hiTo x q (j + 1) := by unfold hiTo; rw [if_neg (by omega), if_neg (by omega)]
          ((repeat (first | refine ya (by (with_reducible constructor) <;> first | rfl | decide) ?_ | apply yb | refine yc rfl ?_ | ((first | apply yd | apply ye); simp (disch := first | exact List.all_nil | omega | (simp only [go_sem]; done) | (simp only [ln, List.length_map]; omega) | (repeat' first | assumption | exact Ext.refl _ | refine Ext.app ?_ _)) only [go_sem, hL5.len, hL5.idx, hL5.load, em, dec_t (show (N : Int) - 1 + (j : Int) = (N : Int) + 1 by omega), eq, a_rem (show (64 : Int) ≠ 0 by decide), eq3, dec_f hq0]; with_reducible rfl))))
          refine cond_f rfl ?_
          ((repeat (first | refine ya (by (with_reducible constructor) <;> first | rfl | decide) ?_ | apply yb | refine yc rfl ?_ | ((first | apply yd | apply ye); simp (disch := first | exact List.all_nil | omega | (simp only [go_sem]; done) | (simp only [ln, List.length_map]; omega) | (repeat' first | assumption | exact Ext.refl _ | refine Ext.app ?_ _)) only [go_sem, ej]; with_reducible rfl))))
          exact ⟨by omega, rfl, by rw [← l1, ← l2]; simp [forget]⟩
      · have l1 : loTo x q j = loTo x q (j + 1) := by unfold loTo; split <;> split <;> omega
        have l2 : hiTo x q j = hiTo x q (j + 1) := by unfold hiTo; split <;> split <;> omega
        ((repeat (first | refine ya (by (with_reducible constructor) <;> first | rfl | decide) ?_ | apply yb | refine yc rfl ?_ | ((first | apply yd | apply ye); simp (disch := first | exact List.all_nil | omega | (simp only [go_sem]; done) | (simp only [ln, List.length_map]; omega) | (repeat' first | assumption | exact Ext.refl _ | refine Ext.app ?_ _)) only [go_sem, em, dec_f (show ¬ (N : Int) - 1 + (j : Int) = (N : Int) + 1 by omega)]; with_reducible rfl))))
        refine cond_f rfl ?_
        ((repeat (first | refine ya (by (with_reducible constructor) <;> first | rfl | decide) ?_ | apply yb | refine yc rfl ?_ | ((first | apply yd | apply ye); simp (disch := first | exact List.all_nil | omega | (simp only [go_sem]; done) | (simp only [ln, List.length_map]; omega) | (repeat' first | assumption | exact Ext.refl _ | refine Ext.app ?_ _)) only [go_sem, ej]; with_reducible rfl))))
        exact ⟨by omega, rfl, by rw [← l1, ← l2]; simp [forget]⟩
    · obtain rfl : j = 4 := by omega
      obtain ⟨o1, o2⟩ := out_ok (q := q) hd s2
      have hdg : loadR (.pointer (some ⟨H.length, 1, none⟩)) G5 = some (.int .i64 deg, G5) := by rw [load_at g5]; rfl
      by_cases hd1 : deg = 1
      · have o3 := o1 hd1
        ((repeat (first | refine ya (by (with_reducible constructor) <;> first | rfl | decide) ?_ | apply yb | refine yc rfl ?_ | ((first | apply yd | apply ye); simp (disch := first | exact List.all_nil | omega | (simp only [go_sem]; done) | (simp only [ln, List.length_map]; omega) | (repeat' first | assumption | exact Ext.refl _ | refine Ext.app ?_ _)) only [go_sem, hY.len, hY.idx, hY.load, hdg, dec_t hd1, hyq]; with_reducible rfl))))
        refine aops_call_to (bwithin_c _ _ _) ?_
        ((repeat (first | refine ya (by (with_reducible constructor) <;> first | rfl | decide) ?_ | apply yb | refine yc rfl ?_ | ((first | apply yd | apply ye); simp (disch := first | exact List.all_nil | omega | (simp only [go_sem]; done) | (simp only [ln, List.length_map]; omega) | (repeat' first | assumption | exact Ext.refl _ | refine Ext.app ?_ _)) only [go_sem, hY.len, hY.idx, hY.load, dec_t o3, hyq]; with_reducible rfl))))
        refine aops_call_to (bsize_c _ (by omega)) ?_
        ((repeat (first | refine ya (by (with_reducible constructor) <;> first | rfl | decide) ?_ | apply yb | refine yc rfl ?_ | ((first | apply yd | apply ye); simp (disch := first | exact List.all_nil | omega | (simp only [go_sem]; done) | (simp only [ln, List.length_map]; omega) | (repeat' first | assumption | exact Ext.refl _ | refine Ext.app ?_ _)) only [go_sem, dec_f o2]; with_reducible rfl))))
        refine cond_f rfl ?_
        ((repeat (first | refine ya (by (with_reducible constructor) <;> first | rfl | decide) ?_ | apply yb | refine yc rfl ?_ | ((first | apply yd | apply ye); simp (disch := first | exact List.all_nil | omega | (simp only [go_sem]; done) | (simp only [ln, List.length_map]; omega) | (repeat' first | assumption | exact Ext.refl _ | refine Ext.app ?_ _)) only [go_sem]; with_reducible rfl))))
        exact ⟨by omega, rfl, by simp [forget]⟩
      · ((repeat (first | refine ya (by (with_reducible constructor) <;> first | rfl | decide) ?_ | apply yb | refine yc rfl ?_ | ((first | apply yd | apply ye); simp (disch := first | exact List.all_nil | omega | (simp only [go_sem]; done) | (simp only [ln, List.length_map]; omega) | (repeat' first | assumption | exact Ext.refl _ | refine Ext.app ?_ _)) only [go_sem, hY.len, hY.idx, hY.load, hdg, dec_f hd1, hyq]; with_reducible rfl))))
        refine aops_call_to (bsize_c _ (by omega)) ?_
        ((repeat (first | refine ya (by (with_reducible constructor) <;> first | rfl | decide) ?_ | apply yb | refine yc rfl ?_ | ((first | apply yd | apply ye); simp (disch := first | exact List.all_nil | omega | (simp only [go_sem]; done) | (simp only [ln, List.length_map]; omega) | (repeat' first | assumption | exact Ext.refl _ | refine Ext.app ?_ _)) only [go_sem, dec_f o2]; with_reducible rfl))))
        refine cond_f rfl ?_
        ((repeat (first | refine ya (by (with_reducible constructor) <;> first | rfl | decide) ?_ | apply yb | refine yc rfl ?_ | ((first | apply yd | apply ye); simp (disch := first | exact List.all_nil | omega | (simp only [go_sem]; done) | (simp only [ln, List.length_map]; omega) | (repeat' first | assumption | exact Ext.refl _ | refine Ext.app ?_ _)) only [go_sem]; with_reducible rfl))))
        exact ⟨by omega, rfl, by simp [forget]⟩
end Go.Lq

namespace Go.Lq
open Go Go.ChangeShapes Go.WideShapes Go.ChangeAt Go.RowKit
open Go.Proofs

set_option maxRecDepth 100000 in
theorem lifted6 (os : Os) (started : os.Started) (X : Type) (enc : TypeId × Value → X) :
    ReturnsInHanded {} Tryd.checked os 6 .any (fun w args => (YtlcfgealkjomnaaDoor.Rows.resampleBetweenSpec.pre enc Tryd.prog Tryd.f6 [] false w args ∧ laidMetH Tryd.prog laidAll w) ∧ sizedMet enc Tryd.prog Tryd.f6 (OpenSpec.ofChange YtlcfgealkjomnaaDoor.Rows.resampleBetweenSpec) false w args)
      (YtlcfgealkjomnaaDoor.Rows.resampleBetweenSpec.post enc Tryd.prog Tryd.f6 false true false false) := by
  refine returnsInHanded_of_change_shaped (C := Tryd.checked) (X := fun w _ => laidMetH Tryd.prog laidAll w) (fun _ _ _ hh h => h.of_heap hh) own_knob started (by kernel_rfl) Tryd.func6
    (ChangeSpec.witness_shaped (enc := enc) (C := Tryd.checked) (os := os) (X := fun w _ => laidMetH Tryd.prog laidAll w) false (World.doorLaid Tryd.prog 400 os) #[.agg #[.int .i64 0, .int .i64 0, .int .i64 0, .int .i64 0, .int .i64 0, .slice none 0 0], .slice none 0 0] 12 rfl (door_shaped os _) (by kernel_rfl) (by kernel_rfl) (by kernel_rfl) (door_met os _)) ?_
  intro W base args ds gs before hsh hval hW hL
  have hWw := hW
  obtain ⟨p, q, hA, _⟩ := hW
  refine (calls_of_law (d := 20) (of_laid hL hsh) globs glob_at hA (fun j t v h1 h2 => hval j t v (by simpa using h1) (by simpa using h2)) (by kernel_rfl) fun H avs hx h => ?_).mono fun e W' ⟨he, hB⟩ => ?_
  · exact law6 hx (by rw [show Tryd.f6.params = #[26, 27] from Tryd.params6] at h; exact h)
  · subst he
    exact ⟨_, rfl, law_post (bt := 4) laid_out rfl Tryd.underlying4 (by kernel_rfl) (by kernel_rfl) hWw (fun ds hd => by
      rw [show Tryd.f6.params = #[26, 27] from Tryd.params6] at hd
      match ds, hd with
      | [a, b], _ => rfl) hB⟩

theorem unf6 : Tryd.prog.unfollowed 6 = true := by kernel_rfl
theorem rec6 : Tryd.prog.recurses 6 = true := by kernel_rfl
theorem named6 : Tryd.prog.varsNamed 6 = YtlcfgealkjomnaaDoor.Rows.resampleBetweenRow.named := by kernel_rfl
theorem facts6 : joinedFacts Tryd.prog 6 Tryd.f6 YtlcfgealkjomnaaDoor.Rows.resampleBetweenSpec YtlcfgealkjomnaaDoor.Rows.resampleBetweenRow = true := by
  unfold joinedFacts
  rw [may_enter, stops_heard, maps_rowed, laid_out, lifts_final, make_is, unf6, rec6, named6]
  kernel_rfl
theorem holds6 : YtlcfgealkjomnaaDoor.Rows.ResampleBetweenSaid :=
  OpenClaim.holds_of_wide 6 Tryd.f6 rfl rfl rfl rfl rfl rfl rfl ⟨rfl, rfl, rfl, rfl, rfl⟩ rfl rfl rfl rfl rfl (by kernel_rfl) Tryd.func6 facts6
    (of_decide_eq_true (by kernel_rfl)) (by unfold Func.isWrapper; first | (rw [if_pos (by decide +kernel)]; kernel_rfl) | (rw [if_neg (by decide +kernel)]; exact ⟨rfl, rfl⟩))
    (fun os started H enc _ => lifted6 os started H enc)
end Go.Lq
namespace Go.Proofs.YtlcfgealkjomnaaDoor
open Go Go.Lq
theorem resampleBetween_proved : Rows.ResampleBetweenCardSaid :=
  Claim7.holds_tied_plain_at .later [] [.funcs] true (true, "9403e86e1dc287bd0cb4ee71274230f6f4c5733d4f08721e5e779bfd75daaf91") false
    holds6 (fun _ h => by cases h) (by kernel_rfl) (fun _ h => by cases h) resampleBetween_row_tie rfl ⟨rfl, rfl⟩ main_is rfl
    (fun f fn hf hfn => by
      obtain rfl : f = 6 := Option.some.inj ((show Tryd.prog.funcNamed "lacquer/lacquerlaw04.ResampleBetween" = some 6 by kernel_rfl).symm.trans hf) |>.symm
      obtain rfl : fn = Tryd.f6 := (Option.some.inj (Tryd.func6.symm.trans hfn)).symm
      exact ⟨looks0, fun j t ht => by
        rw [Tryd.params6] at ht
        have hm : t ∈ [26, 27] := by simpa using Array.mem_of_getElem? ht
        have hall : ([26, 27].all fun u => !Tryd.prog.wantsStandIn u) = true := by kernel_rfl
        exact (show Tryd.prog.wantsStandIn t = false by simpa using List.all_eq_true.1 hall t hm)⟩)
    (by kernel_rfl)
end Go.Proofs.YtlcfgealkjomnaaDoor
