/- ResampleOutputs is proved: for every input that can be read the law returns true, and each argument reads afterwards as it read before; the listed package variables hold what the program's text lays (the card ties them). -/
import Derived.Test.YtlcfgealkjomnaaDoorV33
set_option linter.unusedSimpArgs false
set_option linter.unnecessarySimpa false
set_option linter.unusedVariables false
set_option maxRecDepth 100000
namespace Go.Lq
open Go
open Go.Proofs

def ratioErrL (num den step : Int) (n : Nat) : Int := firstErr [(if (1 ≤ num ∧ num ≤ 1000) ∧ (1 ≤ den ∧ den ≤ 1000) then 0 else 2), (if step = 0 ∧ (n : Int) = 0 then 0 else 3)]
def curveErrL (l : List (Int × Int)) (step num den : Int) : Int := firstErr [mapErrL l, (if 1 ≤ step ∧ step ≤ 1000000000000 then 0 else 2), (if num = 0 ∧ den = 0 then 0 else 3)]
def rulesErrL (kind deg num den step : Int) (l : List (Int × Int)) : Int :=
  if 0 ≤ kind ∧ kind ≤ 1 then (if degErrL deg = 0 then (if kind = 0 then ratioErrL num den step l.length else curveErrL l step num den) else degErrL deg) else 15
def rulesC (kind deg num den step : Int) (v : Value) : List Value := [.int .i64 kind, .int .i64 deg, .int .i64 num, .int .i64 den, .int .i64 step, v]
def rulesV (kind deg num den step : Int) (v : Value) : Value := .agg ⟨[.int .i64 kind, .int .i64 deg, .int .i64 num, .int .i64 den, .int .i64 step, v]⟩

section
variable {H : AHeap} {kind deg num den step : Int} {l : List (Int × Int)} {v : Value}
theorem box_rules (hv : isAtom v = true) : boxR (rulesV kind deg num den step v) H = some (.pointer (some ⟨H.length, 0, none⟩), H ++ [.cells true 0 (rulesC kind deg num den step v)]) := box_agg (by simp [hv, isAtom_int])
theorem checkRules1_c (n : Int) : ACall Go.Proofs.Tryd.prog 96 [.int .i64 n] H fun w H' => w = .bool (decide (1 ≤ n ∧ n ≤ 1000)) ∧ H' = H := by
  (refine a96 ?_; simp only [n96, List.replicate, List.length_cons, List.length_nil, List.cons_append, List.nil_append]; first | refine q1 ?_ | refine q2 ?_ | refine q6 ?_ | refine q7 ?_ | refine qh rfl ?_ | skip)
  ((repeat (first | refine ya (by (with_reducible constructor) <;> first | rfl | decide) ?_ | apply yb | refine yc rfl ?_ | ((first | apply yd | apply ye); simp (disch := first | exact List.all_nil | omega | (simp only [go_sem]; done) | (simp only [ln, List.length_map]; omega) | (repeat' first | assumption | exact Ext.refl _ | refine Ext.app ?_ _)) only [go_sem]; with_reducible rfl))))
  refine aops_call_to (within_c _ _ _) ?_
  ((repeat (first | refine ya (by (with_reducible constructor) <;> first | rfl | decide) ?_ | apply yb | refine yc rfl ?_ | ((first | apply yd | apply ye); simp (disch := first | exact List.all_nil | omega | (simp only [go_sem]; done) | (simp only [ln, List.length_map]; omega) | (repeat' first | assumption | exact Ext.refl _ | refine Ext.app ?_ _)) only [go_sem]; with_reducible rfl))))
  exact fin_1 ⟨rfl, rfl⟩
theorem load_map {G : AHeap} {id : Nat} (h : G[id]? = some (.cells true 0 (rulesC kind deg num den step v))) : loadNR 1 (.pointer (some ⟨id, 5, none⟩)) G = some (.agg ⟨[v]⟩, G) := loadN_at h (by simp [rulesC])
set_option maxHeartbeats 4000000 in
theorem rRulesErr_c (hl : Pairs H l v) (hb : l.length ≤ 1000000000) : ACall Go.Proofs.Tryd.prog 32 [rulesV kind deg num den step v] H fun w H' => w = .int .i64 (rulesErrL kind deg num den step l) ∧ H' = H := by
  refine ACall.drop (.int _ _) ?_
  (refine a32 ?_; simp only [n32, List.replicate, List.length_cons, List.length_nil, List.cons_append, List.nil_append]; first | refine q1 ?_ | refine q2 ?_ | refine q6 ?_ | refine q7 ?_ | refine qh rfl ?_ | skip)
  have g0 : (H ++ [AObj.cells true 0 (rulesC kind deg num den step v)])[H.length]? = some (.cells true 0 (rulesC kind deg num den step v)) := at_new
  have xG : Ext H (H ++ [AObj.cells true 0 (rulesC kind deg num den step v)]) := (Ext.refl H).app _
  (repeat (first | refine ya (by (with_reducible constructor) <;> first | rfl | decide) ?_ | (apply yd; simp (disch := first | exact List.all_nil | omega | (simp only [go_sem]; done) | (simp only [ln, List.length_map]; omega) | (repeat' first | assumption | exact Ext.refl _ | refine Ext.app ?_ _)) only [go_sem, box_rules hl.atom]; with_reducible rfl)))
  generalize (H ++ [AObj.cells true 0 (rulesC kind deg num den step v)] : AHeap) = G at g0 xG
  have hl1 := hl.ext xG
  ((repeat (first | refine ya (by (with_reducible constructor) <;> first | rfl | decide) ?_ | apply yb | refine yc rfl ?_ | ((first | apply yd | apply ye); simp (disch := first | exact List.all_nil | omega | (simp only [go_sem]; done) | (simp only [ln, List.length_map]; omega) | (repeat' first | assumption | exact Ext.refl _ | refine Ext.app ?_ _)) only [go_sem, load_at g0, rulesC]; with_reducible rfl))))
  refine aops_call_to (bwithin_c _ _ _) ?_
  by_cases hk : 0 ≤ kind ∧ kind ≤ 1
  rotate_left 1
  · have ev : rulesErrL kind deg num den step l = 15 := by unfold rulesErrL; rw [if_neg hk]
    rw [ev]
    ((repeat (first | refine ya (by (with_reducible constructor) <;> first | rfl | decide) ?_ | apply yb | refine yc rfl ?_ | ((first | apply yd | apply ye); simp (disch := first | exact List.all_nil | omega | (simp only [go_sem]; done) | (simp only [ln, List.length_map]; omega) | (repeat' first | assumption | exact Ext.refl _ | refine Ext.app ?_ _)) only [go_sem, dec_f hk]; with_reducible rfl))))
    refine cond_t rfl ?_
    ((repeat (first | refine ya (by (with_reducible constructor) <;> first | rfl | decide) ?_ | apply yb | refine yc rfl ?_ | ((first | apply yd | apply ye); simp (disch := first | exact List.all_nil | omega | (simp only [go_sem]; done) | (simp only [ln, List.length_map]; omega) | (repeat' first | assumption | exact Ext.refl _ | refine Ext.app ?_ _)) only [go_sem]; with_reducible rfl))))
    exact fin_1 ⟨rfl, xG⟩
  ((repeat (first | refine ya (by (with_reducible constructor) <;> first | rfl | decide) ?_ | apply yb | refine yc rfl ?_ | ((first | apply yd | apply ye); simp (disch := first | exact List.all_nil | omega | (simp only [go_sem]; done) | (simp only [ln, List.length_map]; omega) | (repeat' first | assumption | exact Ext.refl _ | refine Ext.app ?_ _)) only [go_sem, dec_t hk]; with_reducible rfl))))
  refine cond_f rfl ?_
  ((repeat (first | refine ya (by (with_reducible constructor) <;> first | rfl | decide) ?_ | apply yb | refine yc rfl ?_ | ((first | apply yd | apply ye); simp (disch := first | exact List.all_nil | omega | (simp only [go_sem]; done) | (simp only [ln, List.length_map]; omega) | (repeat' first | assumption | exact Ext.refl _ | refine Ext.app ?_ _)) only [go_sem, load_at g0, rulesC]; with_reducible rfl))))
  refine aops_call_to (refDegreeErr_c _) ?_
  by_cases hd : degErrL deg = 0
  rotate_left 1
  · have ev : rulesErrL kind deg num den step l = degErrL deg := by unfold rulesErrL; rw [if_pos hk, if_neg hd]
    rw [ev]
    ((repeat (first | refine ya (by (with_reducible constructor) <;> first | rfl | decide) ?_ | apply yb | refine yc rfl ?_ | ((first | apply yd | apply ye); simp (disch := first | exact List.all_nil | omega | (simp only [go_sem]; done) | (simp only [ln, List.length_map]; omega) | (repeat' first | assumption | exact Ext.refl _ | refine Ext.app ?_ _)) only [go_sem, dec_t (show degErrL deg ≠ 0 from hd)]; with_reducible rfl))))
    refine cond_t rfl ?_
    ((repeat (first | refine ya (by (with_reducible constructor) <;> first | rfl | decide) ?_ | apply yb | refine yc rfl ?_ | ((first | apply yd | apply ye); simp (disch := first | exact List.all_nil | omega | (simp only [go_sem]; done) | (simp only [ln, List.length_map]; omega) | (repeat' first | assumption | exact Ext.refl _ | refine Ext.app ?_ _)) only [go_sem]; with_reducible rfl))))
    exact fin_1 ⟨rfl, xG⟩
  ((repeat (first | refine ya (by (with_reducible constructor) <;> first | rfl | decide) ?_ | apply yb | refine yc rfl ?_ | ((first | apply yd | apply ye); simp (disch := first | exact List.all_nil | omega | (simp only [go_sem]; done) | (simp only [ln, List.length_map]; omega) | (repeat' first | assumption | exact Ext.refl _ | refine Ext.app ?_ _)) only [go_sem, hd]; with_reducible rfl))))
  refine cond_f rfl ?_
  by_cases h0 : kind = 0
  · have ev : rulesErrL kind deg num den step l = ratioErrL num den step l.length := by unfold rulesErrL; rw [if_pos hk, if_pos hd, if_pos h0]
    rw [ev]
    ((repeat (first | refine ya (by (with_reducible constructor) <;> first | rfl | decide) ?_ | apply yb | refine yc rfl ?_ | ((first | apply yd | apply ye); simp (disch := first | exact List.all_nil | omega | (simp only [go_sem]; done) | (simp only [ln, List.length_map]; omega) | (repeat' first | assumption | exact Ext.refl _ | refine Ext.app ?_ _)) only [go_sem, load_at g0, rulesC, dec_t h0]; with_reducible rfl))))
    refine cond_t rfl ?_
    ((repeat (first | refine ya (by (with_reducible constructor) <;> first | rfl | decide) ?_ | apply yb | refine yc rfl ?_ | ((first | apply yd | apply ye); simp (disch := first | exact List.all_nil | omega | (simp only [go_sem]; done) | (simp only [ln, List.length_map]; omega) | (repeat' first | assumption | exact Ext.refl _ | refine Ext.app ?_ _)) only [go_sem, load_at g0, rulesC]; with_reducible rfl))))
    refine aops_call_to (bwithin_c _ _ _) ?_
    by_cases hn : 1 ≤ num ∧ num ≤ 1000
    rotate_left 1
    · have e2 : ratioErrL num den step l.length = 2 := by unfold ratioErrL; rw [if_neg (fun h => hn h.1)]; exact firstErr_e (by decide) _
      rw [e2]
      ((repeat (first | refine ya (by (with_reducible constructor) <;> first | rfl | decide) ?_ | apply yb | refine yc rfl ?_ | ((first | apply yd | apply ye); simp (disch := first | exact List.all_nil | omega | (simp only [go_sem]; done) | (simp only [ln, List.length_map]; omega) | (repeat' first | assumption | exact Ext.refl _ | refine Ext.app ?_ _)) only [go_sem, dec_f hn]; with_reducible rfl))))
      refine cond_t rfl ?_
      ((repeat (first | refine ya (by (with_reducible constructor) <;> first | rfl | decide) ?_ | apply yb | refine yc rfl ?_ | ((first | apply yd | apply ye); simp (disch := first | exact List.all_nil | omega | (simp only [go_sem]; done) | (simp only [ln, List.length_map]; omega) | (repeat' first | assumption | exact Ext.refl _ | refine Ext.app ?_ _)) only [go_sem]; with_reducible rfl))))
      exact fin_1 ⟨rfl, xG⟩
    ((repeat (first | refine ya (by (with_reducible constructor) <;> first | rfl | decide) ?_ | apply yb | refine yc rfl ?_ | ((first | apply yd | apply ye); simp (disch := first | exact List.all_nil | omega | (simp only [go_sem]; done) | (simp only [ln, List.length_map]; omega) | (repeat' first | assumption | exact Ext.refl _ | refine Ext.app ?_ _)) only [go_sem, dec_t hn, load_at g0, rulesC]; with_reducible rfl))))
    refine aops_call_to (bwithin_c _ _ _) ?_
    by_cases hn2 : 1 ≤ den ∧ den ≤ 1000
    rotate_left 1
    · have e2 : ratioErrL num den step l.length = 2 := by unfold ratioErrL; rw [if_neg (fun h => hn2 h.2)]; exact firstErr_e (by decide) _
      rw [e2]
      ((repeat (first | refine ya (by (with_reducible constructor) <;> first | rfl | decide) ?_ | apply yb | refine yc rfl ?_ | ((first | apply yd | apply ye); simp (disch := first | exact List.all_nil | omega | (simp only [go_sem]; done) | (simp only [ln, List.length_map]; omega) | (repeat' first | assumption | exact Ext.refl _ | refine Ext.app ?_ _)) only [go_sem, dec_t hn, dec_f hn2]; with_reducible rfl))))
      refine cond_t rfl ?_
      ((repeat (first | refine ya (by (with_reducible constructor) <;> first | rfl | decide) ?_ | apply yb | refine yc rfl ?_ | ((first | apply yd | apply ye); simp (disch := first | exact List.all_nil | omega | (simp only [go_sem]; done) | (simp only [ln, List.length_map]; omega) | (repeat' first | assumption | exact Ext.refl _ | refine Ext.app ?_ _)) only [go_sem]; with_reducible rfl))))
      exact fin_1 ⟨rfl, xG⟩
    have e3 : ratioErrL num den step l.length = if step = 0 ∧ (l.length : Int) = 0 then 0 else 3 := by
      unfold ratioErrL; rw [if_pos ⟨hn, hn2⟩, firstErr_z]
      split <;> rfl
    rw [e3]
    ((repeat (first | refine ya (by (with_reducible constructor) <;> first | rfl | decide) ?_ | apply yb | refine yc rfl ?_ | ((first | apply yd | apply ye); simp (disch := first | exact List.all_nil | omega | (simp only [go_sem]; done) | (simp only [ln, List.length_map]; omega) | (repeat' first | assumption | exact Ext.refl _ | refine Ext.app ?_ _)) only [go_sem, dec_t hn, dec_t hn2]; with_reducible rfl))))
    refine cond_f rfl ?_
    by_cases hs : step = 0
    rotate_left 1
    · rw [if_neg (fun h => hs h.1)]
      ((repeat (first | refine ya (by (with_reducible constructor) <;> first | rfl | decide) ?_ | apply yb | refine yc rfl ?_ | ((first | apply yd | apply ye); simp (disch := first | exact List.all_nil | omega | (simp only [go_sem]; done) | (simp only [ln, List.length_map]; omega) | (repeat' first | assumption | exact Ext.refl _ | refine Ext.app ?_ _)) only [go_sem, load_at g0, rulesC, dec_t (show step ≠ 0 from hs)]; with_reducible rfl))))
      refine cond_t rfl ?_
      ((repeat (first | refine ya (by (with_reducible constructor) <;> first | rfl | decide) ?_ | apply yb | refine yc rfl ?_ | ((first | apply yd | apply ye); simp (disch := first | exact List.all_nil | omega | (simp only [go_sem]; done) | (simp only [ln, List.length_map]; omega) | (repeat' first | assumption | exact Ext.refl _ | refine Ext.app ?_ _)) only [go_sem]; with_reducible rfl))))
      exact fin_1 ⟨rfl, xG⟩
    by_cases hz : (l.length : Int) = 0
    rotate_left 1
    · rw [if_neg (fun h => hz h.2)]
      ((repeat (first | refine ya (by (with_reducible constructor) <;> first | rfl | decide) ?_ | apply yb | refine yc rfl ?_ | ((first | apply yd | apply ye); simp (disch := first | exact List.all_nil | omega | (simp only [go_sem]; done) | (simp only [ln, List.length_map]; omega) | (repeat' first | assumption | exact Ext.refl _ | refine Ext.app ?_ _)) only [go_sem, hl1.len, hl1.idx, hl1.load, load_at g0, rulesC, dec_f (show ¬ step ≠ 0 from fun h => h hs), dec_t (show (l.length : Int) ≠ 0 from hz)]; with_reducible rfl))))
      refine cond_t rfl ?_
      ((repeat (first | refine ya (by (with_reducible constructor) <;> first | rfl | decide) ?_ | apply yb | refine yc rfl ?_ | ((first | apply yd | apply ye); simp (disch := first | exact List.all_nil | omega | (simp only [go_sem]; done) | (simp only [ln, List.length_map]; omega) | (repeat' first | assumption | exact Ext.refl _ | refine Ext.app ?_ _)) only [go_sem]; with_reducible rfl))))
      exact fin_1 ⟨rfl, xG⟩
    rw [if_pos ⟨hs, hz⟩]
    ((repeat (first | refine ya (by (with_reducible constructor) <;> first | rfl | decide) ?_ | apply yb | refine yc rfl ?_ | ((first | apply yd | apply ye); simp (disch := first | exact List.all_nil | omega | (simp only [go_sem]; done) | (simp only [ln, List.length_map]; omega) | (repeat' first | assumption | exact Ext.refl _ | refine Ext.app ?_ _)) only [go_sem, hl1.len, hl1.idx, hl1.load, load_at g0, rulesC, dec_f (show ¬ step ≠ 0 from fun h => h hs), dec_f (show ¬ (l.length : Int) ≠ 0 from fun h => h hz)]; with_reducible rfl))))
    refine cond_f rfl ?_
    ((repeat (first | refine ya (by (with_reducible constructor) <;> first | rfl | decide) ?_ | apply yb | refine yc rfl ?_ | ((first | apply yd | apply ye); simp (disch := first | exact List.all_nil | omega | (simp only [go_sem]; done) | (simp only [ln, List.length_map]; omega) | (repeat' first | assumption | exact Ext.refl _ | refine Ext.app ?_ _)) only [go_sem]; with_reducible rfl))))
    exact fin_1 ⟨rfl, xG⟩
  have ev : rulesErrL kind deg num den step l = curveErrL l step num den := by unfold rulesErrL; rw [if_pos hk, if_pos hd, if_neg h0]
  rw [ev]
  ((repeat (first | refine ya (by (with_reducible constructor) <;> first | rfl | decide) ?_ | apply yb | refine yc rfl ?_ | ((first | apply yd | apply ye); simp (disch := first | exact List.all_nil | omega | (simp only [go_sem]; done) | (simp only [ln, List.length_map]; omega) | (repeat' first | assumption | exact Ext.refl _ | refine Ext.app ?_ _)) only [go_sem, load_at g0, rulesC, dec_f h0]; with_reducible rfl))))
  refine cond_f rfl ?_
  ((repeat (first | refine ya (by (with_reducible constructor) <;> first | rfl | decide) ?_ | apply yb | refine yc rfl ?_ | ((first | apply yd | apply ye); simp (disch := first | exact List.all_nil | omega | (simp only [go_sem]; done) | (simp only [ln, List.length_map]; omega) | (repeat' first | assumption | exact Ext.refl _ | refine Ext.app ?_ _)) only [go_sem, load_map g0]; with_reducible rfl))))
  refine aops_call_to (rMapErr_c hl1 hb) ?_
  by_cases hm : mapErrL l = 0
  rotate_left 1
  · have e2 : curveErrL l step num den = mapErrL l := firstErr_e hm _
    rw [e2]
    ((repeat (first | refine ya (by (with_reducible constructor) <;> first | rfl | decide) ?_ | apply yb | refine yc rfl ?_ | ((first | apply yd | apply ye); simp (disch := first | exact List.all_nil | omega | (simp only [go_sem]; done) | (simp only [ln, List.length_map]; omega) | (repeat' first | assumption | exact Ext.refl _ | refine Ext.app ?_ _)) only [go_sem, dec_t (show mapErrL l ≠ 0 from hm)]; with_reducible rfl))))
    refine cond_t rfl ?_
    ((repeat (first | refine ya (by (with_reducible constructor) <;> first | rfl | decide) ?_ | apply yb | refine yc rfl ?_ | ((first | apply yd | apply ye); simp (disch := first | exact List.all_nil | omega | (simp only [go_sem]; done) | (simp only [ln, List.length_map]; omega) | (repeat' first | assumption | exact Ext.refl _ | refine Ext.app ?_ _)) only [go_sem]; with_reducible rfl))))
    exact fin_1 ⟨rfl, xG⟩
  ((repeat (first | refine ya (by (with_reducible constructor) <;> first | rfl | decide) ?_ | apply yb | refine yc rfl ?_ | ((first | apply yd | apply ye); simp (disch := first | exact List.all_nil | omega | (simp only [go_sem]; done) | (simp only [ln, List.length_map]; omega) | (repeat' first | assumption | exact Ext.refl _ | refine Ext.app ?_ _)) only [go_sem, hm]; with_reducible rfl))))
  refine cond_f rfl ?_
  ((repeat (first | refine ya (by (with_reducible constructor) <;> first | rfl | decide) ?_ | apply yb | refine yc rfl ?_ | ((first | apply yd | apply ye); simp (disch := first | exact List.all_nil | omega | (simp only [go_sem]; done) | (simp only [ln, List.length_map]; omega) | (repeat' first | assumption | exact Ext.refl _ | refine Ext.app ?_ _)) only [go_sem, load_at g0, rulesC]; with_reducible rfl))))
  refine aops_call_to (bwithin_c _ _ _) ?_
  by_cases hs : 1 ≤ step ∧ step ≤ 1000000000000
  rotate_left 1
  · have e2 : curveErrL l step num den = 2 := by unfold curveErrL; rw [hm, firstErr_z, if_neg hs]; exact firstErr_e (by decide) _
    rw [e2]
    ((repeat (first | refine ya (by (with_reducible constructor) <;> first | rfl | decide) ?_ | apply yb | refine yc rfl ?_ | ((first | apply yd | apply ye); simp (disch := first | exact List.all_nil | omega | (simp only [go_sem]; done) | (simp only [ln, List.length_map]; omega) | (repeat' first | assumption | exact Ext.refl _ | refine Ext.app ?_ _)) only [go_sem, dec_f hs]; with_reducible rfl))))
    refine cond_t rfl ?_
    ((repeat (first | refine ya (by (with_reducible constructor) <;> first | rfl | decide) ?_ | apply yb | refine yc rfl ?_ | ((first | apply yd | apply ye); simp (disch := first | exact List.all_nil | omega | (simp only [go_sem]; done) | (simp only [ln, List.length_map]; omega) | (repeat' first | assumption | exact Ext.refl _ | refine Ext.app ?_ _)) only [go_sem]; with_reducible rfl))))
    exact fin_1 ⟨rfl, xG⟩
  have e3 : curveErrL l step num den = if num = 0 ∧ den = 0 then 0 else 3 := by
    unfold curveErrL; rw [hm, firstErr_z, if_pos hs, firstErr_z]
    split <;> rfl
  rw [e3]
  ((repeat (first | refine ya (by (with_reducible constructor) <;> first | rfl | decide) ?_ | apply yb | refine yc rfl ?_ | ((first | apply yd | apply ye); simp (disch := first | exact List.all_nil | omega | (simp only [go_sem]; done) | (simp only [ln, List.length_map]; omega) | (repeat' first | assumption | exact Ext.refl _ | refine Ext.app ?_ _)) only [go_sem, dec_t hs]; with_reducible rfl))))
  refine cond_f rfl ?_
  by_cases hn : num = 0
  rotate_left 1
  · rw [if_neg (fun h => hn h.1)]
    ((repeat (first | refine ya (by (with_reducible constructor) <;> first | rfl | decide) ?_ | apply yb | refine yc rfl ?_ | ((first | apply yd | apply ye); simp (disch := first | exact List.all_nil | omega | (simp only [go_sem]; done) | (simp only [ln, List.length_map]; omega) | (repeat' first | assumption | exact Ext.refl _ | refine Ext.app ?_ _)) only [go_sem, load_at g0, rulesC, dec_t (show num ≠ 0 from hn)]; with_reducible rfl))))
    refine cond_t rfl ?_
    ((repeat (first | refine ya (by (with_reducible constructor) <;> first | rfl | decide) ?_ | apply yb | refine yc rfl ?_ | ((first | apply yd | apply ye); simp (disch := first | exact List.all_nil | omega | (simp only [go_sem]; done) | (simp only [ln, List.length_map]; omega) | (repeat' first | assumption | exact Ext.refl _ | refine Ext.app ?_ _)) only [go_sem]; with_reducible rfl))))
    exact fin_1 ⟨rfl, xG⟩
  by_cases hn2 : den = 0
  rotate_left 1
  · rw [if_neg (fun h => hn2 h.2)]
    ((repeat (first | refine ya (by (with_reducible constructor) <;> first | rfl | decide) ?_ | apply yb | refine yc rfl ?_ | ((first | apply yd | apply ye); simp (disch := first | exact List.all_nil | omega | (simp only [go_sem]; done) | (simp only [ln, List.length_map]; omega) | (repeat' first | assumption | exact Ext.refl _ | refine Ext.app ?_ _)) only [go_sem, load_at g0, rulesC, dec_f (show ¬ num ≠ 0 from fun h => h hn), dec_t (show den ≠ 0 from hn2)]; with_reducible rfl))))
    refine cond_t rfl ?_
    ((repeat (first | refine ya (by (with_reducible constructor) <;> first | rfl | decide) ?_ | apply yb | refine yc rfl ?_ | ((first | apply yd | apply ye); simp (disch := first | exact List.all_nil | omega | (simp only [go_sem]; done) | (simp only [ln, List.length_map]; omega) | (repeat' first | assumption | exact Ext.refl _ | refine Ext.app ?_ _)) only [go_sem]; with_reducible rfl))))
    exact fin_1 ⟨rfl, xG⟩
  rw [if_pos ⟨hn, hn2⟩]
  ((repeat (first | refine ya (by (with_reducible constructor) <;> first | rfl | decide) ?_ | apply yb | refine yc rfl ?_ | ((first | apply yd | apply ye); simp (disch := first | exact List.all_nil | omega | (simp only [go_sem]; done) | (simp only [ln, List.length_map]; omega) | (repeat' first | assumption | exact Ext.refl _ | refine Ext.app ?_ _)) only [go_sem, load_at g0, rulesC, dec_f (show ¬ num ≠ 0 from fun h => h hn), dec_f (show ¬ den ≠ 0 from fun h => h hn2)]; with_reducible rfl))))
  refine cond_f rfl ?_
  ((repeat (first | refine ya (by (with_reducible constructor) <;> first | rfl | decide) ?_ | apply yb | refine yc rfl ?_ | ((first | apply yd | apply ye); simp (disch := first | exact List.all_nil | omega | (simp only [go_sem]; done) | (simp only [ln, List.length_map]; omega) | (repeat' first | assumption | exact Ext.refl _ | refine Ext.app ?_ _)) only [go_sem]; with_reducible rfl))))
  exact fin_1 ⟨rfl, xG⟩
end
end Go.Lq

namespace Go.Lq
open Go
open Go.Proofs

theorem store_in {H : AHeap} {k e i : Nat} {vs : List Value} {v w : Value} (h : H[k]? = some (.cells true e vs)) (hi : i < vs.length) (ha : isAtom w = true) (hc : v.cells = ⟨[w]⟩) :
    storeR 1 (.pointer (some ⟨k, i, none⟩)) v H = some (undef, H.set k (.cells true e (vs.set i w))) := by
  have e2 : ([w] : List Value).all isAtom = true := by simp [ha]
  simp only [storeR, hc, List.size_toArray, storeAt, h, e2, and_true, List.length_cons, List.length_nil]
  rw [setCells_one _ _ _ hi]
  simp [show i + 1 ≤ vs.length by omega]
theorem store_all {H : AHeap} {id e n : Nat} {us vs : List Value} (h : H[id]? = some (.cells true e vs)) (hl : us.length = vs.length) (ha : us.all isAtom = true) (hn : n = us.length) :
    storeR n (.pointer (some ⟨id, 0, none⟩)) (.agg ⟨us⟩) H = some (undef, H.set id (.cells true e us)) := by
  subst hn
  have e1 : (Value.agg ⟨us⟩).cells = ⟨us⟩ := rfl
  have e2 : setCells vs 0 us = us := by
    unfold setCells
    simp [hl]
  simp only [storeR, e1, List.size_toArray, storeAt, h, ha, e2]
  simp [hl]
theorem wraps_rules {kind deg num den step : Int} : Wraps fun s => rulesV kind deg num den step s := fun s n a b h => .agg rfl fun i u u' h1 h2 => by
  match i with
  | 0 => simp at h1 h2; subst h1; subst h2; exact .int _ _
  | 1 => simp at h1 h2; subst h1; subst h2; exact .int _ _
  | 2 => simp at h1 h2; subst h1; subst h2; exact .int _ _
  | 3 => simp at h1 h2; subst h1; subst h2; exact .int _ _
  | 4 => simp at h1 h2; subst h1; subst h2; exact .int _ _
  | 5 => simp at h1 h2; subst h1; subst h2; exact h
  | i + 6 => simp at h1

section
variable {H : AHeap} {kind deg num den step : Int} {l : List (Int × Int)} {v : Value}
theorem few_c (hl : Pairs H l v) : ACall Go.Proofs.Tryd.prog 21 [.agg ⟨[v]⟩] H fun w H' => w = .bool (decide (l.length ≤ 22)) ∧ H' = H := by
  refine ACall.drop (.bool _) ?_
  (refine a21 ?_; simp only [n21, List.replicate, List.length_cons, List.length_nil, List.cons_append, List.nil_append]; first | refine q1 ?_ | refine q2 ?_ | refine q6 ?_ | refine q7 ?_ | refine qh rfl ?_ | skip)
  have g0 : (H ++ [AObj.cells true 0 [v]])[H.length]? = some (.cells true 0 [v]) := at_new
  have xG : Ext H (H ++ [AObj.cells true 0 [v]]) := (Ext.refl H).app _
  (repeat (first | refine ya (by (with_reducible constructor) <;> first | rfl | decide) ?_ | (apply yd; simp (disch := first | exact List.all_nil | omega | (simp only [go_sem]; done) | (simp only [ln, List.length_map]; omega) | (repeat' first | assumption | exact Ext.refl _ | refine Ext.app ?_ _)) only [go_sem, hl.box1]; with_reducible rfl)))
  generalize (H ++ [AObj.cells true 0 [v]] : AHeap) = G at g0 xG
  have hl1 := hl.ext xG
  ((repeat (first | refine ya (by (with_reducible constructor) <;> first | rfl | decide) ?_ | apply yb | refine yc rfl ?_ | ((first | apply yd | apply ye); simp (disch := first | exact List.all_nil | omega | (simp only [go_sem]; done) | (simp only [ln, List.length_map]; omega) | (repeat' first | assumption | exact Ext.refl _ | refine Ext.app ?_ _)) only [go_sem, hl1.len, hl1.idx, hl1.load, load_at g0]; with_reducible rfl))))
  have e1 : decide ((l.length : Int) ≤ 22) = decide (l.length ≤ 22) := by simp; omega
  exact fin_1 ⟨by rw [← e1]; rfl, xG⟩
theorem copyMap_c (hl : Pairs H l v) (hb : l.length ≤ 1000000) : ACall Go.Proofs.Tryd.prog 52 [.agg ⟨[v]⟩] H fun w H' =>
    w = .agg ⟨[.slice (some ⟨H.length, 0, none⟩) l.length l.length]⟩ ∧ H' = H ++ [.cells true 2 (flatP l)] := by
  refine ACall.tidyE (f := fun s => .agg ⟨[s]⟩) (n := l.length) (sz := 2) wraps_agg1 (closed_flatP l) ?_
  (refine a52 ?_; simp only [n52, List.replicate, List.length_cons, List.length_nil, List.cons_append, List.nil_append]; first | refine q1 ?_ | refine q2 ?_ | refine q6 ?_ | refine q7 ?_ | refine qh rfl ?_ | skip)
  (repeat (first | refine ya (by (with_reducible constructor) <;> first | rfl | decide) ?_ | (apply yd; simp (disch := first | exact List.all_nil | omega | (simp only [go_sem]; done) | (simp only [ln, List.length_map]; omega) | (repeat' first | assumption | exact Ext.refl _ | refine Ext.app ?_ _)) only [go_sem, hl.box1]; with_reducible rfl)))
  (simp only [List.length_append, List.length_cons, List.length_nil, Nat.zero_add, Nat.add_assoc, Nat.reduceAdd])
  obtain ⟨G, hG⟩ : ∃ G, G = H ++ [AObj.cells true 0 [v]] ++ [AObj.cells true 0 [.slice none 0 0]] := ⟨_, rfl⟩
  have g0 : G[H.length]? = some (.cells true 0 [v]) := by rw [hG]; exact at_app at_new
  have g1 : G[H.length + 1]? = some (.cells true 0 [.slice none 0 0]) := by rw [hG]; simp
  have xG : Ext H G := by rw [hG]; exact ((Ext.refl H).app _).app _
  have lG : G.length = H.length + 2 := by rw [hG]; simp
  rw [← hG]
  clear hG
  obtain ⟨s, H2, ha, hx2, id, rfl, hid, hc2⟩ := append_copy (bytes := 16) (hl.ext xG) (isAtom_flatP l) (roomOk_of (by omega) (by omega))
  have h1 := hx2.cell g1
  have hms : mkSliceL 2 0 (some []) G = some (.slice (some ⟨G.length, 0, none⟩) 0 0, G ++ [.cells true 2 []]) := rfl
  have k0 := at_app (N := [AObj.cells true 2 []]) g0
  have hf : fillA [.slice none 0 0] [(0, 1, .slice (some ⟨id, 0, none⟩) l.length l.length)] = some [.slice (some ⟨id, 0, none⟩) l.length l.length] := rfl
  have hst := store_all (n := 1) (us := [.slice (some ⟨id, 0, none⟩) l.length l.length]) h1 rfl rfl rfl
  ((repeat (first | refine ya (by (with_reducible constructor) <;> first | rfl | decide) ?_ | apply yb | refine yc rfl ?_ | ((first | apply yd | apply ye); simp (disch := first | exact List.all_nil | omega | (simp only [go_sem]; done) | (simp only [ln, List.length_map]; omega) | (repeat' first | assumption | exact Ext.refl _ | refine Ext.app ?_ _)) only [go_sem, hms, load_at k0, ha, hf, hst]; with_reducible rfl))))
  refine fin_l1 (u := .agg ⟨[.slice (some ⟨id, 0, none⟩) l.length l.length]⟩) (loadN_at (k := 0) (get_set_self h1) (by simp)) ?_
  refine ⟨_, id, rfl, (xG.trans hx2).set (by omega) _, rfl, by omega, ?_⟩
  rw [List.getElem?_set_ne (by omega)]; exact hc2
theorem copyRules_c (hl : Pairs H l v) (hb : l.length ≤ 1000000) : ACall Go.Proofs.Tryd.prog 24 [rulesV kind deg num den step v] H fun w H' =>
    w = rulesV kind deg num den step (.slice (some ⟨H.length, 0, none⟩) l.length l.length) ∧ H' = H ++ [.cells true 2 (flatP l)] := by
  refine ACall.tidyE (f := fun s => rulesV kind deg num den step s) (n := l.length) (sz := 2) wraps_rules (closed_flatP l) ?_
  (refine a24 ?_; simp only [n24, List.replicate, List.length_cons, List.length_nil, List.cons_append, List.nil_append]; first | refine q1 ?_ | refine q2 ?_ | refine q6 ?_ | refine q7 ?_ | refine qh rfl ?_ | skip)
  (repeat (first | refine ya (by (with_reducible constructor) <;> first | rfl | decide) ?_ | (apply yd; simp (disch := first | exact List.all_nil | omega | (simp only [go_sem]; done) | (simp only [ln, List.length_map]; omega) | (repeat' first | assumption | exact Ext.refl _ | refine Ext.app ?_ _)) only [go_sem, box_rules hl.atom]; with_reducible rfl)))
  (simp only [List.length_append, List.length_cons, List.length_nil, Nat.zero_add, Nat.add_assoc, Nat.reduceAdd])
  obtain ⟨G, hG⟩ : ∃ G, G = H ++ [AObj.cells true 0 (rulesC kind deg num den step v)] ++ [AObj.cells true 0 [.int .i64 0, .int .i64 0, .int .i64 0, .int .i64 0, .int .i64 0, .slice none 0 0]] := ⟨_, rfl⟩
  have g0 : G[H.length]? = some (.cells true 0 (rulesC kind deg num den step v)) := by rw [hG]; exact at_app at_new
  have g1 : G[H.length + 1]? = some (.cells true 0 [.int .i64 0, .int .i64 0, .int .i64 0, .int .i64 0, .int .i64 0, .slice none 0 0]) := by rw [hG]; simp
  have xG : Ext H G := by rw [hG]; exact ((Ext.refl H).app _).app _
  have lG : G.length = H.length + 2 := by rw [hG]; simp
  rw [← hG]
  clear hG
  ((repeat (first | refine ya (by (with_reducible constructor) <;> first | rfl | decide) ?_ | apply yb | refine yc rfl ?_ | ((first | apply yd | apply ye); simp (disch := first | exact List.all_nil | omega | (simp only [go_sem]; done) | (simp only [ln, List.length_map]; omega) | (repeat' first | assumption | exact Ext.refl _ | refine Ext.app ?_ _)) only [go_sem, load_map g0]; with_reducible rfl))))
  refine aops_call_to (copyMap_c (hl.ext xG) hb) ?_
  have k0 := at_app (N := [AObj.cells true 2 (flatP l)]) g0
  have k1 := at_app (N := [AObj.cells true 2 (flatP l)]) g1
  have k2 : (G ++ [AObj.cells true 2 (flatP l)])[G.length]? = some (.cells true 2 (flatP l)) := at_new
  have x2 := xG.app [AObj.cells true 2 (flatP l)]
  generalize (G ++ [AObj.cells true 2 (flatP l)] : AHeap) = G2 at k0 k1 k2 x2
  obtain ⟨s, hs⟩ : ∃ s, Value.slice (some ⟨G.length, 0, none⟩) l.length l.length = s := ⟨_, rfl⟩
  have hsa : isAtom s = true := by rw [← hs]; rfl
  rw [hs]
  have hst : storeR 1 (.pointer (some ⟨H.length, 5, none⟩)) (.agg ⟨[s]⟩) G2 = some (undef, G2.set H.length (.cells true 0 (rulesC kind deg num den step s))) := store_in k0 (by simp [rulesC]) hsa rfl
  have j0 : (G2.set H.length (.cells true 0 (rulesC kind deg num den step s)))[H.length]? = some (.cells true 0 (rulesC kind deg num den step s)) := get_set_self k0
  have j1 : (G2.set H.length (.cells true 0 (rulesC kind deg num den step s)))[H.length + 1]? = some (.cells true 0 [.int .i64 0, .int .i64 0, .int .i64 0, .int .i64 0, .int .i64 0, .slice none 0 0]) := by rw [List.getElem?_set_ne (by omega)]; exact k1
  have j2 : (G2.set H.length (.cells true 0 (rulesC kind deg num den step s)))[G.length]? = some (.cells true 2 (flatP l)) := by rw [List.getElem?_set_ne (by omega)]; exact k2
  have x3 := x2.set (Nat.le_refl _) (.cells true 0 (rulesC kind deg num den step s))
  have l6 : loadNR 6 (.pointer (some ⟨H.length, 0, none⟩)) (G2.set H.length (.cells true 0 (rulesC kind deg num den step s))) = some (rulesV kind deg num den step s, G2.set H.length (.cells true 0 (rulesC kind deg num den step s))) := loadN_at j0 (by simp [rulesC])
  have hs6 : storeR 6 (.pointer (some ⟨H.length + 1, 0, none⟩)) (rulesV kind deg num den step s) (G2.set H.length (.cells true 0 (rulesC kind deg num den step s))) = some (undef, (G2.set H.length (.cells true 0 (rulesC kind deg num den step s))).set (H.length + 1) (.cells true 0 (rulesC kind deg num den step s))) := store_all j1 rfl (by simp [hsa, isAtom_int]) rfl
  ((repeat (first | refine ya (by (with_reducible constructor) <;> first | rfl | decide) ?_ | apply yb | refine yc rfl ?_ | ((first | apply yd | apply ye); simp (disch := first | exact List.all_nil | omega | (simp only [go_sem]; done) | (simp only [ln, List.length_map]; omega) | (repeat' first | assumption | exact Ext.refl _ | refine Ext.app ?_ _)) only [go_sem, hst, l6, hs6]; with_reducible rfl))))
  refine fin_l1 (u := rulesV kind deg num den step s) (loadN_at (k := 0) (get_set_self j1) (by simp [rulesC])) ?_
  refine ⟨s, G.length, rfl, x3.set (by omega) _, hs.symm, by omega, ?_⟩
  rw [List.getElem?_set_ne (by omega)]; exact j2
end
end Go.Lq

namespace Go.Lq
open Go
open Go.Proofs

theorem ratio_E {num den step : Int} {n : Nat} : firstErr [(if decide ((1 ≤ num ∧ num ≤ 1000) ∧ (1 ≤ den ∧ den ≤ 1000)) = true then 0 else 2), (if decide (step = 0 ∧ (n : Int) = 0) = true then 0 else 3)] = ratioErrL num den step n := by
  unfold ratioErrL
  simp only [decide_eq_true_eq]
theorem curve_E {l : List (Int × Int)} {num den step : Int} : firstErr [mapErrL l, (if decide (1 ≤ step ∧ step ≤ 1000000000000) = true then 0 else 2), (if decide (num = 0 ∧ den = 0) = true then 0 else 3)] = curveErrL l step num den := by
  unfold curveErrL
  simp only [decide_eq_true_eq]
section
variable {H : AHeap} {kind deg num den step : Int} {l : List (Int × Int)} {v : Value}
set_option maxHeartbeats 4000000 in
theorem checkRules_c (hl : Pairs H l v) (hb : l.length ≤ 1000000000) : ACall Go.Proofs.Tryd.prog 33 [rulesV kind deg num den step v] H fun w H' => w = .int .i64 (rulesErrL kind deg num den step l) ∧ H' = H := by
  refine ACall.drop (.int _ _) ?_
  (refine a33 ?_; simp only [n33, List.replicate, List.length_cons, List.length_nil, List.cons_append, List.nil_append]; first | refine q1 ?_ | refine q2 ?_ | refine q6 ?_ | refine q7 ?_ | refine qh rfl ?_ | skip)
  have g0 : (H ++ [AObj.cells true 0 (rulesC kind deg num den step v)])[H.length]? = some (.cells true 0 (rulesC kind deg num den step v)) := at_new
  have xG : Ext H (H ++ [AObj.cells true 0 (rulesC kind deg num den step v)]) := (Ext.refl H).app _
  (repeat (first | refine ya (by (with_reducible constructor) <;> first | rfl | decide) ?_ | (apply yd; simp (disch := first | exact List.all_nil | omega | (simp only [go_sem]; done) | (simp only [ln, List.length_map]; omega) | (repeat' first | assumption | exact Ext.refl _ | refine Ext.app ?_ _)) only [go_sem, box_rules hl.atom]; with_reducible rfl)))
  generalize (H ++ [AObj.cells true 0 (rulesC kind deg num den step v)] : AHeap) = G at g0 xG
  have hl1 := hl.ext xG
  ((repeat (first | refine ya (by (with_reducible constructor) <;> first | rfl | decide) ?_ | apply yb | refine yc rfl ?_ | ((first | apply yd | apply ye); simp (disch := first | exact List.all_nil | omega | (simp only [go_sem]; done) | (simp only [ln, List.length_map]; omega) | (repeat' first | assumption | exact Ext.refl _ | refine Ext.app ?_ _)) only [go_sem, load_at g0, rulesC]; with_reducible rfl))))
  refine adraw_call (N := []) (firstD (within_c _ _ _)) ?_
  rw [List.append_nil]
  ((repeat (first | refine ya (by (with_reducible constructor) <;> first | rfl | decide) ?_ | apply yb | refine yc rfl ?_ | ((first | apply yd | apply ye); simp (disch := first | exact List.all_nil | omega | (simp only [go_sem]; done) | (simp only [ln, List.length_map]; omega) | (repeat' first | assumption | exact Ext.refl _ | refine Ext.app ?_ _)) only [go_sem]; with_reducible rfl))))
  refine adraw_call (N := []) (firstD (unless_c _ _)) ?_
  rw [List.append_nil]
  ((repeat (first | refine ya (by (with_reducible constructor) <;> first | rfl | decide) ?_ | apply yb | refine yc rfl ?_ | ((first | apply yd | apply ye); simp (disch := first | exact List.all_nil | omega | (simp only [go_sem]; done) | (simp only [ln, List.length_map]; omega) | (repeat' first | assumption | exact Ext.refl _ | refine Ext.app ?_ _)) only [go_sem, load_at g0, rulesC]; with_reducible rfl))))
  refine adraw_call (N := []) (firstD (degreeErr_c _)) ?_
  rw [List.append_nil]
  ((repeat (first | refine ya (by (with_reducible constructor) <;> first | rfl | decide) ?_ | apply yb | refine yc rfl ?_ | ((first | apply yd | apply ye); simp (disch := first | exact List.all_nil | omega | (simp only [go_sem]; done) | (simp only [ln, List.length_map]; omega) | (repeat' first | assumption | exact Ext.refl _ | refine Ext.app ?_ _)) only [go_sem]; with_reducible rfl))))
  refine adraw_call (N := []) (firstD (first_c (l := [_, _]) (Ints.last (l := [_, _]) 2) (by simp))) ?_
  rw [List.append_nil]
  by_cases hk : 0 ≤ kind ∧ kind ≤ 1
  rotate_left 1
  · have ev : rulesErrL kind deg num den step l = 15 := by unfold rulesErrL; rw [if_neg hk]
    rw [ev]
    ((repeat (first | refine ya (by (with_reducible constructor) <;> first | rfl | decide) ?_ | apply yb | refine yc rfl ?_ | ((first | apply yd | apply ye); simp (disch := first | exact List.all_nil | omega | (simp only [go_sem]; done) | (simp only [ln, List.length_map]; omega) | (repeat' first | assumption | exact Ext.refl _ | refine Ext.app ?_ _)) only [go_sem, dec_f hk, ite_ft, firstErr_e (show (15 : Int) ≠ 0 by decide)]; with_reducible rfl))))
    refine cond_t rfl ?_
    ((repeat (first | refine ya (by (with_reducible constructor) <;> first | rfl | decide) ?_ | apply yb | refine yc rfl ?_ | ((first | apply yd | apply ye); simp (disch := first | exact List.all_nil | omega | (simp only [go_sem]; done) | (simp only [ln, List.length_map]; omega) | (repeat' first | assumption | exact Ext.refl _ | refine Ext.app ?_ _)) only [go_sem]; with_reducible rfl))))
    exact fin_1 ⟨rfl, xG.app _⟩
  by_cases hd : degErrL deg = 0
  rotate_left 1
  · have ev : rulesErrL kind deg num den step l = degErrL deg := by unfold rulesErrL; rw [if_pos hk, if_neg hd]
    rw [ev]
    ((repeat (first | refine ya (by (with_reducible constructor) <;> first | rfl | decide) ?_ | apply yb | refine yc rfl ?_ | ((first | apply yd | apply ye); simp (disch := first | exact List.all_nil | omega | (simp only [go_sem]; done) | (simp only [ln, List.length_map]; omega) | (repeat' first | assumption | exact Ext.refl _ | refine Ext.app ?_ _)) only [go_sem, dec_t hk, ite_tt, firstErr_z, firstErr_e hd, dec_t (show degErrL deg ≠ 0 from hd)]; with_reducible rfl))))
    refine cond_t rfl ?_
    ((repeat (first | refine ya (by (with_reducible constructor) <;> first | rfl | decide) ?_ | apply yb | refine yc rfl ?_ | ((first | apply yd | apply ye); simp (disch := first | exact List.all_nil | omega | (simp only [go_sem]; done) | (simp only [ln, List.length_map]; omega) | (repeat' first | assumption | exact Ext.refl _ | refine Ext.app ?_ _)) only [go_sem]; with_reducible rfl))))
    exact fin_1 ⟨rfl, xG.app _⟩
  ((repeat (first | refine ya (by (with_reducible constructor) <;> first | rfl | decide) ?_ | apply yb | refine yc rfl ?_ | ((first | apply yd | apply ye); simp (disch := first | exact List.all_nil | omega | (simp only [go_sem]; done) | (simp only [ln, List.length_map]; omega) | (repeat' first | assumption | exact Ext.refl _ | refine Ext.app ?_ _)) only [go_sem, dec_t hk, ite_tt, firstErr_z, hd, firstErr_nil]; with_reducible rfl))))
  refine cond_f rfl ?_
  have x2 : Ext G (G ++ [AObj.cells true 1 [.int .i64 0, .int .i64 0]]) := (Ext.refl G).app _
  generalize (G ++ [AObj.cells true 1 [.int .i64 0, .int .i64 0]] : AHeap) = G2 at x2
  have xH2 := xG.trans x2
  have k0 := x2.cell g0
  have hl2 := hl.ext xH2
  by_cases h0 : kind = 0
  · have ev : rulesErrL kind deg num den step l = ratioErrL num den step l.length := by unfold rulesErrL; rw [if_pos hk, if_pos hd, if_pos h0]
    rw [ev, ← ratio_E]
    ((repeat (first | refine ya (by (with_reducible constructor) <;> first | rfl | decide) ?_ | apply yb | refine yc rfl ?_ | ((first | apply yd | apply ye); simp (disch := first | exact List.all_nil | omega | (simp only [go_sem]; done) | (simp only [ln, List.length_map]; omega) | (repeat' first | assumption | exact Ext.refl _ | refine Ext.app ?_ _)) only [go_sem, load_at k0, rulesC, dec_t h0]; with_reducible rfl))))
    refine cond_t rfl ?_
    ((repeat (first | refine ya (by (with_reducible constructor) <;> first | rfl | decide) ?_ | apply yb | refine yc rfl ?_ | ((first | apply yd | apply ye); simp (disch := first | exact List.all_nil | omega | (simp only [go_sem]; done) | (simp only [ln, List.length_map]; omega) | (repeat' first | assumption | exact Ext.refl _ | refine Ext.app ?_ _)) only [go_sem, load_at k0, rulesC]; with_reducible rfl))))
    refine adraw_call (N := []) (firstD (checkRules1_c _)) ?_
    rw [List.append_nil]
    by_cases hn : 1 ≤ num ∧ num ≤ 1000
    · ((repeat (first | refine ya (by (with_reducible constructor) <;> first | rfl | decide) ?_ | apply yb | refine yc rfl ?_ | ((first | apply yd | apply ye); simp (disch := first | exact List.all_nil | omega | (simp only [go_sem]; done) | (simp only [ln, List.length_map]; omega) | (repeat' first | assumption | exact Ext.refl _ | refine Ext.app ?_ _)) only [go_sem, dec_t hn, load_at k0, rulesC]; with_reducible rfl))))
      refine adraw_call (N := []) (firstD (checkRules1_c _)) ?_
      rw [List.append_nil]
      ((repeat (first | refine ya (by (with_reducible constructor) <;> first | rfl | decide) ?_ | apply yb | refine yc rfl ?_ | ((first | apply yd | apply ye); simp (disch := first | exact List.all_nil | omega | (simp only [go_sem]; done) | (simp only [ln, List.length_map]; omega) | (repeat' first | assumption | exact Ext.refl _ | refine Ext.app ?_ _)) only [go_sem, dec_t hn]; with_reducible rfl))))
      refine adraw_call (N := []) (firstD (unless_c _ _)) ?_
      rw [List.append_nil]
      by_cases hs : step = 0
      · ((repeat (first | refine ya (by (with_reducible constructor) <;> first | rfl | decide) ?_ | apply yb | refine yc rfl ?_ | ((first | apply yd | apply ye); simp (disch := first | exact List.all_nil | omega | (simp only [go_sem]; done) | (simp only [ln, List.length_map]; omega) | (repeat' first | assumption | exact Ext.refl _ | refine Ext.app ?_ _)) only [go_sem, hl2.len, hl2.idx, hl2.load, load_at k0, rulesC, dec_t hs]; with_reducible rfl))))
        refine adraw_call (N := []) (firstD (unless_c _ _)) ?_
        rw [List.append_nil]
        ((repeat (first | refine ya (by (with_reducible constructor) <;> first | rfl | decide) ?_ | apply yb | refine yc rfl ?_ | ((first | apply yd | apply ye); simp (disch := first | exact List.all_nil | omega | (simp only [go_sem]; done) | (simp only [ln, List.length_map]; omega) | (repeat' first | assumption | exact Ext.refl _ | refine Ext.app ?_ _)) only [go_sem]; with_reducible rfl))))
        refine adraw_call (N := []) (firstD (first_c (l := [_, _]) (Ints.last (l := [_, _]) 2) (by simp))) ?_
        rw [List.append_nil]
        ((repeat (first | refine ya (by (with_reducible constructor) <;> first | rfl | decide) ?_ | apply yb | refine yc rfl ?_ | ((first | apply yd | apply ye); simp (disch := first | exact List.all_nil | omega | (simp only [go_sem]; done) | (simp only [ln, List.length_map]; omega) | (repeat' first | assumption | exact Ext.refl _ | refine Ext.app ?_ _)) only [go_sem]; with_reducible rfl))))
        exact fin_1 ⟨by simp [hn, hs], xH2.app _⟩
      · ((repeat (first | refine ya (by (with_reducible constructor) <;> first | rfl | decide) ?_ | apply yb | refine yc rfl ?_ | ((first | apply yd | apply ye); simp (disch := first | exact List.all_nil | omega | (simp only [go_sem]; done) | (simp only [ln, List.length_map]; omega) | (repeat' first | assumption | exact Ext.refl _ | refine Ext.app ?_ _)) only [go_sem, hl2.len, hl2.idx, hl2.load, load_at k0, rulesC, dec_f hs]; with_reducible rfl))))
        refine adraw_call (N := []) (firstD (unless_c _ _)) ?_
        rw [List.append_nil]
        ((repeat (first | refine ya (by (with_reducible constructor) <;> first | rfl | decide) ?_ | apply yb | refine yc rfl ?_ | ((first | apply yd | apply ye); simp (disch := first | exact List.all_nil | omega | (simp only [go_sem]; done) | (simp only [ln, List.length_map]; omega) | (repeat' first | assumption | exact Ext.refl _ | refine Ext.app ?_ _)) only [go_sem]; with_reducible rfl))))
        refine adraw_call (N := []) (firstD (first_c (l := [_, _]) (Ints.last (l := [_, _]) 2) (by simp))) ?_
        rw [List.append_nil]
        ((repeat (first | refine ya (by (with_reducible constructor) <;> first | rfl | decide) ?_ | apply yb | refine yc rfl ?_ | ((first | apply yd | apply ye); simp (disch := first | exact List.all_nil | omega | (simp only [go_sem]; done) | (simp only [ln, List.length_map]; omega) | (repeat' first | assumption | exact Ext.refl _ | refine Ext.app ?_ _)) only [go_sem]; with_reducible rfl))))
        exact fin_1 ⟨by simp [hn, hs], xH2.app _⟩
    · ((repeat (first | refine ya (by (with_reducible constructor) <;> first | rfl | decide) ?_ | apply yb | refine yc rfl ?_ | ((first | apply yd | apply ye); simp (disch := first | exact List.all_nil | omega | (simp only [go_sem]; done) | (simp only [ln, List.length_map]; omega) | (repeat' first | assumption | exact Ext.refl _ | refine Ext.app ?_ _)) only [go_sem, dec_f hn]; with_reducible rfl))))
      refine adraw_call (N := []) (firstD (unless_c _ _)) ?_
      rw [List.append_nil]
      by_cases hs : step = 0
      · ((repeat (first | refine ya (by (with_reducible constructor) <;> first | rfl | decide) ?_ | apply yb | refine yc rfl ?_ | ((first | apply yd | apply ye); simp (disch := first | exact List.all_nil | omega | (simp only [go_sem]; done) | (simp only [ln, List.length_map]; omega) | (repeat' first | assumption | exact Ext.refl _ | refine Ext.app ?_ _)) only [go_sem, hl2.len, hl2.idx, hl2.load, load_at k0, rulesC, dec_t hs]; with_reducible rfl))))
        refine adraw_call (N := []) (firstD (unless_c _ _)) ?_
        rw [List.append_nil]
        ((repeat (first | refine ya (by (with_reducible constructor) <;> first | rfl | decide) ?_ | apply yb | refine yc rfl ?_ | ((first | apply yd | apply ye); simp (disch := first | exact List.all_nil | omega | (simp only [go_sem]; done) | (simp only [ln, List.length_map]; omega) | (repeat' first | assumption | exact Ext.refl _ | refine Ext.app ?_ _)) only [go_sem]; with_reducible rfl))))
        refine adraw_call (N := []) (firstD (first_c (l := [_, _]) (Ints.last (l := [_, _]) 2) (by simp))) ?_
        rw [List.append_nil]
        ((repeat (first | refine ya (by (with_reducible constructor) <;> first | rfl | decide) ?_ | apply yb | refine yc rfl ?_ | ((first | apply yd | apply ye); simp (disch := first | exact List.all_nil | omega | (simp only [go_sem]; done) | (simp only [ln, List.length_map]; omega) | (repeat' first | assumption | exact Ext.refl _ | refine Ext.app ?_ _)) only [go_sem]; with_reducible rfl))))
        exact fin_1 ⟨by simp [hn, hs, firstErr], xH2.app _⟩
      · ((repeat (first | refine ya (by (with_reducible constructor) <;> first | rfl | decide) ?_ | apply yb | refine yc rfl ?_ | ((first | apply yd | apply ye); simp (disch := first | exact List.all_nil | omega | (simp only [go_sem]; done) | (simp only [ln, List.length_map]; omega) | (repeat' first | assumption | exact Ext.refl _ | refine Ext.app ?_ _)) only [go_sem, hl2.len, hl2.idx, hl2.load, load_at k0, rulesC, dec_f hs]; with_reducible rfl))))
        refine adraw_call (N := []) (firstD (unless_c _ _)) ?_
        rw [List.append_nil]
        ((repeat (first | refine ya (by (with_reducible constructor) <;> first | rfl | decide) ?_ | apply yb | refine yc rfl ?_ | ((first | apply yd | apply ye); simp (disch := first | exact List.all_nil | omega | (simp only [go_sem]; done) | (simp only [ln, List.length_map]; omega) | (repeat' first | assumption | exact Ext.refl _ | refine Ext.app ?_ _)) only [go_sem]; with_reducible rfl))))
        refine adraw_call (N := []) (firstD (first_c (l := [_, _]) (Ints.last (l := [_, _]) 2) (by simp))) ?_
        rw [List.append_nil]
        ((repeat (first | refine ya (by (with_reducible constructor) <;> first | rfl | decide) ?_ | apply yb | refine yc rfl ?_ | ((first | apply yd | apply ye); simp (disch := first | exact List.all_nil | omega | (simp only [go_sem]; done) | (simp only [ln, List.length_map]; omega) | (repeat' first | assumption | exact Ext.refl _ | refine Ext.app ?_ _)) only [go_sem]; with_reducible rfl))))
        exact fin_1 ⟨by simp [hn, hs, firstErr], xH2.app _⟩
  have ev : rulesErrL kind deg num den step l = curveErrL l step num den := by unfold rulesErrL; rw [if_pos hk, if_pos hd, if_neg h0]
  rw [ev, ← curve_E]
  ((repeat (first | refine ya (by (with_reducible constructor) <;> first | rfl | decide) ?_ | apply yb | refine yc rfl ?_ | ((first | apply yd | apply ye); simp (disch := first | exact List.all_nil | omega | (simp only [go_sem]; done) | (simp only [ln, List.length_map]; omega) | (repeat' first | assumption | exact Ext.refl _ | refine Ext.app ?_ _)) only [go_sem, load_at k0, rulesC, dec_f h0]; with_reducible rfl))))
  refine cond_f rfl ?_
  ((repeat (first | refine ya (by (with_reducible constructor) <;> first | rfl | decide) ?_ | apply yb | refine yc rfl ?_ | ((first | apply yd | apply ye); simp (disch := first | exact List.all_nil | omega | (simp only [go_sem]; done) | (simp only [ln, List.length_map]; omega) | (repeat' first | assumption | exact Ext.refl _ | refine Ext.app ?_ _)) only [go_sem, load_map k0]; with_reducible rfl))))
  refine aops_call_to (spCheckMap_c hl2 hb) ?_
  have em : (ckMap l).2 = mapErrL l := rfl
  rw [em]
  ((repeat (first | refine ya (by (with_reducible constructor) <;> first | rfl | decide) ?_ | apply yb | refine yc rfl ?_ | ((first | apply yd | apply ye); simp (disch := first | exact List.all_nil | omega | (simp only [go_sem]; done) | (simp only [ln, List.length_map]; omega) | (repeat' first | assumption | exact Ext.refl _ | refine Ext.app ?_ _)) only [go_sem, load_at k0, rulesC]; with_reducible rfl))))
  refine adraw_call (N := []) (firstD (within_c _ _ _)) ?_
  rw [List.append_nil]
  ((repeat (first | refine ya (by (with_reducible constructor) <;> first | rfl | decide) ?_ | apply yb | refine yc rfl ?_ | ((first | apply yd | apply ye); simp (disch := first | exact List.all_nil | omega | (simp only [go_sem]; done) | (simp only [ln, List.length_map]; omega) | (repeat' first | assumption | exact Ext.refl _ | refine Ext.app ?_ _)) only [go_sem]; with_reducible rfl))))
  refine adraw_call (N := []) (firstD (unless_c _ _)) ?_
  rw [List.append_nil]
  by_cases hs : num = 0
  · ((repeat (first | refine ya (by (with_reducible constructor) <;> first | rfl | decide) ?_ | apply yb | refine yc rfl ?_ | ((first | apply yd | apply ye); simp (disch := first | exact List.all_nil | omega | (simp only [go_sem]; done) | (simp only [ln, List.length_map]; omega) | (repeat' first | assumption | exact Ext.refl _ | refine Ext.app ?_ _)) only [go_sem, load_at k0, rulesC, dec_t hs]; with_reducible rfl))))
    refine adraw_call (N := []) (firstD (unless_c _ _)) ?_
    rw [List.append_nil]
    ((repeat (first | refine ya (by (with_reducible constructor) <;> first | rfl | decide) ?_ | apply yb | refine yc rfl ?_ | ((first | apply yd | apply ye); simp (disch := first | exact List.all_nil | omega | (simp only [go_sem]; done) | (simp only [ln, List.length_map]; omega) | (repeat' first | assumption | exact Ext.refl _ | refine Ext.app ?_ _)) only [go_sem]; with_reducible rfl))))
    refine adraw_call (N := []) (firstD (first_c (l := [_, _, _]) (Ints.last (l := [_, _, _]) 3) (by simp))) ?_
    rw [List.append_nil]
    ((repeat (first | refine ya (by (with_reducible constructor) <;> first | rfl | decide) ?_ | apply yb | refine yc rfl ?_ | ((first | apply yd | apply ye); simp (disch := first | exact List.all_nil | omega | (simp only [go_sem]; done) | (simp only [ln, List.length_map]; omega) | (repeat' first | assumption | exact Ext.refl _ | refine Ext.app ?_ _)) only [go_sem]; with_reducible rfl))))
    exact fin_1 ⟨by simp [hs], xH2.app _⟩
  · ((repeat (first | refine ya (by (with_reducible constructor) <;> first | rfl | decide) ?_ | apply yb | refine yc rfl ?_ | ((first | apply yd | apply ye); simp (disch := first | exact List.all_nil | omega | (simp only [go_sem]; done) | (simp only [ln, List.length_map]; omega) | (repeat' first | assumption | exact Ext.refl _ | refine Ext.app ?_ _)) only [go_sem, load_at k0, rulesC, dec_f hs]; with_reducible rfl))))
    refine adraw_call (N := []) (firstD (unless_c _ _)) ?_
    rw [List.append_nil]
    ((repeat (first | refine ya (by (with_reducible constructor) <;> first | rfl | decide) ?_ | apply yb | refine yc rfl ?_ | ((first | apply yd | apply ye); simp (disch := first | exact List.all_nil | omega | (simp only [go_sem]; done) | (simp only [ln, List.length_map]; omega) | (repeat' first | assumption | exact Ext.refl _ | refine Ext.app ?_ _)) only [go_sem]; with_reducible rfl))))
    refine adraw_call (N := []) (firstD (first_c (l := [_, _, _]) (Ints.last (l := [_, _, _]) 3) (by simp))) ?_
    rw [List.append_nil]
    ((repeat (first | refine ya (by (with_reducible constructor) <;> first | rfl | decide) ?_ | apply yb | refine yc rfl ?_ | ((first | apply yd | apply ye); simp (disch := first | exact List.all_nil | omega | (simp only [go_sem]; done) | (simp only [ln, List.length_map]; omega) | (repeat' first | assumption | exact Ext.refl _ | refine Ext.app ?_ _)) only [go_sem]; with_reducible rfl))))
    exact fin_1 ⟨by simp [hs], xH2.app _⟩
end
end Go.Lq

namespace Go.Lq
open Go
open Go.Proofs

def GenX (P : Program) (f : FuncId) (xs ys : List Value) (Fact : AHeap → Prop) (items : List (List Value)) (inf : Bool) : Prop :=
  ∀ (l : Nat) (I : List (List Value) → AHeap → Prop) (S : AHeap → Prop) (H : AHeap), (∀ rest H, I rest H → Fact H) → (∀ rest H N, I rest H → I rest (H ++ N)) → (inf = true → ∀ H, ¬ I [] H) →
    (∀ a rest H, I (a :: rest) H → ARound P l a H fun v H' => (v = .bool true ∧ I rest H') ∨ (v = .bool false ∧ S H')) → I items H → ACall P f (xs ++ [.func (.yield l) #[] #[]] ++ ys) H fun _ H' => I [] H' ∨ S H'
section
variable {P : Program} {ar : Option Nat} {g : Operand} {f : FuncId} {xs ys : List Value} {ps : List Nat} {assign body : RCode} {Q : AExit → Env → AHeap → Prop} {env : Env} {H : AHeap} {Fact : AHeap → Prop} {items : List (List Value)} {inf : Bool}
theorem awp_rangeX (hm : P.follows .mixedOrders = true) (hg : evalA env g = .func (.func f) ⟨xs⟩ ⟨ys⟩) (har : ∀ l, ar = some l → ∃ r, H[l]? = some (.loop r)) (hgen : GenX P f xs ys Fact items inf)
    (J : List (List Value) → AHeap → Prop) (S : AExit → AHeap → Prop) (hJ : ∀ rest H' c, J rest H' → J rest (H'.set H.length c)) (hS : ∀ x H' c, S x H' → S x (H'.set H.length c)) (hF : ∀ rest H', J rest H' → Fact H')
    (happ : ∀ rest H' N, J rest H' → J rest (H' ++ N)) (hinf : inf = true → ∀ H', ¬ J [] H')
    (h0 : ∀ N, J items (H ++ N))
    (hbody : ∀ a rest H1, J (a :: rest) H1 → H.length < H1.length → a.length = ps.length ∧ Round P H.length assign body (assignParams env ps a) H1 (J rest) S)
    (hend : ∀ H', J [] H' → Q .normal env H') (hstop : ∀ x H', x ≠ .normal → S x H' → Q x env H') : AWP P ar (.rangeFunc g ps assign body) Q env H := by
  refine awp_rangeFunc hg har ?_
  show ACall P f _ (H ++ [.loop (recOf env ps assign body)]) _
  refine (hgen H.length (fun rest H' => J rest H' ∧ H'[H.length]? = some (.loop (recOf env ps assign body)))
    (fun H' => ∃ x, x ≠ .normal ∧ S x H' ∧ H'[H.length]? = some (.loop { recOf env ps assign body with state := .done, pending := some x })) _ (fun rest H' h => hF rest H' h.1)
    (fun rest H' N h => ⟨happ _ _ N h.1, at_app h.2⟩) (fun hi H' h => hinf hi H' h.1) (fun a rest H1 ⟨h1, h2⟩ => ?_) ⟨h0 _, by simp⟩).mono fun _ H' h => ?_
  · refine round_of hm (hbody a rest H1 h1 (List.getElem?_eq_some_iff.1 h2).1).1 (hbody a rest H1 h1 (List.getElem?_eq_some_iff.1 h2).1).2 h2 rfl rfl (fun H' c h _ => hJ _ _ _ h) (fun H' h3 h4 => .inl ⟨rfl, h4, h3⟩) fun H' x hn h3 ⟨H3, h4, e⟩ => .inr ⟨rfl, x, hn, ?_, h3⟩
    rw [e]; exact hS _ _ _ h4
  · rcases h with ⟨h1, h2⟩ | ⟨x, hn, h1, h2⟩
    · exact rangeEnd_n h2 rfl rfl fun c => hend _ (hJ _ _ _ h1)
    · exact rangeEnd_x hn h2 fun c => hstop x _ hn (hS _ _ _ h1)
end

def streamI (f : Nat → Int) (k : Nat) : Nat → List (List Value)
  | 0 => []
  | n + 1 => [.int .i64 (f k)] :: streamI f (k + 1) n
def outN (f : Nat → Int) (B : Int) (k : Nat) : Nat → Nat × Int
  | 0 => (k, 0)
  | n + 1 => if B < f k then (k, 0) else if k = 2000 then (0, 8) else outN f B (k + 1) n
theorem outN_succ {f : Nat → Int} {B : Int} {k n : Nat} : outN f B k (n + 1) = if B < f k then (k, 0) else if k = 2000 then (0, 8) else outN f B (k + 1) n := rfl
def ratioF (num den : Int) (k : Nat) : Int := 64 * k * num / den

section
variable {H : AHeap} {kind deg num den step : Int} {v : Value}
set_option maxHeartbeats 4000000 in
theorem positions1_c {idr : Nat} (hn : 1 ≤ num ∧ num ≤ 1000) (hd : 1 ≤ den ∧ den ≤ 1000) :
    GenX Go.Proofs.Tryd.prog 146 [] [.pointer (some ⟨idr, 0, none⟩)] (fun H => H[idr]? = some (.cells true 0 (rulesC kind deg num den step v))) (streamI (ratioF num den) 0 2001) true := by
  intro lp I S H hF happ hinf hround hI0
  show ACall _ _ [.func (.yield lp) #[] #[], .pointer (some ⟨idr, 0, none⟩)] _ _
  (refine a146 ?_; simp only [n146, List.replicate, List.length_cons, List.length_nil, List.cons_append, List.nil_append]; first | refine q1 ?_ | refine q2 ?_ | refine q6 ?_ | refine q7 ?_ | refine qh rfl ?_ | skip)
  ((repeat (first | refine ya (by (with_reducible constructor) <;> first | rfl | decide) ?_ | apply yb | refine yc rfl ?_ | ((first | apply yd | apply ye); simp (disch := first | exact List.all_nil | omega | (simp only [go_sem]; done) | (simp only [ln, List.length_map]; omega) | (repeat' first | assumption | exact Ext.refl _ | refine Ext.app ?_ _)) only [go_sem]; with_reducible rfl))))
  refine awp_loop_n [true, true, false, true, false, false, false, false, false, false, false, false, false, false, false, false] 2001 (fun i e H' => e = [.func (.yield lp) #[] #[], .pointer (some ⟨idr, 0, none⟩), junk, .int .i64 i, junk, junk, junk, junk, junk, junk, junk, junk, junk, junk, junk, junk] ∧ I (streamI (ratioF num den) i (2001 - i)) H') ?_ ?_
  · exact ⟨by simp [forget], hI0⟩
  rintro i e H1 hi ⟨rfl, hI⟩
  have hi' : i < 2001 := by
    refine Decidable.byContradiction fun h => ?_
    obtain rfl : i = 2001 := by omega
    exact hinf rfl _ hI
  have g0 := hF _ _ hI
  obtain ⟨k, hk⟩ : ∃ k, k = 2001 - (i + 1) := ⟨_, rfl⟩
  rw [show 2001 - i = k + 1 by omega] at hI
  have m1 : 0 ≤ 64 * (i : Int) * num := Int.mul_nonneg (by omega) (by omega)
  have m2 : 64 * (i : Int) * num ≤ 64 * (i : Int) * 1000 := Int.mul_le_mul_of_nonneg_left (by omega) (by omega)
  have e1 : (64 * (i : Int) * num).tdiv den = ratioF num den i := Int.tdiv_eq_ediv_of_nonneg m1
  have b1 : ratioF num den i ≤ 128000000 := Int.le_trans (Int.ediv_le_self _ m1) (by omega)
  have b0 : 0 ≤ ratioF num den i := Int.ediv_nonneg m1 (by omega)
  ((repeat (first | refine ya (by (with_reducible constructor) <;> first | rfl | decide) ?_ | apply yb | refine yc rfl ?_ | ((first | apply yd | apply ye); simp (disch := first | exact List.all_nil | omega | (simp only [go_sem]; done) | (simp only [ln, List.length_map]; omega) | (repeat' first | assumption | exact Ext.refl _ | refine Ext.app ?_ _)) only [go_sem, load_at g0, rulesC, a_quo (show den ≠ 0 by omega), e1]; with_reducible rfl))))
  refine aops_call ((hround _ _ _ hI).mono fun v1 H3 h => ?_)
  rcases h with ⟨rfl, hI3⟩ | ⟨rfl, hS⟩
  · ((repeat (first | refine ya (by (with_reducible constructor) <;> first | rfl | decide) ?_ | apply yb | refine yc rfl ?_ | ((first | apply yd | apply ye); simp (disch := first | exact List.all_nil | omega | (simp only [go_sem]; done) | (simp only [ln, List.length_map]; omega) | (repeat' first | assumption | exact Ext.refl _ | refine Ext.app ?_ _)) only [go_sem]; with_reducible rfl))))
    refine cond_t rfl ?_
    ((repeat (first | refine ya (by (with_reducible constructor) <;> first | rfl | decide) ?_ | apply yb | refine yc rfl ?_ | ((first | apply yd | apply ye); simp (disch := first | exact List.all_nil | omega | (simp only [go_sem]; done) | (simp only [ln, List.length_map]; omega) | (repeat' first | assumption | exact Ext.refl _ | refine Ext.app ?_ _)) only [go_sem]; with_reducible rfl))))
    exact ⟨by omega, by simp [forget], by rw [← hk]; exact hI3⟩
  · ((repeat (first | refine ya (by (with_reducible constructor) <;> first | rfl | decide) ?_ | apply yb | refine yc rfl ?_ | ((first | apply yd | apply ye); simp (disch := first | exact List.all_nil | omega | (simp only [go_sem]; done) | (simp only [ln, List.length_map]; omega) | (repeat' first | assumption | exact Ext.refl _ | refine Ext.app ?_ _)) only [go_sem]; with_reducible rfl))))
    refine cond_f rfl ?_
    ((repeat (first | refine ya (by (with_reducible constructor) <;> first | rfl | decide) ?_ | apply yb | refine yc rfl ?_ | ((first | apply yd | apply ye); simp (disch := first | exact List.all_nil | omega | (simp only [go_sem]; done) | (simp only [ln, List.length_map]; omega) | (repeat' first | assumption | exact Ext.refl _ | refine Ext.app ?_ _)) only [go_sem]; with_reducible rfl))))
    exact ⟨.inl rfl, undef, rfl, .inr hS⟩
end
end Go.Lq

namespace Go.Lq
open Go
open Go.Proofs

def t0L (l : List (Int × Int)) : Int := (l.getD 0 (0, 0)).2
def tEL (l : List (Int × Int)) : Int := (l.getD (l.length - 1) (0, 0)).2
def curveF (l : List (Int × Int)) (step : Int) (k : Nat) : Int := (posAtL l (t0L l + k * step)).1.1
def curveN (l : List (Int × Int)) (step : Int) : Nat := ((tEL l - t0L l) / step + 1).toNat
theorem MapOk.span {l : List (Int × Int)} (h : MapOk l) : 0 ≤ t0L l ∧ t0L l ≤ tEL l ∧ tEL l ≤ 1000000000000 := by
  have := h.lo
  exact ⟨(h.time 0 (by omega)).1, h.timeLe (Nat.zero_le _) (by omega), (h.time _ (by omega)).2⟩
theorem curveN_lt {l : List (Int × Int)} {step : Int} {k : Nat} (h : MapOk l) (hs : 0 < step) : k < curveN l step ↔ t0L l + k * step ≤ tEL l := by
  obtain ⟨h1, h2, h3⟩ := h.span
  have e := Int.le_ediv_iff_mul_le (a := (k : Int)) (b := tEL l - t0L l) hs
  have h0 : 0 ≤ (tEL l - t0L l) / step := Int.ediv_nonneg (by omega) (by omega)
  unfold curveN
  constructor
  · intro hk
    have := e.1 (by omega)
    omega
  · intro hk
    have := e.2 (by omega)
    omega
theorem posAt_in {l : List (Int × Int)} {t : Int} (h : MapOk l) (h0 : t0L l ≤ t) (h1 : t ≤ tEL l) :
    posAtL l t = ((posLo (pieceOf l (atTime l t 0 (l.length - 2))) t, posHi (pieceOf l (atTime l t 0 (l.length - 2))) t), 0) := by
  have hl := h.lo
  unfold posAtL
  rw [if_pos h.err, h.timeOne h0 (k := l.length - 1) (i := 0) (by omega) (fun m hm => by omega) h1, if_neg (by omega)]
  rfl
theorem curveF_eq {l : List (Int × Int)} {step : Int} {k : Nat} (h : MapOk l) (hs : 0 < step) (hk : k < curveN l step) :
    curveF l step k = posLo (pieceOf l (atTime l (t0L l + k * step) 0 (l.length - 2))) (t0L l + k * step) := by
  unfold curveF
  rw [posAt_in h (by have := Int.mul_nonneg (show (0 : Int) ≤ k by omega) (show 0 ≤ step by omega); omega) ((curveN_lt h hs).1 hk)]

section
variable {H : AHeap} {kind deg num den step : Int} {l : List (Int × Int)} {v : Value}
set_option maxHeartbeats 4000000 in
theorem positions2_c {idn idr : Nat} (hok : MapOk l) (hs : 1 ≤ step ∧ step ≤ 1000000000000) :
    GenX Go.Proofs.Tryd.prog 147 [] [.pointer (some ⟨idn, 0, none⟩), .pointer (some ⟨idr, 0, none⟩)]
      (fun H => H[idn]? = some (.cells true 0 [v]) ∧ H[idr]? = some (.cells true 0 (rulesC kind deg num den step v)) ∧ Pairs H l v) (streamI (curveF l step) 0 (curveN l step)) false := by
  intro lp I S H hF happ hinf hround hI0
  show ACall _ _ [.func (.yield lp) #[] #[], .pointer (some ⟨idn, 0, none⟩), .pointer (some ⟨idr, 0, none⟩)] _ _
  obtain ⟨s1, s2, s3⟩ := hok.span
  have h02 := hok.lo
  have h20 := hok.hi
  obtain ⟨g0, g1, g2⟩ := hF _ _ hI0
  (refine a147 ?_; simp only [n147, List.replicate, List.length_cons, List.length_nil, List.cons_append, List.nil_append]; first | refine q1 ?_ | refine q2 ?_ | refine q6 ?_ | refine q7 ?_ | refine qh rfl ?_ | skip)
  have et : (l.getD 0 (0, 0)).2 = t0L l := rfl
  ((repeat (first | refine ya (by (with_reducible constructor) <;> first | rfl | decide) ?_ | apply yb | refine yc rfl ?_ | ((first | apply yd | apply ye); simp (disch := first | exact List.all_nil | omega | (simp only [go_sem]; done) | (simp only [ln, List.length_map]; omega) | (repeat' first | assumption | exact Ext.refl _ | refine Ext.app ?_ _)) only [go_sem, g2.len, g2.idx, g2.load, load_at g0, et]; with_reducible rfl))))
  refine awp_loop_n [true, true, true, false, true, false, false, false, false, false, false, false, false, false, false, false, false, false, false, false, false, false, false, false, false, false, false, false, false, false, false, false, false, false, false, false, false, false, false, false] (curveN l step) (fun i e H' => e = [.func (.yield lp) #[] #[], .pointer (some ⟨idn, 0, none⟩), .pointer (some ⟨idr, 0, none⟩), junk, .int .i64 (t0L l + i * step), junk, junk, junk, junk, junk, junk, junk, junk, junk, junk, junk, junk, junk, junk, junk, junk, junk, junk, junk, junk, junk, junk, junk, junk, junk, junk, junk, junk, junk, junk, junk, junk, junk, junk, junk] ∧ I (streamI (curveF l step) i (curveN l step - i)) H') ?_ ?_
  · exact ⟨by simp [forget, t0L], hI0⟩
  rintro i e H1 hi ⟨rfl, hI⟩
  obtain ⟨k0, k1, k2⟩ := hF _ _ hI
  have el : (l.length : Int) - 1 = ((l.length - 1 : Nat) : Int) := by omega
  have eE : (l.getD (l.length - 1) (0, 0)).2 = tEL l := rfl
  have m0 := Int.mul_nonneg (show (0 : Int) ≤ i by omega) (show 0 ≤ step by omega)
  have hlt := curveN_lt (k := i) hok (show 0 < step by omega)
  obtain ⟨z, hz⟩ : ∃ z, t0L l + (i : Int) * step = z := ⟨_, rfl⟩
  have hz1 : t0L l + ((i + 1 : Nat) : Int) * step = z + step := by
    rw [← hz, Int.natCast_add, Int.add_mul]; simp; omega
  by_cases hin : i < curveN l step
  rotate_left 1
  · obtain rfl : i = curveN l step := by omega
    rw [Nat.sub_self] at hI
    rw [hz] at hlt
    rw [hz]
    ((repeat (first | refine ya (by (with_reducible constructor) <;> first | rfl | decide) ?_ | apply yb | refine yc rfl ?_ | ((first | apply yd | apply ye); simp (disch := first | exact List.all_nil | omega | (simp only [go_sem]; done) | (simp only [ln, List.length_map]; omega) | (repeat' first | assumption | exact Ext.refl _ | refine Ext.app ?_ _)) only [go_sem, k2.len, k2.idx, k2.load, load_at k0, el, eE, dec_f (show ¬ z ≤ tEL l by omega)]; with_reducible rfl))))
    refine cond_f rfl ?_
    ((repeat (first | refine ya (by (with_reducible constructor) <;> first | rfl | decide) ?_ | apply yb | refine yc rfl ?_ | ((first | apply yd | apply ye); simp (disch := first | exact List.all_nil | omega | (simp only [go_sem]; done) | (simp only [ln, List.length_map]; omega) | (repeat' first | assumption | exact Ext.refl _ | refine Ext.app ?_ _)) only [go_sem]; with_reducible rfl))))
    exact ⟨.inl rfl, undef, rfl, .inl hI⟩
  have hzE := hlt.1 hin
  have hpa := posAt_in (t := z) hok (by omega) (by omega)
  have hcf : curveF l step i = (posAtL l z).1.1 := by unfold curveF; rw [hz]
  rw [hz] at hzE
  have he0 : (posAtL l z).2 = 0 := by rw [hpa]
  obtain ⟨n, hn⟩ : ∃ n, n = curveN l step - (i + 1) := ⟨_, rfl⟩
  rw [show curveN l step - i = n + 1 by omega] at hI
  have hI2 := happ _ _ [AObj.cells true 0 [.int .i64 (posAtL l z).1.1, .int .i64 (posAtL l z).1.2]] hI
  have b5 : (H1 ++ [AObj.cells true 0 [.int .i64 (posAtL l z).1.1, .int .i64 (posAtL l z).1.2]])[H1.length]? = some (.cells true 0 [.int .i64 (posAtL l z).1.1, .int .i64 (posAtL l z).1.2]) := at_new
  rw [hz]
  ((repeat (first | refine ya (by (with_reducible constructor) <;> first | rfl | decide) ?_ | apply yb | refine yc rfl ?_ | ((first | apply yd | apply ye); simp (disch := first | exact List.all_nil | omega | (simp only [go_sem]; done) | (simp only [ln, List.length_map]; omega) | (repeat' first | assumption | exact Ext.refl _ | refine Ext.app ?_ _)) only [go_sem, k2.len, k2.idx, k2.load, load_at k0, el, eE, dec_t hzE]; with_reducible rfl))))
  refine cond_t rfl ?_
  ((repeat (first | refine ya (by (with_reducible constructor) <;> first | rfl | decide) ?_ | apply yb | refine yc rfl ?_ | ((first | apply yd | apply ye); simp (disch := first | exact List.all_nil | omega | (simp only [go_sem]; done) | (simp only [ln, List.length_map]; omega) | (repeat' first | assumption | exact Ext.refl _ | refine Ext.app ?_ _)) only [go_sem, load_map k1]; with_reducible rfl))))
  refine aops_call_to (positionAt_c (t := z) k2 (by omega)) ?_
  rw [he0]
  have hround2 := hround _ _ _ hI2
  rw [hcf] at hround2
  ((repeat (first | refine ya (by (with_reducible constructor) <;> first | rfl | decide) ?_ | apply yb | refine yc rfl ?_ | ((first | apply yd | apply ye); simp (disch := first | exact List.all_nil | omega | (simp only [go_sem]; done) | (simp only [ln, List.length_map]; omega) | (repeat' first | assumption | exact Ext.refl _ | refine Ext.app ?_ _)) only [go_sem, store_newF, load_at b5]; with_reducible rfl))))
  refine aops_call (hround2.mono fun v1 H3 h => ?_)
  rcases h with ⟨rfl, hI3⟩ | ⟨rfl, hS⟩
  · obtain ⟨j0, j1, j2⟩ := hF _ _ hI3
    ((repeat (first | refine ya (by (with_reducible constructor) <;> first | rfl | decide) ?_ | apply yb | refine yc rfl ?_ | ((first | apply yd | apply ye); simp (disch := first | exact List.all_nil | omega | (simp only [go_sem]; done) | (simp only [ln, List.length_map]; omega) | (repeat' first | assumption | exact Ext.refl _ | refine Ext.app ?_ _)) only [go_sem]; with_reducible rfl))))
    refine cond_f rfl ?_
    ((repeat (first | refine ya (by (with_reducible constructor) <;> first | rfl | decide) ?_ | apply yb | refine yc rfl ?_ | ((first | apply yd | apply ye); simp (disch := first | exact List.all_nil | omega | (simp only [go_sem]; done) | (simp only [ln, List.length_map]; omega) | (repeat' first | assumption | exact Ext.refl _ | refine Ext.app ?_ _)) only [go_sem, load_at j1, rulesC]; with_reducible rfl))))
    exact ⟨by omega, by rw [hz1]; simp [forget], by rw [← hn]; exact hI3⟩
  · ((repeat (first | refine ya (by (with_reducible constructor) <;> first | rfl | decide) ?_ | apply yb | refine yc rfl ?_ | ((first | apply yd | apply ye); simp (disch := first | exact List.all_nil | omega | (simp only [go_sem]; done) | (simp only [ln, List.length_map]; omega) | (repeat' first | assumption | exact Ext.refl _ | refine Ext.app ?_ _)) only [go_sem]; with_reducible rfl))))
    refine cond_t rfl ?_
    ((repeat (first | refine ya (by (with_reducible constructor) <;> first | rfl | decide) ?_ | apply yb | refine yc rfl ?_ | ((first | apply yd | apply ye); simp (disch := first | exact List.all_nil | omega | (simp only [go_sem]; done) | (simp only [ln, List.length_map]; omega) | (repeat' first | assumption | exact Ext.refl _ | refine Ext.app ?_ _)) only [go_sem]; with_reducible rfl))))
    exact ⟨.inr rfl, undef, rfl, .inr hS⟩
end
end Go.Lq

namespace Go.Lq
open Go
open Go.Proofs

def outTo (f : Nat → Int) (k : Nat) : List Int := (List.range k).map f
theorem outTo_len (f : Nat → Int) (k : Nat) : (outTo f k).length = k := by simp [outTo]
theorem outTo_succ (f : Nat → Int) (k : Nat) : outTo f (k + 1) = outTo f k ++ [f k] := by simp [outTo, List.range_succ]
def outsL (f : Nat → Int) (N : Nat) (count : Int) : List Int × Int := (outTo f (outN f (64 * (count - 1)) 0 N).1, (outN f (64 * (count - 1)) 0 N).2)
theorem stream_nil {f : Nat → Int} {k n : Nat} (h : ([] : List (List Value)) = streamI f k n) : n = 0 := by
  cases n with
  | zero => rfl
  | succ n => cases h
theorem fin_2l {c : RCode} {n a b : Nat} {R : Value → AHeap → Prop} {e : Env} {H : AHeap} {u w : Value} (h1 : loadR (e.getD a undef) H = some (u, H)) (h2 : loadR (e.getD b undef) H = some (w, H)) (h : R (.tuple #[u, w]) H) :
    Fin ⟨c, n, [.load a, .load b]⟩ R .ret e H := by
  refine ⟨.inr rfl, _, ?_, h⟩
  unfold loadR at h1 h2
  split at h1
  · rename_i id off hp
    simp only [Option.map_eq_some_iff, Prod.mk.injEq, and_true] at h1
    obtain ⟨us, h3, rfl⟩ := h1
    split at h2
    · rename_i id' off' hp'
      simp only [Option.map_eq_some_iff, Prod.mk.injEq, and_true] at h2
      obtain ⟨us', h4, rfl⟩ := h2
      simp only [resultA, List.mapM_cons, resA, hp, h3, hp', h4, Option.map_some, List.mapM_nil]
      rfl
    · cases h2
  · cases h1

section
variable {H : AHeap} {kind deg num den step : Int} {l : List (Int × Int)} {v : Value}
theorem positionsR_c (hl : Pairs H l v) (h0 : kind = 0) : ACall Go.Proofs.Tryd.prog 132 [rulesV kind deg num den step v] H fun w H' =>
    w = .func (.func 146) #[] #[.pointer (some ⟨H.length, 0, none⟩)] ∧ H' = H ++ [.cells true 0 (rulesC kind deg num den step v)] := by
  (refine a132 ?_; simp only [n132, List.replicate, List.length_cons, List.length_nil, List.cons_append, List.nil_append]; first | refine q1 ?_ | refine q2 ?_ | refine q6 ?_ | refine q7 ?_ | refine qh rfl ?_ | skip)
  have g0 : (H ++ [AObj.cells true 0 (rulesC kind deg num den step v)])[H.length]? = some (.cells true 0 (rulesC kind deg num den step v)) := at_new
  have hk : loadR (.pointer (some ⟨H.length, 0, none⟩)) (H ++ [AObj.cells true 0 (rulesC kind deg num den step v)]) = some (.int .i64 kind, H ++ [AObj.cells true 0 (rulesC kind deg num den step v)]) := by rw [load_at g0]; rfl
  ((repeat (first | refine ya (by (with_reducible constructor) <;> first | rfl | decide) ?_ | apply yb | refine yc rfl ?_ | ((first | apply yd | apply ye); simp (disch := first | exact List.all_nil | omega | (simp only [go_sem]; done) | (simp only [ln, List.length_map]; omega) | (repeat' first | assumption | exact Ext.refl _ | refine Ext.app ?_ _)) only [go_sem, box_rules hl.atom, hk, dec_t h0]; with_reducible rfl))))
  refine cond_t rfl ?_
  ((repeat (first | refine ya (by (with_reducible constructor) <;> first | rfl | decide) ?_ | apply yb | refine yc rfl ?_ | ((first | apply yd | apply ye); simp (disch := first | exact List.all_nil | omega | (simp only [go_sem]; done) | (simp only [ln, List.length_map]; omega) | (repeat' first | assumption | exact Ext.refl _ | refine Ext.app ?_ _)) only [go_sem]; with_reducible rfl))))
  refine fin_1 ⟨?_, rfl⟩
  simp [go_sem]
theorem positionsC_c (hl : Pairs H l v) (h0 : ¬ kind = 0) : ACall Go.Proofs.Tryd.prog 132 [rulesV kind deg num den step v] H fun w H' =>
    w = .func (.func 147) #[] #[.pointer (some ⟨H.length + 1, 0, none⟩), .pointer (some ⟨H.length, 0, none⟩)] ∧ H' = H ++ [.cells true 0 (rulesC kind deg num den step v)] ++ [.cells true 0 [v]] := by
  (refine a132 ?_; simp only [n132, List.replicate, List.length_cons, List.length_nil, List.cons_append, List.nil_append]; first | refine q1 ?_ | refine q2 ?_ | refine q6 ?_ | refine q7 ?_ | refine qh rfl ?_ | skip)
  have g0 : (H ++ [AObj.cells true 0 (rulesC kind deg num den step v)])[H.length]? = some (.cells true 0 (rulesC kind deg num den step v)) := at_new
  have lG : (H ++ [AObj.cells true 0 (rulesC kind deg num den step v)]).length = H.length + 1 := by simp
  have hk : loadR (.pointer (some ⟨H.length, 0, none⟩)) (H ++ [AObj.cells true 0 (rulesC kind deg num den step v)]) = some (.int .i64 kind, H ++ [AObj.cells true 0 (rulesC kind deg num den step v)]) := by rw [load_at g0]; rfl
  have hm : loadR (.pointer (some ⟨H.length, 5, none⟩)) (H ++ [AObj.cells true 0 (rulesC kind deg num den step v)]) = some (v, H ++ [AObj.cells true 0 (rulesC kind deg num den step v)]) := by rw [load_at g0]; rfl
  ((repeat (first | refine ya (by (with_reducible constructor) <;> first | rfl | decide) ?_ | apply yb | refine yc rfl ?_ | ((first | apply yd | apply ye); simp (disch := first | exact List.all_nil | omega | (simp only [go_sem]; done) | (simp only [ln, List.length_map]; omega) | (repeat' first | assumption | exact Ext.refl _ | refine Ext.app ?_ _)) only [go_sem, box_rules hl.atom, hk, dec_f h0]; with_reducible rfl))))
  refine cond_f rfl ?_
  generalize (H ++ [AObj.cells true 0 (rulesC kind deg num den step v)] : AHeap) = G at g0 lG hm ⊢
  have hst : storeR 1 (.pointer (some ⟨G.length, 0, none⟩)) v (G ++ [AObj.cells true 0 [.slice none 0 0]]) = some (undef, G ++ [AObj.cells true 0 [v]]) := by
    have hc : v.cells = ⟨[v]⟩ := by rcases hl.2 with ⟨rfl, _⟩ | ⟨id, off, c, rfl, _⟩ <;> rfl
    rw [store_b1 (at_new : (G ++ [AObj.cells true 0 [.slice none 0 0]])[G.length]? = _) hl.atom hc]
    simp
  ((repeat (first | refine ya (by (with_reducible constructor) <;> first | rfl | decide) ?_ | apply yb | refine yc rfl ?_ | ((first | apply yd | apply ye); simp (disch := first | exact List.all_nil | omega | (simp only [go_sem]; done) | (simp only [ln, List.length_map]; omega) | (repeat' first | assumption | exact Ext.refl _ | refine Ext.app ?_ _)) only [go_sem, hm, hst]; with_reducible rfl))))
  refine fin_1 ⟨?_, rfl⟩
  simp [go_sem, lG]

set_option maxHeartbeats 8000000 in
theorem outputsR_c {count : Int} (hl : Pairs H l v) (h0 : kind = 0) (hn : 1 ≤ num ∧ num ≤ 1000) (hd : 1 ≤ den ∧ den ≤ 1000) (hcnt : 0 ≤ count ∧ count ≤ 400) : ACall Go.Proofs.Tryd.prog 90 [rulesV kind deg num den step v, .int .i64 count] H
    (IntsRes H (outsL (ratioF num den) (2001) count).1 (outsL (ratioF num den) (2001) count).2) := by
  refine ACall.intsE ?_
  (refine a90 ?_; simp only [n90, List.replicate, List.length_cons, List.length_nil, List.cons_append, List.nil_append]; first | refine q1 ?_ | refine q2 ?_ | refine q6 ?_ | refine q7 ?_ | refine qh rfl ?_ | skip)
  have hbi : ∀ J : AHeap, boxR (.int .i64 count) J = some (.pointer (some ⟨J.length, 0, none⟩), J ++ [.cells true 0 [.int .i64 count]]) := fun J => rfl
  obtain ⟨G, hG⟩ : ∃ G, G = H ++ [AObj.cells true 0 (rulesC kind deg num den step v)] ++ [AObj.cells true 0 [.int .i64 count]] ++ [AObj.cells true 0 [.slice none 0 0]] ++ [AObj.cells true 0 [.int .i64 0]] := ⟨_, rfl⟩
  have g0 : G[H.length]? = some (.cells true 0 (rulesC kind deg num den step v)) := by rw [hG]; simp
  have g1 : G[H.length + 1]? = some (.cells true 0 [.int .i64 count]) := by rw [hG]; simp
  have g2 : G[H.length + 2]? = some (.cells true 0 [.slice none 0 0]) := by rw [hG]; simp
  have g3 : G[H.length + 3]? = some (.cells true 0 [.int .i64 0]) := by rw [hG]; simp
  have xG : Ext H G := by rw [hG]; exact ((((Ext.refl H).app _).app _).app _).app _
  have lG : G.length = H.length + 4 := by rw [hG]; simp
  (repeat (first | refine ya (by (with_reducible constructor) <;> first | rfl | decide) ?_ | (apply yd; simp (disch := first | exact List.all_nil | omega | (simp only [go_sem]; done) | (simp only [ln, List.length_map]; omega) | (repeat' first | assumption | exact Ext.refl _ | refine Ext.app ?_ _)) only [go_sem, box_rules hl.atom, hbi]; with_reducible rfl)))
  (simp only [List.length_append, List.length_cons, List.length_nil, Nat.zero_add, Nat.add_assoc, Nat.reduceAdd])
  rw [← hG]
  clear hG
  obtain ⟨f, hf⟩ : ∃ f, f = ratioF num den := ⟨_, rfl⟩
  obtain ⟨N, hN⟩ : ∃ N, N = 2001 := ⟨_, rfl⟩
  obtain ⟨B, hB⟩ : ∃ B, 64 * (count - 1) = B := ⟨_, rfl⟩
  have ho : outsL (ratioF num den) (2001) count = (outTo f (outN f B 0 N).1, (outN f B 0 N).2) := by unfold outsL; rw [hf, hN, hB]
  rw [ho]
  have z0 := at_app (N := [AObj.cells true 0 [.slice none 0 0]]) g0
  have z4 : (G ++ [AObj.cells true 0 [.slice none 0 0]])[H.length + 4]? = some (.cells true 0 [.slice none 0 0]) := by rw [← lG]; exact at_new
  have x1 := (Ext.refl G).app [AObj.cells true 0 [.slice none 0 0]]
  have l1 : (G ++ [AObj.cells true 0 [.slice none 0 0]]).length = G.length + 1 := by simp
  have l6 : loadNR 6 (.pointer (some ⟨H.length, 0, none⟩)) (G ++ [AObj.cells true 0 [.slice none 0 0]]) = some (rulesV kind deg num den step v, G ++ [AObj.cells true 0 [.slice none 0 0]]) := loadN_at z0 (by simp [rulesC])
  ((repeat (first | refine ya (by (with_reducible constructor) <;> first | rfl | decide) ?_ | apply yb | refine yc rfl ?_ | ((first | apply yd | apply ye); simp (disch := first | exact List.all_nil | omega | (simp only [go_sem]; done) | (simp only [ln, List.length_map]; omega) | (repeat' first | assumption | exact Ext.refl _ | refine Ext.app ?_ _)) only [go_sem, l6]; with_reducible rfl))))
  generalize (G ++ [AObj.cells true 0 [.slice none 0 0]] : AHeap) = G1 at z0 z4 x1 l1 l6
  refine aops_call ((positionsR_c (hl.ext (xG.trans x1)) h0).mono fun v1 G3 ⟨e1, e2⟩ => ?_)
  subst e1
  have x3 : Ext G1 G3 := by rw [e2]; exact (Ext.refl _).app _
  have kr : G3[G1.length]? = some (.cells true 0 (rulesC kind deg num den step v)) := by rw [e2]; exact at_new
  clear e2
  have xG3 := x1.trans x3
  have xH3 := xG.trans xG3
  have k1 := xG3.cell g1
  have k2 := xG3.cell g2
  have k3 := xG3.cell g3
  have k4 := x3.cell z4
  have l3 := x3.len
  (repeat (first | refine ya (by (with_reducible constructor) <;> first | rfl | decide) ?_ | apply yb | refine yc rfl ?_))
  refine awp_rangeX mo rfl (fun l h => by cases h) (positions1_c (kind := kind) (deg := deg) (step := step) (v := v) (idr := G1.length) hn hd)
    (fun rest H' => ∃ k ov, rest = streamI (ratioF num den) k ((2001) - k) ∧ k ≤ (2001) ∧ k ≤ 2000 ∧ outN f B 0 N = outN f B k (N - k) ∧ BoxI (H.length + 4) G3 (outTo f k) ov H')
    (fun x H' => (x = .exit 0 ∧ ∃ ov, BoxI (H.length + 4) G3 (outTo f (outN f B 0 N).1) ov H' ∧ (outN f B 0 N).2 = 0) ∨
      (x = .ret ∧ outN f B 0 N = (0, 8) ∧ H'[H.length + 2]? = some (.cells true 0 [.slice none 0 0]) ∧ H'[H.length + 3]? = some (.cells true 0 [.int .i64 8]) ∧ Ext H H')) ?_ ?_ ?_ ?_ ?_ ?_ ?_ ?_ ?_
  · rintro rest H' c' ⟨k, ov, h1, h2, h3, h4, h5⟩
    exact ⟨k, ov, h1, h2, h3, h4, h5.set (by omega) _⟩
  · rintro x H' c' (⟨h1, ov, h2, h3⟩ | ⟨h1, h2, h3, h4, h5⟩)
    · exact .inl ⟨h1, ov, h2.set (by omega) _, h3⟩
    · refine .inr ⟨h1, h2, ?_, ?_, h5.set (by omega) _⟩
      · rw [List.getElem?_set_ne (by omega)]; exact h3
      · rw [List.getElem?_set_ne (by omega)]; exact h4
  · rintro rest H' ⟨k, ov, h1, h2, h3, h4, h5⟩
    exact h5.keeps.get kr (by omega)
  · rintro rest H' N' ⟨k, ov, h1, h2, h3, h4, h5⟩
    exact ⟨k, ov, h1, h2, h3, h4, h5.app _⟩
  · rintro hi H' ⟨k, ov, h1, h2, h3, h4, h5⟩
    have := stream_nil h1; omega
  · intro N'
    exact ⟨0, .slice none 0 0, rfl, Nat.zero_le _, Nat.zero_le _, by rw [Nat.sub_zero], Keeps.of_ext ((Ext.refl _).app _), at_app k4, OwnI.nil _ _⟩
  · rintro a rest H1 ⟨k, ov, h1, h2, h3, h4, h5⟩ hlt
    obtain ⟨n, hn⟩ : ∃ n, (2001) - k = n := ⟨_, rfl⟩
    rw [hn] at h1
    rw [show N - k = n by rw [hN]; exact hn] at h4
    match n, h1 with
    | n + 1, h1 =>
    obtain ⟨rfl, rfl⟩ := List.cons.inj h1
    rw [outN_succ] at h4
    refine ⟨rfl, fun R Rb _ hR => ?_⟩
    simp only [assignParams, List.zip_cons_cons, List.zip_nil_left, List.foldl_cons, List.foldl_nil]
    ((repeat (first | refine ya (by (with_reducible constructor) <;> first | rfl | decide) ?_ | apply yb | refine yc rfl ?_ | ((first | apply yd | apply ye); simp (disch := first | exact List.all_nil | omega | (simp only [go_sem]; done) | (simp only [ln, List.length_map]; omega) | (repeat' first | assumption | exact Ext.refl _ | refine Ext.app ?_ _)) only [go_sem]; with_reducible rfl))))
    refine ⟨rfl, hR, ?_⟩
    have hRb := get_set_self (d := Rb) hR
    have h6 := h5.set (k := H.length + 4) (by omega) Rb
    have hlb : G3.length < (H1.set G3.length Rb).length := by simpa using hlt
    generalize (H1.set G3.length Rb : AHeap) = Hb at h6 hRb hlb
    have xHb := h6.keeps.ext xH3 (by omega)
    have efk : (ratioF num den) k = f k := by rw [hf]
    rw [efk]
    have hoI := h6.own.ints
    ((repeat (first | refine ya (by (with_reducible constructor) <;> first | rfl | decide) ?_ | apply yb | refine yc rfl ?_ | ((first | apply yd | apply ye); simp (disch := first | exact List.all_nil | omega | (simp only [go_sem]; done) | (simp only [ln, List.length_map]; omega) | (repeat' first | assumption | exact Ext.refl _ | refine Ext.app ?_ _)) only [go_sem, load_at (h6.keeps.get k1 (by omega)), hB]; with_reducible rfl))))
    refine cond_p rfl (fun hq => ?_) (fun hq => ?_)
    · rw [if_pos hq] at h4
      ((repeat (first | refine ya (by (with_reducible constructor) <;> first | rfl | decide) ?_ | apply yb | refine yc rfl ?_ | ((first | apply yd | apply ye); simp (disch := first | exact List.all_nil | omega | (simp only [go_sem]; done) | (simp only [ln, List.length_map]; omega) | (repeat' first | assumption | exact Ext.refl _ | refine Ext.app ?_ _)) only [go_sem]; with_reducible rfl))))
      refine rounded_x hRb (.inl ⟨rfl, ov, ?_, ?_⟩)
      · rw [h4]; exact h6
      · rw [h4]
    rw [if_neg hq] at h4
    by_cases hk : k = 2000
    · rw [if_pos hk] at h4
      have b2 := h6.keeps.get k2 (by omega)
      have b3 := h6.keeps.get k3 (by omega)
      have b3' : (Hb.set (H.length + 2) (.cells true 0 [.slice none 0 0]))[H.length + 3]? = some (.cells true 0 [.int .i64 0]) := by rw [List.getElem?_set_ne (by omega)]; exact b3
      ((repeat (first | refine ya (by (with_reducible constructor) <;> first | rfl | decide) ?_ | apply yb | refine yc rfl ?_ | ((first | apply yd | apply ye); simp (disch := first | exact List.all_nil | omega | (simp only [go_sem]; done) | (simp only [ln, List.length_map]; omega) | (repeat' first | assumption | exact Ext.refl _ | refine Ext.app ?_ _)) only [go_sem, hoI.len, hoI.idx, hoI.load, load_at h6.box, outTo_len, dec_t (show ((k : Nat) : Int) = 2000 by omega)]; with_reducible rfl))))
      refine cond_t rfl ?_
      ((repeat (first | refine ya (by (with_reducible constructor) <;> first | rfl | decide) ?_ | apply yb | refine yc rfl ?_ | ((first | apply yd | apply ye); simp (disch := first | exact List.all_nil | omega | (simp only [go_sem]; done) | (simp only [ln, List.length_map]; omega) | (repeat' first | assumption | exact Ext.refl _ | refine Ext.app ?_ _)) only [go_sem, store_b1 b2 (y := .slice none 0 0) rfl rfl, store_b1 b3' (y := .int .i64 8) rfl rfl]; with_reducible rfl))))
      refine rounded_r ?_ (.inr ⟨rfl, h4, ?_, get_set_self b3', (xHb.set (by omega) _).set (by omega) _⟩)
      · rw [List.getElem?_set_ne (by omega), List.getElem?_set_ne (by omega)]; exact hRb
      · rw [List.getElem?_set_ne (by omega)]; exact get_set_self b2
    · rw [if_neg hk] at h4
      obtain ⟨s1, s2, s3⟩ := h6.push (by omega) hlb (f k) hRb
      have hpush := h6.own.push (by rw [outTo_len]; omega) (f k)
      ((repeat (first | refine ya (by (with_reducible constructor) <;> first | rfl | decide) ?_ | apply yb | refine yc rfl ?_ | ((first | apply yd | apply ye); simp (disch := first | exact List.all_nil | omega | (simp only [go_sem]; done) | (simp only [ln, List.length_map]; omega) | (repeat' first | assumption | exact Ext.refl _ | refine Ext.app ?_ _)) only [go_sem, hoI.len, hoI.idx, hoI.load, load_at h6.box, outTo_len, dec_f (show ¬ ((k : Nat) : Int) = 2000 by omega)]; with_reducible rfl))))
      refine cond_f rfl ?_
      ((repeat (first | refine ya (by (with_reducible constructor) <;> first | rfl | decide) ?_ | apply yb | refine yc rfl ?_ | ((first | apply yd | apply ye); simp (disch := first | exact List.all_nil | omega | (simp only [go_sem]; done) | (simp only [ln, List.length_map]; omega) | (repeat' first | assumption | exact Ext.refl _ | refine Ext.app ?_ _)) only [go_sem, load_at h6.box, hpush, s1]; with_reducible rfl))))
      refine rounded_n s3 ⟨k + 1, pushV Hb (outTo f k).length, ?_, by omega, by omega, ?_, ?_⟩
      · rw [show (2001) - (k + 1) = n by omega]
      · rw [h4, show N - (k + 1) = n by rw [hN]; omega]
      · rw [outTo_succ]; exact s2
  · rintro H' ⟨k, ov, h1, h2, h3, h4, h5⟩
    have h0 := stream_nil h1
    rw [show N - k = 0 by rw [hN]; exact h0] at h4
    have e1 : outN f B 0 N = (k, 0) := h4
    rw [e1]
    have b2 := h5.keeps.get k2 (by omega)
    have b3 := h5.keeps.get k3 (by omega)
    have xH' := h5.keeps.ext xH3 (by omega)
    have hov : ov.cells = ⟨[ov]⟩ := by rcases h5.own.ints.2 with ⟨rfl, _⟩ | ⟨id, off, c, rfl, _⟩ <;> rfl
    have b3' : (H'.set (H.length + 2) (.cells true 0 [ov]))[H.length + 3]? = some (.cells true 0 [.int .i64 0]) := by rw [List.getElem?_set_ne (by omega)]; exact b3
    ((repeat (first | refine ya (by (with_reducible constructor) <;> first | rfl | decide) ?_ | apply yb | refine yc rfl ?_ | ((first | apply yd | apply ye); simp (disch := first | exact List.all_nil | omega | (simp only [go_sem]; done) | (simp only [ln, List.length_map]; omega) | (repeat' first | assumption | exact Ext.refl _ | refine Ext.app ?_ _)) only [go_sem, load_at h5.box, store_b1 b2 h5.own.ints.atom hov, store_b1 b3' (y := .int .i64 0) rfl rfl]; with_reducible rfl))))
    refine fin_2l (u := ov) (w := .int .i64 0) (load1 (by rw [List.getElem?_set_ne (by omega)]; exact get_set_self b2)) (load1 (get_set_self b3')) ⟨ov, rfl, (xH'.set (by omega) _).set (by omega) _, ?_⟩
    exact ((h5.own.set_ne (h5.own.aside (by simp; omega)) _).set_ne (h5.own.aside (by simp; omega)) _).weaken (by simp; omega)
  · rintro x H' hx (⟨rfl, ov, h5, h6⟩ | ⟨rfl, h2, h3, h4, h5⟩)
    · have b2 := h5.keeps.get k2 (by omega)
      have b3 := h5.keeps.get k3 (by omega)
      have xH' := h5.keeps.ext xH3 (by omega)
      have hov : ov.cells = ⟨[ov]⟩ := by rcases h5.own.ints.2 with ⟨rfl, _⟩ | ⟨id, off, c, rfl, _⟩ <;> rfl
      have b3' : (H'.set (H.length + 2) (.cells true 0 [ov]))[H.length + 3]? = some (.cells true 0 [.int .i64 0]) := by rw [List.getElem?_set_ne (by omega)]; exact b3
      rw [h6]
      ((repeat (first | refine ya (by (with_reducible constructor) <;> first | rfl | decide) ?_ | apply yb | refine yc rfl ?_ | ((first | apply yd | apply ye); simp (disch := first | exact List.all_nil | omega | (simp only [go_sem]; done) | (simp only [ln, List.length_map]; omega) | (repeat' first | assumption | exact Ext.refl _ | refine Ext.app ?_ _)) only [go_sem, load_at h5.box, store_b1 b2 h5.own.ints.atom hov, store_b1 b3' (y := .int .i64 0) rfl rfl]; with_reducible rfl))))
      refine fin_2l (u := ov) (w := .int .i64 0) (load1 (by rw [List.getElem?_set_ne (by omega)]; exact get_set_self b2)) (load1 (get_set_self b3')) ⟨ov, rfl, (xH'.set (by omega) _).set (by omega) _, ?_⟩
      exact ((h5.own.set_ne (h5.own.aside (by simp; omega)) _).set_ne (h5.own.aside (by simp; omega)) _).weaken (by simp; omega)
    · rw [h2]
      ((repeat (first | refine ya (by (with_reducible constructor) <;> first | rfl | decide) ?_ | apply yb | refine yc rfl ?_ | ((first | apply yd | apply ye); simp (disch := first | exact List.all_nil | omega | (simp only [go_sem]; done) | (simp only [ln, List.length_map]; omega) | (repeat' first | assumption | exact Ext.refl _ | refine Ext.app ?_ _)) only [go_sem]; with_reducible rfl))))
      refine fin_2l (u := .slice none 0 0) (w := .int .i64 8) (load1 h3) (load1 h4) ⟨_, rfl, h5, OwnI.nil _ _⟩

set_option maxHeartbeats 8000000 in
theorem outputsC_c {count : Int} (hl : Pairs H l v) (h0 : ¬ kind = 0) (hok : MapOk l) (hs : 1 ≤ step ∧ step ≤ 1000000000000) (hcnt : 0 ≤ count ∧ count ≤ 400) : ACall Go.Proofs.Tryd.prog 90 [rulesV kind deg num den step v, .int .i64 count] H
    (IntsRes H (outsL (curveF l step) (curveN l step) count).1 (outsL (curveF l step) (curveN l step) count).2) := by
  refine ACall.intsE ?_
  (refine a90 ?_; simp only [n90, List.replicate, List.length_cons, List.length_nil, List.cons_append, List.nil_append]; first | refine q1 ?_ | refine q2 ?_ | refine q6 ?_ | refine q7 ?_ | refine qh rfl ?_ | skip)
  have hbi : ∀ J : AHeap, boxR (.int .i64 count) J = some (.pointer (some ⟨J.length, 0, none⟩), J ++ [.cells true 0 [.int .i64 count]]) := fun J => rfl
  obtain ⟨G, hG⟩ : ∃ G, G = H ++ [AObj.cells true 0 (rulesC kind deg num den step v)] ++ [AObj.cells true 0 [.int .i64 count]] ++ [AObj.cells true 0 [.slice none 0 0]] ++ [AObj.cells true 0 [.int .i64 0]] := ⟨_, rfl⟩
  have g0 : G[H.length]? = some (.cells true 0 (rulesC kind deg num den step v)) := by rw [hG]; simp
  have g1 : G[H.length + 1]? = some (.cells true 0 [.int .i64 count]) := by rw [hG]; simp
  have g2 : G[H.length + 2]? = some (.cells true 0 [.slice none 0 0]) := by rw [hG]; simp
  have g3 : G[H.length + 3]? = some (.cells true 0 [.int .i64 0]) := by rw [hG]; simp
  have xG : Ext H G := by rw [hG]; exact ((((Ext.refl H).app _).app _).app _).app _
  have lG : G.length = H.length + 4 := by rw [hG]; simp
  (repeat (first | refine ya (by (with_reducible constructor) <;> first | rfl | decide) ?_ | (apply yd; simp (disch := first | exact List.all_nil | omega | (simp only [go_sem]; done) | (simp only [ln, List.length_map]; omega) | (repeat' first | assumption | exact Ext.refl _ | refine Ext.app ?_ _)) only [go_sem, box_rules hl.atom, hbi]; with_reducible rfl)))
  (simp only [List.length_append, List.length_cons, List.length_nil, Nat.zero_add, Nat.add_assoc, Nat.reduceAdd])
  rw [← hG]
  clear hG
  obtain ⟨f, hf⟩ : ∃ f, f = curveF l step := ⟨_, rfl⟩
  obtain ⟨N, hN⟩ : ∃ N, N = curveN l step := ⟨_, rfl⟩
  obtain ⟨B, hB⟩ : ∃ B, 64 * (count - 1) = B := ⟨_, rfl⟩
  have ho : outsL (curveF l step) (curveN l step) count = (outTo f (outN f B 0 N).1, (outN f B 0 N).2) := by unfold outsL; rw [hf, hN, hB]
  rw [ho]
  have z0 := at_app (N := [AObj.cells true 0 [.slice none 0 0]]) g0
  have z4 : (G ++ [AObj.cells true 0 [.slice none 0 0]])[H.length + 4]? = some (.cells true 0 [.slice none 0 0]) := by rw [← lG]; exact at_new
  have x1 := (Ext.refl G).app [AObj.cells true 0 [.slice none 0 0]]
  have l1 : (G ++ [AObj.cells true 0 [.slice none 0 0]]).length = G.length + 1 := by simp
  have l6 : loadNR 6 (.pointer (some ⟨H.length, 0, none⟩)) (G ++ [AObj.cells true 0 [.slice none 0 0]]) = some (rulesV kind deg num den step v, G ++ [AObj.cells true 0 [.slice none 0 0]]) := loadN_at z0 (by simp [rulesC])
  ((repeat (first | refine ya (by (with_reducible constructor) <;> first | rfl | decide) ?_ | apply yb | refine yc rfl ?_ | ((first | apply yd | apply ye); simp (disch := first | exact List.all_nil | omega | (simp only [go_sem]; done) | (simp only [ln, List.length_map]; omega) | (repeat' first | assumption | exact Ext.refl _ | refine Ext.app ?_ _)) only [go_sem, l6]; with_reducible rfl))))
  generalize (G ++ [AObj.cells true 0 [.slice none 0 0]] : AHeap) = G1 at z0 z4 x1 l1 l6
  refine aops_call ((positionsC_c (hl.ext (xG.trans x1)) h0).mono fun v1 G3 ⟨e1, e2⟩ => ?_)
  subst e1
  have x3 : Ext G1 G3 := by rw [e2]; exact ((Ext.refl _).app _).app _
  have kr : G3[G1.length]? = some (.cells true 0 (rulesC kind deg num den step v)) := by rw [e2]; simp
  have kn : G3[G1.length + 1]? = some (.cells true 0 [v]) := by rw [e2]; simp
  clear e2
  have xG3 := x1.trans x3
  have xH3 := xG.trans xG3
  have k1 := xG3.cell g1
  have k2 := xG3.cell g2
  have k3 := xG3.cell g3
  have k4 := x3.cell z4
  have l3 := x3.len
  (repeat (first | refine ya (by (with_reducible constructor) <;> first | rfl | decide) ?_ | apply yb | refine yc rfl ?_))
  refine awp_rangeX mo rfl (fun l h => by cases h) (positions2_c (kind := kind) (deg := deg) (num := num) (den := den) (v := v) (idn := G1.length + 1) (idr := G1.length) hok hs)
    (fun rest H' => ∃ k ov, rest = streamI (curveF l step) k ((curveN l step) - k) ∧ k ≤ (curveN l step) ∧ k ≤ 2000 ∧ outN f B 0 N = outN f B k (N - k) ∧ BoxI (H.length + 4) G3 (outTo f k) ov H')
    (fun x H' => (x = .exit 0 ∧ ∃ ov, BoxI (H.length + 4) G3 (outTo f (outN f B 0 N).1) ov H' ∧ (outN f B 0 N).2 = 0) ∨
      (x = .ret ∧ outN f B 0 N = (0, 8) ∧ H'[H.length + 2]? = some (.cells true 0 [.slice none 0 0]) ∧ H'[H.length + 3]? = some (.cells true 0 [.int .i64 8]) ∧ Ext H H')) ?_ ?_ ?_ ?_ ?_ ?_ ?_ ?_ ?_
  · rintro rest H' c' ⟨k, ov, h1, h2, h3, h4, h5⟩
    exact ⟨k, ov, h1, h2, h3, h4, h5.set (by omega) _⟩
  · rintro x H' c' (⟨h1, ov, h2, h3⟩ | ⟨h1, h2, h3, h4, h5⟩)
    · exact .inl ⟨h1, ov, h2.set (by omega) _, h3⟩
    · refine .inr ⟨h1, h2, ?_, ?_, h5.set (by omega) _⟩
      · rw [List.getElem?_set_ne (by omega)]; exact h3
      · rw [List.getElem?_set_ne (by omega)]; exact h4
  · rintro rest H' ⟨k, ov, h1, h2, h3, h4, h5⟩
    exact ⟨h5.keeps.get kn (by omega), h5.keeps.get kr (by omega), hl.ext (h5.keeps.ext xH3 (by omega))⟩
  · rintro rest H' N' ⟨k, ov, h1, h2, h3, h4, h5⟩
    exact ⟨k, ov, h1, h2, h3, h4, h5.app _⟩
  · rintro hi H' ⟨k, ov, h1, h2, h3, h4, h5⟩
    cases hi
  · intro N'
    exact ⟨0, .slice none 0 0, rfl, Nat.zero_le _, Nat.zero_le _, by rw [Nat.sub_zero], Keeps.of_ext ((Ext.refl _).app _), at_app k4, OwnI.nil _ _⟩
  · rintro a rest H1 ⟨k, ov, h1, h2, h3, h4, h5⟩ hlt
    obtain ⟨n, hn⟩ : ∃ n, (curveN l step) - k = n := ⟨_, rfl⟩
    rw [hn] at h1
    rw [show N - k = n by rw [hN]; exact hn] at h4
    match n, h1 with
    | n + 1, h1 =>
    obtain ⟨rfl, rfl⟩ := List.cons.inj h1
    rw [outN_succ] at h4
    refine ⟨rfl, fun R Rb _ hR => ?_⟩
    simp only [assignParams, List.zip_cons_cons, List.zip_nil_left, List.foldl_cons, List.foldl_nil]
    ((repeat (first | refine ya (by (with_reducible constructor) <;> first | rfl | decide) ?_ | apply yb | refine yc rfl ?_ | ((first | apply yd | apply ye); simp (disch := first | exact List.all_nil | omega | (simp only [go_sem]; done) | (simp only [ln, List.length_map]; omega) | (repeat' first | assumption | exact Ext.refl _ | refine Ext.app ?_ _)) only [go_sem]; with_reducible rfl))))
    refine ⟨rfl, hR, ?_⟩
    have hRb := get_set_self (d := Rb) hR
    have h6 := h5.set (k := H.length + 4) (by omega) Rb
    have hlb : G3.length < (H1.set G3.length Rb).length := by simpa using hlt
    generalize (H1.set G3.length Rb : AHeap) = Hb at h6 hRb hlb
    have xHb := h6.keeps.ext xH3 (by omega)
    have efk : (curveF l step) k = f k := by rw [hf]
    rw [efk]
    have hoI := h6.own.ints
    ((repeat (first | refine ya (by (with_reducible constructor) <;> first | rfl | decide) ?_ | apply yb | refine yc rfl ?_ | ((first | apply yd | apply ye); simp (disch := first | exact List.all_nil | omega | (simp only [go_sem]; done) | (simp only [ln, List.length_map]; omega) | (repeat' first | assumption | exact Ext.refl _ | refine Ext.app ?_ _)) only [go_sem, load_at (h6.keeps.get k1 (by omega)), hB]; with_reducible rfl))))
    refine cond_p rfl (fun hq => ?_) (fun hq => ?_)
    · rw [if_pos hq] at h4
      ((repeat (first | refine ya (by (with_reducible constructor) <;> first | rfl | decide) ?_ | apply yb | refine yc rfl ?_ | ((first | apply yd | apply ye); simp (disch := first | exact List.all_nil | omega | (simp only [go_sem]; done) | (simp only [ln, List.length_map]; omega) | (repeat' first | assumption | exact Ext.refl _ | refine Ext.app ?_ _)) only [go_sem]; with_reducible rfl))))
      refine rounded_x hRb (.inl ⟨rfl, ov, ?_, ?_⟩)
      · rw [h4]; exact h6
      · rw [h4]
    rw [if_neg hq] at h4
    by_cases hk : k = 2000
    · rw [if_pos hk] at h4
      have b2 := h6.keeps.get k2 (by omega)
      have b3 := h6.keeps.get k3 (by omega)
      have b3' : (Hb.set (H.length + 2) (.cells true 0 [.slice none 0 0]))[H.length + 3]? = some (.cells true 0 [.int .i64 0]) := by rw [List.getElem?_set_ne (by omega)]; exact b3
      ((repeat (first | refine ya (by (with_reducible constructor) <;> first | rfl | decide) ?_ | apply yb | refine yc rfl ?_ | ((first | apply yd | apply ye); simp (disch := first | exact List.all_nil | omega | (simp only [go_sem]; done) | (simp only [ln, List.length_map]; omega) | (repeat' first | assumption | exact Ext.refl _ | refine Ext.app ?_ _)) only [go_sem, hoI.len, hoI.idx, hoI.load, load_at h6.box, outTo_len, dec_t (show ((k : Nat) : Int) = 2000 by omega)]; with_reducible rfl))))
      refine cond_t rfl ?_
      ((repeat (first | refine ya (by (with_reducible constructor) <;> first | rfl | decide) ?_ | apply yb | refine yc rfl ?_ | ((first | apply yd | apply ye); simp (disch := first | exact List.all_nil | omega | (simp only [go_sem]; done) | (simp only [ln, List.length_map]; omega) | (repeat' first | assumption | exact Ext.refl _ | refine Ext.app ?_ _)) only [go_sem, store_b1 b2 (y := .slice none 0 0) rfl rfl, store_b1 b3' (y := .int .i64 8) rfl rfl]; with_reducible rfl))))
      refine rounded_r ?_ (.inr ⟨rfl, h4, ?_, get_set_self b3', (xHb.set (by omega) _).set (by omega) _⟩)
      · rw [List.getElem?_set_ne (by omega), List.getElem?_set_ne (by omega)]; exact hRb
      · rw [List.getElem?_set_ne (by omega)]; exact get_set_self b2
    · rw [if_neg hk] at h4
      obtain ⟨s1, s2, s3⟩ := h6.push (by omega) hlb (f k) hRb
      have hpush := h6.own.push (by rw [outTo_len]; omega) (f k)
      ((repeat (first | refine ya (by (with_reducible constructor) <;> first | rfl | decide) ?_ | apply yb | refine yc rfl ?_ | ((first | apply yd | apply ye); simp (disch := first | exact List.all_nil | omega | (simp only [go_sem]; done) | (simp only [ln, List.length_map]; omega) | (repeat' first | assumption | exact Ext.refl _ | refine Ext.app ?_ _)) only [go_sem, hoI.len, hoI.idx, hoI.load, load_at h6.box, outTo_len, dec_f (show ¬ ((k : Nat) : Int) = 2000 by omega)]; with_reducible rfl))))
      refine cond_f rfl ?_
      ((repeat (first | refine ya (by (with_reducible constructor) <;> first | rfl | decide) ?_ | apply yb | refine yc rfl ?_ | ((first | apply yd | apply ye); simp (disch := first | exact List.all_nil | omega | (simp only [go_sem]; done) | (simp only [ln, List.length_map]; omega) | (repeat' first | assumption | exact Ext.refl _ | refine Ext.app ?_ _)) only [go_sem, load_at h6.box, hpush, s1]; with_reducible rfl))))
      refine rounded_n s3 ⟨k + 1, pushV Hb (outTo f k).length, ?_, by omega, by omega, ?_, ?_⟩
      · rw [show (curveN l step) - (k + 1) = n by omega]
      · rw [h4, show N - (k + 1) = n by rw [hN]; omega]
      · rw [outTo_succ]; exact s2
  · rintro H' ⟨k, ov, h1, h2, h3, h4, h5⟩
    have h0 := stream_nil h1
    rw [show N - k = 0 by rw [hN]; exact h0] at h4
    have e1 : outN f B 0 N = (k, 0) := h4
    rw [e1]
    have b2 := h5.keeps.get k2 (by omega)
    have b3 := h5.keeps.get k3 (by omega)
    have xH' := h5.keeps.ext xH3 (by omega)
    have hov : ov.cells = ⟨[ov]⟩ := by rcases h5.own.ints.2 with ⟨rfl, _⟩ | ⟨id, off, c, rfl, _⟩ <;> rfl
    have b3' : (H'.set (H.length + 2) (.cells true 0 [ov]))[H.length + 3]? = some (.cells true 0 [.int .i64 0]) := by rw [List.getElem?_set_ne (by omega)]; exact b3
    ((repeat (first | refine ya (by (with_reducible constructor) <;> first | rfl | decide) ?_ | apply yb | refine yc rfl ?_ | ((first | apply yd | apply ye); simp (disch := first | exact List.all_nil | omega | (simp only [go_sem]; done) | (simp only [ln, List.length_map]; omega) | (repeat' first | assumption | exact Ext.refl _ | refine Ext.app ?_ _)) only [go_sem, load_at h5.box, store_b1 b2 h5.own.ints.atom hov, store_b1 b3' (y := .int .i64 0) rfl rfl]; with_reducible rfl))))
    refine fin_2l (u := ov) (w := .int .i64 0) (load1 (by rw [List.getElem?_set_ne (by omega)]; exact get_set_self b2)) (load1 (get_set_self b3')) ⟨ov, rfl, (xH'.set (by omega) _).set (by omega) _, ?_⟩
    exact ((h5.own.set_ne (h5.own.aside (by simp; omega)) _).set_ne (h5.own.aside (by simp; omega)) _).weaken (by simp; omega)
  · rintro x H' hx (⟨rfl, ov, h5, h6⟩ | ⟨rfl, h2, h3, h4, h5⟩)
    · have b2 := h5.keeps.get k2 (by omega)
      have b3 := h5.keeps.get k3 (by omega)
      have xH' := h5.keeps.ext xH3 (by omega)
      have hov : ov.cells = ⟨[ov]⟩ := by rcases h5.own.ints.2 with ⟨rfl, _⟩ | ⟨id, off, c, rfl, _⟩ <;> rfl
      have b3' : (H'.set (H.length + 2) (.cells true 0 [ov]))[H.length + 3]? = some (.cells true 0 [.int .i64 0]) := by rw [List.getElem?_set_ne (by omega)]; exact b3
      rw [h6]
      ((repeat (first | refine ya (by (with_reducible constructor) <;> first | rfl | decide) ?_ | apply yb | refine yc rfl ?_ | ((first | apply yd | apply ye); simp (disch := first | exact List.all_nil | omega | (simp only [go_sem]; done) | (simp only [ln, List.length_map]; omega) | (repeat' first | assumption | exact Ext.refl _ | refine Ext.app ?_ _)) only [go_sem, load_at h5.box, store_b1 b2 h5.own.ints.atom hov, store_b1 b3' (y := .int .i64 0) rfl rfl]; with_reducible rfl))))
      refine fin_2l (u := ov) (w := .int .i64 0) (load1 (by rw [List.getElem?_set_ne (by omega)]; exact get_set_self b2)) (load1 (get_set_self b3')) ⟨ov, rfl, (xH'.set (by omega) _).set (by omega) _, ?_⟩
      exact ((h5.own.set_ne (h5.own.aside (by simp; omega)) _).set_ne (h5.own.aside (by simp; omega)) _).weaken (by simp; omega)
    · rw [h2]
      ((repeat (first | refine ya (by (with_reducible constructor) <;> first | rfl | decide) ?_ | apply yb | refine yc rfl ?_ | ((first | apply yd | apply ye); simp (disch := first | exact List.all_nil | omega | (simp only [go_sem]; done) | (simp only [ln, List.length_map]; omega) | (repeat' first | assumption | exact Ext.refl _ | refine Ext.app ?_ _)) only [go_sem]; with_reducible rfl))))
      refine fin_2l (u := .slice none 0 0) (w := .int .i64 8) (load1 h3) (load1 h4) ⟨_, rfl, h5, OwnI.nil _ _⟩
end
end Go.Lq

namespace Go.Lq
open Go
open Go.Proofs

def outF (kind num den step : Int) (l : List (Int × Int)) : Nat → Int := if kind = 0 then ratioF num den else curveF l step
def outC (kind step : Int) (l : List (Int × Int)) : Nat := if kind = 0 then 2001 else curveN l step
def outsR (kind num den step : Int) (l : List (Int × Int)) (count : Int) : List Int × Int := outsL (outF kind num den step l) (outC kind step l) count
theorem rules_ratio {kind deg num den step : Int} {l : List (Int × Int)} (h : rulesErrL kind deg num den step l = 0) (h0 : kind = 0) : (1 ≤ num ∧ num ≤ 1000) ∧ (1 ≤ den ∧ den ≤ 1000) ∧ (deg = 1 ∨ deg = 3) := by
  unfold rulesErrL at h
  by_cases hk : 0 ≤ kind ∧ kind ≤ 1
  · rw [if_pos hk] at h
    by_cases hd : degErrL deg = 0
    · rw [if_pos hd, if_pos h0] at h
      unfold ratioErrL at h
      by_cases hn : (1 ≤ num ∧ num ≤ 1000) ∧ (1 ≤ den ∧ den ≤ 1000)
      · exact ⟨hn.1, hn.2, degErr_ok hd⟩
      · rw [if_neg hn] at h; exact absurd h (by simp [firstErr])
    · rw [if_neg hd] at h; exact absurd h hd
  · rw [if_neg hk] at h; exact absurd h (by decide)
theorem rules_curve {kind deg num den step : Int} {l : List (Int × Int)} (h : rulesErrL kind deg num den step l = 0) (h0 : ¬ kind = 0) : MapOk l ∧ (1 ≤ step ∧ step ≤ 1000000000000) ∧ (deg = 1 ∨ deg = 3) := by
  unfold rulesErrL at h
  by_cases hk : 0 ≤ kind ∧ kind ≤ 1
  · rw [if_pos hk] at h
    by_cases hd : degErrL deg = 0
    · rw [if_pos hd, if_neg h0] at h
      unfold curveErrL at h
      by_cases hm : mapErrL l = 0
      · rw [hm, firstErr_z] at h
        by_cases hs : 1 ≤ step ∧ step ≤ 1000000000000
        · exact ⟨mapErr_ok hm, hs, degErr_ok hd⟩
        · rw [if_neg hs] at h; exact absurd h (by simp [firstErr])
      · rw [firstErr_e hm] at h; exact absurd h hm
    · rw [if_neg hd] at h; exact absurd h hd
  · rw [if_neg hk] at h; exact absurd h (by decide)

section
variable {H : AHeap} {kind deg num den step : Int} {l : List (Int × Int)} {v : Value}
theorem outputs_c {count : Int} (hl : Pairs H l v) (he : rulesErrL kind deg num den step l = 0) (hcnt : 0 ≤ count ∧ count ≤ 400) : ACall Go.Proofs.Tryd.prog 90 [rulesV kind deg num den step v, .int .i64 count] H
    (IntsRes H (outsR kind num den step l count).1 (outsR kind num den step l count).2) := by
  by_cases h0 : kind = 0
  · obtain ⟨h1, h2, _⟩ := rules_ratio he h0
    have e : outsR kind num den step l count = outsL (ratioF num den) 2001 count := by unfold outsR outF outC; rw [if_pos h0, if_pos h0]
    rw [e]
    exact outputsR_c hl h0 h1 h2 hcnt
  · obtain ⟨h1, h2, _⟩ := rules_curve he h0
    have e : outsR kind num den step l count = outsL (curveF l step) (curveN l step) count := by unfold outsR outF outC; rw [if_neg h0, if_neg h0]
    rw [e]
    exact outputsC_c hl h0 h1 h2 hcnt
end
end Go.Lq

namespace Go.Lq
open Go
open Go.Proofs

section
variable {H : AHeap} {kind deg num den step : Int} {l : List (Int × Int)} {v : Value}
theorem rFirst_c (hl : Pairs H l v) (h0 : 0 < l.length) : ACall Go.Proofs.Tryd.prog 49 [.agg ⟨[v]⟩] H fun w H' => w = .agg ⟨[.int .i64 (l.getD 0 (0, 0)).1, .int .i64 (l.getD 0 (0, 0)).2]⟩ ∧ H' = H := by
  refine ACall.drop (closed_frac ((l.getD 0 (0, 0)).1, (l.getD 0 (0, 0)).2)) ?_
  (refine a49 ?_; simp only [n49, List.replicate, List.length_cons, List.length_nil, List.cons_append, List.nil_append]; first | refine q1 ?_ | refine q2 ?_ | refine q6 ?_ | refine q7 ?_ | refine qh rfl ?_ | skip)
  obtain ⟨G, hG⟩ : ∃ G, G = H ++ [AObj.cells true 0 [v]] ++ [AObj.cells true 0 [.int .i64 0, .int .i64 0]] := ⟨_, rfl⟩
  have g0 : G[H.length]? = some (.cells true 0 [v]) := by rw [hG]; simp
  have g2 : G[H.length + 1]? = some (.cells true 0 [.int .i64 0, .int .i64 0]) := by rw [hG]; simp
  have xG : Ext H G := by rw [hG]; exact ((Ext.refl H).app _).app _
  (repeat (first | refine ya (by (with_reducible constructor) <;> first | rfl | decide) ?_ | (apply yd; simp (disch := first | exact List.all_nil | omega | (simp only [go_sem]; done) | (simp only [ln, List.length_map]; omega) | (repeat' first | assumption | exact Ext.refl _ | refine Ext.app ?_ _)) only [go_sem, hl.box1]; with_reducible rfl)))
  (simp only [List.length_append, List.length_cons, List.length_nil, Nat.zero_add, Nat.add_assoc, Nat.reduceAdd])
  rw [← hG]
  clear hG
  have hl1 := hl.ext xG
  have e0 : (0 : Int) = ((0 : Nat) : Int) := rfl
  ((repeat (first | refine ya (by (with_reducible constructor) <;> first | rfl | decide) ?_ | apply yb | refine yc rfl ?_ | ((first | apply yd | apply ye); simp (disch := first | exact List.all_nil | omega | (simp only [go_sem]; done) | (simp only [ln, List.length_map]; omega) | (repeat' first | assumption | exact Ext.refl _ | refine Ext.app ?_ _)) only [go_sem, hl1.len, hl1.idx, hl1.load, load_at g0, store_b2 g2]; with_reducible rfl))))
  refine fin_l1 (u := .agg ⟨[.int .i64 (l.getD 0 (0, 0)).1, .int .i64 (l.getD 0 (0, 0)).2]⟩) (loadN_at (k := 0) (get_set_self g2) (by simp)) ⟨rfl, xG.set (by omega) _⟩
theorem rLast_c (hl : Pairs H l v) (h0 : 0 < l.length) (hb : l.length ≤ 1000000) : ACall Go.Proofs.Tryd.prog 50 [.agg ⟨[v]⟩] H fun w H' => w = .agg ⟨[.int .i64 (l.getD (l.length - 1) (0, 0)).1, .int .i64 (l.getD (l.length - 1) (0, 0)).2]⟩ ∧ H' = H := by
  refine ACall.drop (closed_frac ((l.getD (l.length - 1) (0, 0)).1, (l.getD (l.length - 1) (0, 0)).2)) ?_
  (refine a50 ?_; simp only [n50, List.replicate, List.length_cons, List.length_nil, List.cons_append, List.nil_append]; first | refine q1 ?_ | refine q2 ?_ | refine q6 ?_ | refine q7 ?_ | refine qh rfl ?_ | skip)
  obtain ⟨G, hG⟩ : ∃ G, G = H ++ [AObj.cells true 0 [v]] ++ [AObj.cells true 0 [.int .i64 0, .int .i64 0]] := ⟨_, rfl⟩
  have g0 : G[H.length]? = some (.cells true 0 [v]) := by rw [hG]; simp
  have g2 : G[H.length + 1]? = some (.cells true 0 [.int .i64 0, .int .i64 0]) := by rw [hG]; simp
  have xG : Ext H G := by rw [hG]; exact ((Ext.refl H).app _).app _
  (repeat (first | refine ya (by (with_reducible constructor) <;> first | rfl | decide) ?_ | (apply yd; simp (disch := first | exact List.all_nil | omega | (simp only [go_sem]; done) | (simp only [ln, List.length_map]; omega) | (repeat' first | assumption | exact Ext.refl _ | refine Ext.app ?_ _)) only [go_sem, hl.box1]; with_reducible rfl)))
  (simp only [List.length_append, List.length_cons, List.length_nil, Nat.zero_add, Nat.add_assoc, Nat.reduceAdd])
  rw [← hG]
  clear hG
  have hl1 := hl.ext xG
  have el : (l.length : Int) - 1 = ((l.length - 1 : Nat) : Int) := by omega
  ((repeat (first | refine ya (by (with_reducible constructor) <;> first | rfl | decide) ?_ | apply yb | refine yc rfl ?_ | ((first | apply yd | apply ye); simp (disch := first | exact List.all_nil | omega | (simp only [go_sem]; done) | (simp only [ln, List.length_map]; omega) | (repeat' first | assumption | exact Ext.refl _ | refine Ext.app ?_ _)) only [go_sem, hl1.len, hl1.idx, hl1.load, load_at g0, el, store_b2 g2]; with_reducible rfl))))
  refine fin_l1 (u := .agg ⟨[.int .i64 (l.getD (l.length - 1) (0, 0)).1, .int .i64 (l.getD (l.length - 1) (0, 0)).2]⟩) (loadN_at (k := 0) (get_set_self g2) (by simp)) ⟨rfl, xG.set (by omega) _⟩

set_option maxHeartbeats 8000000 in
theorem rPositionsR_c {count : Int} (hl : Pairs H l v) (h0 : kind = 0) (hn : 1 ≤ num ∧ num ≤ 1000) (hd : 1 ≤ den ∧ den ≤ 1000) (hcnt : 0 ≤ count ∧ count ≤ 400) : ACall Go.Proofs.Tryd.prog 34 [rulesV kind deg num den step v, .int .i64 count] H fun u H1 =>
    u = .tuple #[retV H (outsL (ratioF num den) (2001) count).1.length, .bool (decide ((outsL (ratioF num den) (2001) count).2 = 0))] ∧ H1 = H ++ retN 1 (outsL (ratioF num den) (2001) count).1.length ((outsL (ratioF num den) (2001) count).1.map (.int .i64)) := by
  refine ACall.tidy (f := fun s => .tuple #[s, .bool (decide ((outsL (ratioF num den) (2001) count).2 = 0))]) (wraps_1 (.bool _)) (closed_ints _) ?_
  obtain ⟨f, hf⟩ : ∃ f, f = ratioF num den := ⟨_, rfl⟩
  obtain ⟨N, hN⟩ : ∃ N, N = 2001 := ⟨_, rfl⟩
  obtain ⟨B, hB⟩ : ∃ B, 64 * (count - 1) = B := ⟨_, rfl⟩
  have ho : outsL (ratioF num den) (2001) count = (outTo f (outN f B 0 N).1, (outN f B 0 N).2) := by unfold outsL; rw [hf, hN, hB]
  rw [ho]
  (refine a34 ?_; simp only [n34, List.replicate, List.length_cons, List.length_nil, List.cons_append, List.nil_append]; first | refine q1 ?_ | refine q2 ?_ | refine q6 ?_ | refine q7 ?_ | refine qh rfl ?_ | skip)
  have g0 : (H ++ [AObj.cells true 0 (rulesC kind deg num den step v)])[H.length]? = some (.cells true 0 (rulesC kind deg num den step v)) := at_new
  have xG : Ext H (H ++ [AObj.cells true 0 (rulesC kind deg num den step v)]) := (Ext.refl H).app _
  have lG : (H ++ [AObj.cells true 0 (rulesC kind deg num den step v)]).length = H.length + 1 := by simp
  ((repeat (first | refine ya (by (with_reducible constructor) <;> first | rfl | decide) ?_ | apply yb | refine yc rfl ?_ | ((first | apply yd | apply ye); simp (disch := first | exact List.all_nil | omega | (simp only [go_sem]; done) | (simp only [ln, List.length_map]; omega) | (repeat' first | assumption | exact Ext.refl _ | refine Ext.app ?_ _)) only [go_sem, box_rules hl.atom]; with_reducible rfl))))
  generalize (H ++ [AObj.cells true 0 (rulesC kind deg num den step v)] : AHeap) = G at g0 xG lG
  refine awp_loop_n [false, true, true, false, false, false, true, true, false, false, false, false, false, false, false, false, false, false, false, false, false, false, false, false, false, false, false, false, false, false, false, false, false, false, false, false, false, false, false, false, false, false, false, false, false, false, false, false, false, false, false, false, false, false, false, false, false] 2001 (fun k e H' => ∃ ov, e = [junk, .int .i64 count, .pointer (some ⟨H.length, 0, none⟩), junk, junk, junk, ov, .int .i64 k, junk, junk, junk, junk, junk, junk, junk, junk, junk, junk, junk, junk, junk, junk, junk, junk, junk, junk, junk, junk, junk, junk, junk, junk, junk, junk, junk, junk, junk, junk, junk, junk, junk, junk, junk, junk, junk, junk, junk, junk, junk, junk, junk, junk, junk, junk, junk, junk, junk] ∧ k ≤ N ∧ k ≤ 2000 ∧ outN f B 0 N = outN f B k (N - k) ∧ Ext G H' ∧ OwnI G H' (outTo f k) ov) ?_ ?_
  · exact ⟨.slice none 0 0, by simp [forget], Nat.zero_le _, Nat.zero_le _, by rw [Nat.sub_zero], Ext.refl _, OwnI.nil _ _⟩
  rintro k e H1 hk2 ⟨ov, rfl, hkN, hk3, h4, x1, ho1⟩
  have b0 := x1.cell g0
  have xH1 := xG.trans x1
  have hl1 := hl.ext xH1
  have m1 : 0 ≤ 64 * (k : Int) * num := Int.mul_nonneg (by omega) (by omega)
  have m2 : 64 * (k : Int) * num ≤ 64 * (k : Int) * 1000 := Int.mul_le_mul_of_nonneg_left (by omega) (by omega)
  have efk : 64 * (k : Int) * num / den = f k := by rw [hf]; rfl
  ((repeat (first | refine ya (by (with_reducible constructor) <;> first | rfl | decide) ?_ | apply yb | refine yc rfl ?_ | ((first | apply yd | apply ye); simp (disch := first | exact List.all_nil | omega | (simp only [go_sem]; done) | (simp only [ln, List.length_map]; omega) | (repeat' first | assumption | exact Ext.refl _ | refine Ext.app ?_ _)) only [go_sem, load_at b0, rulesC, dec_t h0]; with_reducible rfl))))
  refine cond_t rfl ?_
  ((repeat (first | refine ya (by (with_reducible constructor) <;> first | rfl | decide) ?_ | apply yb | refine yc rfl ?_ | ((first | apply yd | apply ye); simp (disch := first | exact List.all_nil | omega | (simp only [go_sem]; done) | (simp only [ln, List.length_map]; omega) | (repeat' first | assumption | exact Ext.refl _ | refine Ext.app ?_ _)) only [go_sem, load_at b0, rulesC]; with_reducible rfl))))
  refine aops_call_to (bfloorL_c _ _ (by omega) (by omega)) ?_
  rw [efk]
  obtain ⟨n, hn⟩ : ∃ n, N - k = n + 1 := ⟨N - k - 1, by omega⟩
  rw [hn, outN_succ] at h4
  have hoI := ho1.ints
  by_cases hq : B < f k
  · rw [if_pos hq] at h4
    ((repeat (first | refine ya (by (with_reducible constructor) <;> first | rfl | decide) ?_ | apply yb | refine yc rfl ?_ | ((first | apply yd | apply ye); simp (disch := first | exact List.all_nil | omega | (simp only [go_sem]; done) | (simp only [ln, List.length_map]; omega) | (repeat' first | assumption | exact Ext.refl _ | refine Ext.app ?_ _)) only [go_sem, hB, dec_t hq]; with_reducible rfl))))
    refine cond_t rfl ?_
    ((repeat (first | refine ya (by (with_reducible constructor) <;> first | rfl | decide) ?_ | apply yb | refine yc rfl ?_ | ((first | apply yd | apply ye); simp (disch := first | exact List.all_nil | omega | (simp only [go_sem]; done) | (simp only [ln, List.length_map]; omega) | (repeat' first | assumption | exact Ext.refl _ | refine Ext.app ?_ _)) only [go_sem]; with_reducible rfl))))
    rw [h4]
    exact fin_2 ⟨_, rfl, xH1, ho1.weaken xG.len⟩
  rw [if_neg hq] at h4
  by_cases hk : k = 2000
  · rw [if_pos hk] at h4
    ((repeat (first | refine ya (by (with_reducible constructor) <;> first | rfl | decide) ?_ | apply yb | refine yc rfl ?_ | ((first | apply yd | apply ye); simp (disch := first | exact List.all_nil | omega | (simp only [go_sem]; done) | (simp only [ln, List.length_map]; omega) | (repeat' first | assumption | exact Ext.refl _ | refine Ext.app ?_ _)) only [go_sem, hoI.len, hoI.idx, hoI.load, hB, dec_f hq]; with_reducible rfl))))
    refine cond_f rfl ?_
    ((repeat (first | refine ya (by (with_reducible constructor) <;> first | rfl | decide) ?_ | apply yb | refine yc rfl ?_ | ((first | apply yd | apply ye); simp (disch := first | exact List.all_nil | omega | (simp only [go_sem]; done) | (simp only [ln, List.length_map]; omega) | (repeat' first | assumption | exact Ext.refl _ | refine Ext.app ?_ _)) only [go_sem, hoI.len, hoI.idx, hoI.load, outTo_len, dec_t (show ((k : Nat) : Int) = 2000 by omega)]; with_reducible rfl))))
    refine cond_t rfl ?_
    ((repeat (first | refine ya (by (with_reducible constructor) <;> first | rfl | decide) ?_ | apply yb | refine yc rfl ?_ | ((first | apply yd | apply ye); simp (disch := first | exact List.all_nil | omega | (simp only [go_sem]; done) | (simp only [ln, List.length_map]; omega) | (repeat' first | assumption | exact Ext.refl _ | refine Ext.app ?_ _)) only [go_sem]; with_reducible rfl))))
    rw [h4]
    exact fin_2 ⟨_, rfl, xH1, OwnI.nil _ _⟩
  rw [if_neg hk] at h4
  have hpush := ho1.push (by rw [outTo_len]; omega) (f k)
  ((repeat (first | refine ya (by (with_reducible constructor) <;> first | rfl | decide) ?_ | apply yb | refine yc rfl ?_ | ((first | apply yd | apply ye); simp (disch := first | exact List.all_nil | omega | (simp only [go_sem]; done) | (simp only [ln, List.length_map]; omega) | (repeat' first | assumption | exact Ext.refl _ | refine Ext.app ?_ _)) only [go_sem, hoI.len, hoI.idx, hoI.load, hB, dec_f hq]; with_reducible rfl))))
  refine cond_f rfl ?_
  ((repeat (first | refine ya (by (with_reducible constructor) <;> first | rfl | decide) ?_ | apply yb | refine yc rfl ?_ | ((first | apply yd | apply ye); simp (disch := first | exact List.all_nil | omega | (simp only [go_sem]; done) | (simp only [ln, List.length_map]; omega) | (repeat' first | assumption | exact Ext.refl _ | refine Ext.app ?_ _)) only [go_sem, hoI.len, hoI.idx, hoI.load, outTo_len, dec_f (show ¬ ((k : Nat) : Int) = 2000 by omega)]; with_reducible rfl))))
  refine cond_f rfl ?_
  ((repeat (first | refine ya (by (with_reducible constructor) <;> first | rfl | decide) ?_ | apply yb | refine yc rfl ?_ | ((first | apply yd | apply ye); simp (disch := first | exact List.all_nil | omega | (simp only [go_sem]; done) | (simp only [ln, List.length_map]; omega) | (repeat' first | assumption | exact Ext.refl _ | refine Ext.app ?_ _)) only [go_sem, hpush]; with_reducible rfl))))
  refine ⟨by omega, pushV H1 (outTo f k).length, by simp [forget], by omega, by omega, ?_, ho1.ext x1 _, ?_⟩
  · rw [h4, show N - (k + 1) = n by omega]
  · rw [outTo_succ]; exact ho1.pushed x1 _

set_option maxHeartbeats 8000000 in
theorem rPositionsC_c {count : Int} (hl : Pairs H l v) (h0 : ¬ kind = 0) (hok : MapOk l) (hs : 1 ≤ step ∧ step ≤ 1000000000000) (hcnt : 0 ≤ count ∧ count ≤ 400) : ACall Go.Proofs.Tryd.prog 34 [rulesV kind deg num den step v, .int .i64 count] H fun u H1 =>
    u = .tuple #[retV H (outsL (curveF l step) (curveN l step) count).1.length, .bool (decide ((outsL (curveF l step) (curveN l step) count).2 = 0))] ∧ H1 = H ++ retN 1 (outsL (curveF l step) (curveN l step) count).1.length ((outsL (curveF l step) (curveN l step) count).1.map (.int .i64)) := by
  refine ACall.tidy (f := fun s => .tuple #[s, .bool (decide ((outsL (curveF l step) (curveN l step) count).2 = 0))]) (wraps_1 (.bool _)) (closed_ints _) ?_
  obtain ⟨f, hf⟩ : ∃ f, f = curveF l step := ⟨_, rfl⟩
  obtain ⟨N, hN⟩ : ∃ N, N = curveN l step := ⟨_, rfl⟩
  obtain ⟨B, hB⟩ : ∃ B, 64 * (count - 1) = B := ⟨_, rfl⟩
  have ho : outsL (curveF l step) (curveN l step) count = (outTo f (outN f B 0 N).1, (outN f B 0 N).2) := by unfold outsL; rw [hf, hN, hB]
  rw [ho]
  (refine a34 ?_; simp only [n34, List.replicate, List.length_cons, List.length_nil, List.cons_append, List.nil_append]; first | refine q1 ?_ | refine q2 ?_ | refine q6 ?_ | refine q7 ?_ | refine qh rfl ?_ | skip)
  have g0 : (H ++ [AObj.cells true 0 (rulesC kind deg num den step v)])[H.length]? = some (.cells true 0 (rulesC kind deg num den step v)) := at_new
  have xG : Ext H (H ++ [AObj.cells true 0 (rulesC kind deg num den step v)]) := (Ext.refl H).app _
  have lG : (H ++ [AObj.cells true 0 (rulesC kind deg num den step v)]).length = H.length + 1 := by simp
  ((repeat (first | refine ya (by (with_reducible constructor) <;> first | rfl | decide) ?_ | apply yb | refine yc rfl ?_ | ((first | apply yd | apply ye); simp (disch := first | exact List.all_nil | omega | (simp only [go_sem]; done) | (simp only [ln, List.length_map]; omega) | (repeat' first | assumption | exact Ext.refl _ | refine Ext.app ?_ _)) only [go_sem, box_rules hl.atom]; with_reducible rfl))))
  generalize (H ++ [AObj.cells true 0 (rulesC kind deg num den step v)] : AHeap) = G at g0 xG lG
  obtain ⟨s1, s2, s3⟩ := hok.span
  have h02 := hok.lo
  have h20 := hok.hi
  refine awp_loop_n [false, true, true, false, false, false, true, true, false, false, false, false, false, false, false, false, false, false, false, false, false, false, false, false, false, false, false, false, false, false, false, false, false, false, false, false, false, false, false, false, false, false, false, false, false, false, false, false, false, false, false, false, false, false, false, false, false] 2001 (fun k e H' => ∃ ov, e = [junk, .int .i64 count, .pointer (some ⟨H.length, 0, none⟩), junk, junk, junk, ov, .int .i64 k, junk, junk, junk, junk, junk, junk, junk, junk, junk, junk, junk, junk, junk, junk, junk, junk, junk, junk, junk, junk, junk, junk, junk, junk, junk, junk, junk, junk, junk, junk, junk, junk, junk, junk, junk, junk, junk, junk, junk, junk, junk, junk, junk, junk, junk, junk, junk, junk, junk] ∧ k ≤ N ∧ k ≤ 2000 ∧ outN f B 0 N = outN f B k (N - k) ∧ Ext G H' ∧ OwnI G H' (outTo f k) ov) ?_ ?_
  · exact ⟨.slice none 0 0, by simp [forget], Nat.zero_le _, Nat.zero_le _, by rw [Nat.sub_zero], Ext.refl _, OwnI.nil _ _⟩
  rintro k e H1 hk2 ⟨ov, rfl, hkN, hk3, h4, x1, ho1⟩
  have b0 := x1.cell g0
  have xH1 := xG.trans x1
  have hl1 := hl.ext xH1
  have et : (l.getD 0 (0, 0)).2 = t0L l := rfl
  have eE : (l.getD (l.length - 1) (0, 0)).2 = tEL l := rfl
  have m0 := Int.mul_nonneg (show (0 : Int) ≤ k by omega) (show 0 ≤ step by omega)
  have m1 : (k : Int) * step ≤ k * 1000000000000 := Int.mul_le_mul_of_nonneg_left hs.2 (by omega)
  have hlt := curveN_lt (k := k) hok (show 0 < step by omega)
  obtain ⟨z, hz⟩ : ∃ z, t0L l + (k : Int) * step = z := ⟨_, rfl⟩
  rw [hz, ← hN] at hlt
  ((repeat (first | refine ya (by (with_reducible constructor) <;> first | rfl | decide) ?_ | apply yb | refine yc rfl ?_ | ((first | apply yd | apply ye); simp (disch := first | exact List.all_nil | omega | (simp only [go_sem]; done) | (simp only [ln, List.length_map]; omega) | (repeat' first | assumption | exact Ext.refl _ | refine Ext.app ?_ _)) only [go_sem, load_at b0, rulesC, dec_f h0]; with_reducible rfl))))
  refine cond_f rfl ?_
  ((repeat (first | refine ya (by (with_reducible constructor) <;> first | rfl | decide) ?_ | apply yb | refine yc rfl ?_ | ((first | apply yd | apply ye); simp (disch := first | exact List.all_nil | omega | (simp only [go_sem]; done) | (simp only [ln, List.length_map]; omega) | (repeat' first | assumption | exact Ext.refl _ | refine Ext.app ?_ _)) only [go_sem, load_map b0]; with_reducible rfl))))
  refine adraw_call (N := []) (firstD (rFirst_c hl1 (by omega))) ?_
  rw [List.append_nil]
  ((repeat (first | refine ya (by (with_reducible constructor) <;> first | rfl | decide) ?_ | apply yb | refine yc rfl ?_ | ((first | apply yd | apply ye); simp (disch := first | exact List.all_nil | omega | (simp only [go_sem]; done) | (simp only [ln, List.length_map]; omega) | (repeat' first | assumption | exact Ext.refl _ | refine Ext.app ?_ _)) only [go_sem, load_at b0, rulesC, et, hz]; with_reducible rfl))))
  ((repeat (first | refine ya (by (with_reducible constructor) <;> first | rfl | decide) ?_ | apply yb | refine yc rfl ?_ | ((first | apply yd | apply ye); simp (disch := first | exact List.all_nil | omega | (simp only [go_sem]; done) | (simp only [ln, List.length_map]; omega) | (repeat' first | assumption | exact Ext.refl _ | refine Ext.app ?_ _)) only [go_sem, load_map b0]; with_reducible rfl))))
  refine aops_call_to (rLast_c hl1 (by omega) (by omega)) ?_
  by_cases hin : k < N
  rotate_left 1
  · obtain rfl : k = N := by omega
    rw [Nat.sub_self] at h4
    have e1 : outN f B 0 k = (k, 0) := h4
    ((repeat (first | refine ya (by (with_reducible constructor) <;> first | rfl | decide) ?_ | apply yb | refine yc rfl ?_ | ((first | apply yd | apply ye); simp (disch := first | exact List.all_nil | omega | (simp only [go_sem]; done) | (simp only [ln, List.length_map]; omega) | (repeat' first | assumption | exact Ext.refl _ | refine Ext.app ?_ _)) only [go_sem, eE, dec_t (show tEL l < z by omega)]; with_reducible rfl))))
    refine cond_t rfl ?_
    ((repeat (first | refine ya (by (with_reducible constructor) <;> first | rfl | decide) ?_ | apply yb | refine yc rfl ?_ | ((first | apply yd | apply ye); simp (disch := first | exact List.all_nil | omega | (simp only [go_sem]; done) | (simp only [ln, List.length_map]; omega) | (repeat' first | assumption | exact Ext.refl _ | refine Ext.app ?_ _)) only [go_sem]; with_reducible rfl))))
    rw [e1]
    exact fin_2 ⟨_, rfl, xH1, ho1.weaken xG.len⟩
  have hzE := hlt.1 hin
  ((repeat (first | refine ya (by (with_reducible constructor) <;> first | rfl | decide) ?_ | apply yb | refine yc rfl ?_ | ((first | apply yd | apply ye); simp (disch := first | exact List.all_nil | omega | (simp only [go_sem]; done) | (simp only [ln, List.length_map]; omega) | (repeat' first | assumption | exact Ext.refl _ | refine Ext.app ?_ _)) only [go_sem, eE, dec_f (show ¬ tEL l < z by omega)]; with_reducible rfl))))
  refine cond_f rfl ?_
  ((repeat (first | refine ya (by (with_reducible constructor) <;> first | rfl | decide) ?_ | apply yb | refine yc rfl ?_ | ((first | apply yd | apply ye); simp (disch := first | exact List.all_nil | omega | (simp only [go_sem]; done) | (simp only [ln, List.length_map]; omega) | (repeat' first | assumption | exact Ext.refl _ | refine Ext.app ?_ _)) only [go_sem, load_map b0]; with_reducible rfl))))
  refine aops_call_to (rPositionAt_c (t := z) hl1 hok (show t0L l ≤ z by omega) (show z ≤ tEL l by omega)) ?_
  have efk : posLo (pieceOf l (atTime l z 0 (l.length - 2))) z = f k := by rw [hf, curveF_eq hok (by omega) (by rw [← hN]; exact hin), hz]
  rw [efk]
  obtain ⟨n, hn⟩ : ∃ n, N - k = n + 1 := ⟨N - k - 1, by omega⟩
  rw [hn, outN_succ] at h4
  have hoI := ho1.ints
  by_cases hq : B < f k
  · rw [if_pos hq] at h4
    ((repeat (first | refine ya (by (with_reducible constructor) <;> first | rfl | decide) ?_ | apply yb | refine yc rfl ?_ | ((first | apply yd | apply ye); simp (disch := first | exact List.all_nil | omega | (simp only [go_sem]; done) | (simp only [ln, List.length_map]; omega) | (repeat' first | assumption | exact Ext.refl _ | refine Ext.app ?_ _)) only [go_sem, hB, dec_t hq]; with_reducible rfl))))
    refine cond_t rfl ?_
    ((repeat (first | refine ya (by (with_reducible constructor) <;> first | rfl | decide) ?_ | apply yb | refine yc rfl ?_ | ((first | apply yd | apply ye); simp (disch := first | exact List.all_nil | omega | (simp only [go_sem]; done) | (simp only [ln, List.length_map]; omega) | (repeat' first | assumption | exact Ext.refl _ | refine Ext.app ?_ _)) only [go_sem]; with_reducible rfl))))
    rw [h4]
    exact fin_2 ⟨_, rfl, xH1, ho1.weaken xG.len⟩
  rw [if_neg hq] at h4
  by_cases hk : k = 2000
  · rw [if_pos hk] at h4
    ((repeat (first | refine ya (by (with_reducible constructor) <;> first | rfl | decide) ?_ | apply yb | refine yc rfl ?_ | ((first | apply yd | apply ye); simp (disch := first | exact List.all_nil | omega | (simp only [go_sem]; done) | (simp only [ln, List.length_map]; omega) | (repeat' first | assumption | exact Ext.refl _ | refine Ext.app ?_ _)) only [go_sem, hoI.len, hoI.idx, hoI.load, hB, dec_f hq]; with_reducible rfl))))
    refine cond_f rfl ?_
    ((repeat (first | refine ya (by (with_reducible constructor) <;> first | rfl | decide) ?_ | apply yb | refine yc rfl ?_ | ((first | apply yd | apply ye); simp (disch := first | exact List.all_nil | omega | (simp only [go_sem]; done) | (simp only [ln, List.length_map]; omega) | (repeat' first | assumption | exact Ext.refl _ | refine Ext.app ?_ _)) only [go_sem, hoI.len, hoI.idx, hoI.load, outTo_len, dec_t (show ((k : Nat) : Int) = 2000 by omega)]; with_reducible rfl))))
    refine cond_t rfl ?_
    ((repeat (first | refine ya (by (with_reducible constructor) <;> first | rfl | decide) ?_ | apply yb | refine yc rfl ?_ | ((first | apply yd | apply ye); simp (disch := first | exact List.all_nil | omega | (simp only [go_sem]; done) | (simp only [ln, List.length_map]; omega) | (repeat' first | assumption | exact Ext.refl _ | refine Ext.app ?_ _)) only [go_sem]; with_reducible rfl))))
    rw [h4]
    exact fin_2 ⟨_, rfl, xH1, OwnI.nil _ _⟩
  rw [if_neg hk] at h4
  have hpush := ho1.push (by rw [outTo_len]; omega) (f k)
  ((repeat (first | refine ya (by (with_reducible constructor) <;> first | rfl | decide) ?_ | apply yb | refine yc rfl ?_ | ((first | apply yd | apply ye); simp (disch := first | exact List.all_nil | omega | (simp only [go_sem]; done) | (simp only [ln, List.length_map]; omega) | (repeat' first | assumption | exact Ext.refl _ | refine Ext.app ?_ _)) only [go_sem, hoI.len, hoI.idx, hoI.load, hB, dec_f hq]; with_reducible rfl))))
  refine cond_f rfl ?_
  ((repeat (first | refine ya (by (with_reducible constructor) <;> first | rfl | decide) ?_ | apply yb | refine yc rfl ?_ | ((first | apply yd | apply ye); simp (disch := first | exact List.all_nil | omega | (simp only [go_sem]; done) | (simp only [ln, List.length_map]; omega) | (repeat' first | assumption | exact Ext.refl _ | refine Ext.app ?_ _)) only [go_sem, hoI.len, hoI.idx, hoI.load, outTo_len, dec_f (show ¬ ((k : Nat) : Int) = 2000 by omega)]; with_reducible rfl))))
  refine cond_f rfl ?_
  ((repeat (first | refine ya (by (with_reducible constructor) <;> first | rfl | decide) ?_ | apply yb | refine yc rfl ?_ | ((first | apply yd | apply ye); simp (disch := first | exact List.all_nil | omega | (simp only [go_sem]; done) | (simp only [ln, List.length_map]; omega) | (repeat' first | assumption | exact Ext.refl _ | refine Ext.app ?_ _)) only [go_sem, hpush]; with_reducible rfl))))
  refine ⟨by omega, pushV H1 (outTo f k).length, by simp [forget], by omega, by omega, ?_, ho1.ext x1 _, ?_⟩
  · rw [h4, show N - (k + 1) = n by omega]
  · rw [outTo_succ]; exact ho1.pushed x1 _
end
end Go.Lq

namespace Go.Lq
open Go
open Go.Proofs

def yL (deg : Int) (x : List Int) (q : Int) : Int := min (max ((2 * valueL deg x q + denL deg) / (2 * denL deg)) (-32767)) 32767
def midL (qs : List Int) (y : Int → Int) (i : Nat) : List Int := (qs.take i).map y ++ qs.drop i
theorem midL_len {qs : List Int} {y : Int → Int} {i : Nat} : (midL qs y i).length = qs.length := by
  unfold midL; simp; omega
theorem midL_zero {qs : List Int} {y : Int → Int} : midL qs y 0 = qs := by simp [midL]
theorem midL_all {qs : List Int} {y : Int → Int} : midL qs y qs.length = qs.map y := by simp [midL]
theorem midL_getD {qs : List Int} {y : Int → Int} {i : Nat} (h : i < qs.length) : (midL qs y i).getD i 0 = qs.getD i 0 := by
  unfold midL
  rw [List.getD_eq_getElem?_getD, List.getElem?_append_right (by simp; omega), List.getD_eq_getElem?_getD, List.getElem?_drop]
  have : i + (i - ((qs.take i).map y).length) = i := by simp; omega
  rw [this]
theorem midL_set {qs : List Int} {y : Int → Int} {i : Nat} (h : i < qs.length) : (midL qs y i).set i (y (qs.getD i 0)) = midL qs y (i + 1) := by
  have hl : ((qs.take i).map y).length = i := by simp; omega
  unfold midL
  rw [List.set_append_right _ _ (by omega), hl, Nat.sub_self, List.drop_eq_getElem_cons h, List.set_cons_zero]
  rw [List.take_add_one, List.getElem?_eq_getElem h, List.map_append, List.getD_eq_getElem?_getD, List.getElem?_eq_getElem h]
  simp
theorem outN_bound {f : Nat → Int} {B : Int} : ∀ {n k j : Nat}, k ≤ j → j < (outN f B k n).1 → f j ≤ B ∧ j < k + n
  | 0, k, j, h1, h2 => by have : j < k := h2; omega
  | n + 1, k, j, h1, h2 => by
    rw [outN_succ] at h2
    by_cases hq : B < f k
    · rw [if_pos hq] at h2
      have : j < k := h2
      omega
    · rw [if_neg hq] at h2
      by_cases hk : k = 2000
      · rw [if_pos hk] at h2
        have : j < 0 := h2
        omega
      · rw [if_neg hk] at h2
        by_cases e : j = k
        · subst e; exact ⟨by omega, by omega⟩
        · have := outN_bound (n := n) (k := k + 1) (j := j) (by omega) h2
          exact ⟨this.1, by omega⟩
theorem posLo_nn {p : (Int × Int) × (Int × Int)} {t : Int} (h1 : 0 ≤ p.1.1) (h2 : p.1.1 ≤ p.2.1) (h3 : p.1.2 < p.2.2) (h4 : p.1.2 ≤ t) : 0 ≤ posLo p t := by
  unfold posLo posN
  have := Int.ediv_nonneg (Int.mul_nonneg (show 0 ≤ t - p.1.2 by omega) (show 0 ≤ 64 * (p.2.1 - p.1.1) by omega)) (show 0 ≤ p.2.2 - p.1.2 by omega)
  omega
theorem atTime_in {l : List (Int × Int)} {t : Int} : ∀ {k i : Nat}, i + k + 1 < l.length → (l.getD i (0, 0)).2 ≤ t → atTime l t i k + 1 < l.length ∧ (l.getD (atTime l t i k) (0, 0)).2 ≤ t
  | 0, i, h, h2 => ⟨by show i + 1 < _; omega, h2⟩
  | k + 1, i, h, h2 => by
    rw [atTime_succ]
    split
    · exact atTime_in (by omega) (by omega)
    · exact ⟨by omega, h2⟩
theorem outs_in {kind deg num den step count : Int} {l : List (Int × Int)} (he : rulesErrL kind deg num den step l = 0) (i : Nat) (hi : i < (outsR kind num den step l count).1.length) :
    0 ≤ (outsR kind num den step l count).1.getD i 0 ∧ (outsR kind num den step l count).1.getD i 0 ≤ 64 * (count - 1) := by
  unfold outsR outsL at hi ⊢
  rw [outTo_len] at hi
  have hb := outN_bound (Nat.zero_le i) hi
  have e : (outTo (outF kind num den step l) (outN (outF kind num den step l) (64 * (count - 1)) 0 (outC kind step l)).1).getD i 0 = outF kind num den step l i := by
    unfold outTo
    rw [List.getD_eq_getElem?_getD, List.getElem?_map, List.getElem?_range hi]; rfl
  rw [e]
  refine ⟨?_, hb.1⟩
  unfold outF
  by_cases h0 : kind = 0
  · obtain ⟨h1, h2, _⟩ := rules_ratio he h0
    rw [if_pos h0]
    exact Int.ediv_nonneg (Int.mul_nonneg (by omega) (by omega)) (by omega)
  · obtain ⟨hok, hs, _⟩ := rules_curve he h0
    rw [if_neg h0]
    have hN : i < curveN l step := by have := hb.2; unfold outC at this; rw [if_neg h0] at this; omega
    rw [curveF_eq hok (by omega) hN]
    have hlo := hok.lo
    have ht := Int.mul_nonneg (show (0 : Int) ≤ i by omega) (show 0 ≤ step by omega)
    obtain ⟨a1, a2⟩ := atTime_in (l := l) (t := t0L l + i * step) (k := l.length - 2) (i := 0) (by omega) (show t0L l ≤ _ by omega)
    have p1 := hok.pos _ (show atTime l (t0L l + i * step) 0 (l.length - 2) < l.length by omega)
    have p2 := hok.posUp _ a1
    have p3 := hok.timeUp _ a1
    exact posLo_nn p1.1 (Int.le_of_lt p2) p3 a2
end Go.Lq

namespace Go.Lq
open Go
open Go.Proofs

theorem cells3 : Tryd.prog.cellsOf 3 = 1 := by kernel_rfl
set_option maxRecDepth 100000 in
theorem repMap {H : AHeap} {s : Value} (h : Rep Tryd.prog H 24 [s]) : ∃ l, Pairs H l s ∧ l.length ≤ maxLen := by
  obtain ⟨_, hf⟩ := h.struct_inv Tryd.underlying24
  have h0 : Rep Tryd.prog H 22 (([s].drop 0).take (Tryd.prog.cellsOf 22)) := hf 0 _ rfl
  rw [show Tryd.prog.cellsOf 22 = 1 by kernel_rfl] at h0
  have h1 : Rep Tryd.prog H 22 [s] := h0
  obtain ⟨l, h2, h3, _⟩ := (RepA.of_slice Tryd.underlying22 h1).pairs Tryd.underlying22 Tryd.underlying72 (by kernel_rfl) rfl rfl rfl rfl Tryd.underlying3 Tryd.underlying3 cells3 cells3
  exact ⟨l, h2, h3⟩
set_option maxRecDepth 100000 in
theorem repRules {H : AHeap} {v : Value} (h : RepA Tryd.prog H 26 v) : ∃ kind deg num den step s l, v = rulesV kind deg num den step s ∧ Pairs H l s ∧ l.length ≤ maxLen := by
  obtain ⟨acs, rfl, hr⟩ := h.struct Tryd.underlying26
  obtain ⟨hl, hf⟩ := hr.struct_inv Tryd.underlying26
  rw [show Tryd.prog.cellsOf 26 = 6 by kernel_rfl] at hl
  match acs, hl with
  | [a, b, c, d, e, s], _ =>
    have h0 : Rep Tryd.prog H 3 (([a, b, c, d, e, s].drop 0).take (Tryd.prog.cellsOf 3)) := hf 0 _ rfl
    have h1 : Rep Tryd.prog H 3 (([a, b, c, d, e, s].drop 1).take (Tryd.prog.cellsOf 3)) := hf 1 _ rfl
    have h2 : Rep Tryd.prog H 3 (([a, b, c, d, e, s].drop 2).take (Tryd.prog.cellsOf 3)) := hf 2 _ rfl
    have h3 : Rep Tryd.prog H 3 (([a, b, c, d, e, s].drop 3).take (Tryd.prog.cellsOf 3)) := hf 3 _ rfl
    have h4 : Rep Tryd.prog H 3 (([a, b, c, d, e, s].drop 4).take (Tryd.prog.cellsOf 3)) := hf 4 _ rfl
    have h5 : Rep Tryd.prog H 24 (([a, b, c, d, e, s].drop 5).take (Tryd.prog.cellsOf 24)) := hf 5 _ rfl
    rw [cells3] at h0 h1 h2 h3 h4
    rw [show Tryd.prog.cellsOf 24 = 1 by kernel_rfl] at h5
    obtain ⟨n0, e0, _⟩ := h0.int_inv Tryd.underlying3
    obtain ⟨n1, e1, _⟩ := h1.int_inv Tryd.underlying3
    obtain ⟨n2, e2, _⟩ := h2.int_inv Tryd.underlying3
    obtain ⟨n3, e3, _⟩ := h3.int_inv Tryd.underlying3
    obtain ⟨n4, e4, _⟩ := h4.int_inv Tryd.underlying3
    have e0' : [a] = [.int .i64 n0] := e0
    have e1' : [b] = [.int .i64 n1] := e1
    have e2' : [c] = [.int .i64 n2] := e2
    have e3' : [d] = [.int .i64 n3] := e3
    have e4' : [e] = [.int .i64 n4] := e4
    cases e0'; cases e1'; cases e2'; cases e3'; cases e4'
    obtain ⟨l, h6, h7⟩ := repMap (s := s) h5
    exact ⟨n0, n1, n2, n3, n4, s, l, rfl, h6, h7⟩
theorem outN_two {f : Nat → Int} {B : Int} : ∀ {n k : Nat}, k ≤ 2000 → ((outN f B k n).2 = 0 ∧ (outN f B k n).1 ≤ k + n) ∨ outN f B k n = (0, 8)
  | 0, k, _ => .inl ⟨rfl, Nat.le_refl _⟩
  | n + 1, k, hk => by
    rw [outN_succ]
    split
    · exact .inl ⟨rfl, by show k ≤ _; omega⟩
    · split
      · exact .inr rfl
      · rcases outN_two (f := f) (B := B) (n := n) (k := k + 1) (by omega) with ⟨h1, h2⟩ | h
        · exact .inl ⟨h1, by omega⟩
        · exact .inr h
theorem outN_le {f : Nat → Int} {B : Int} : ∀ {n k : Nat}, k ≤ 2000 → (outN f B k n).1 ≤ 2000
  | 0, k, h => h
  | n + 1, k, hk => by
    rw [outN_succ]
    split
    · exact hk
    · split
      · exact Nat.zero_le _
      · exact outN_le (by omega)
theorem outs_two (kind num den step count : Int) (l : List (Int × Int)) : (outsR kind num den step l count).1.length ≤ 2000 ∧ ((outsR kind num den step l count).2 = 0 ∨ outsR kind num den step l count = ([], 8)) := by
  unfold outsR outsL
  refine ⟨by rw [outTo_len]; exact outN_le (Nat.zero_le _), ?_⟩
  rcases outN_two (f := outF kind num den step l) (B := 64 * (count - 1)) (n := outC kind step l) (k := 0) (by omega) with ⟨h1, _⟩ | h
  · exact .inl h1
  · exact .inr (by rw [h]; rfl)
theorem rPositions_c {H : AHeap} {kind deg num den step count : Int} {l : List (Int × Int)} {v : Value} (hl : Pairs H l v) (he : rulesErrL kind deg num den step l = 0) (hcnt : 0 ≤ count ∧ count ≤ 400) :
    ACall Go.Proofs.Tryd.prog 34 [rulesV kind deg num den step v, .int .i64 count] H fun u H1 =>
      u = .tuple #[retV H (outsR kind num den step l count).1.length, .bool (decide ((outsR kind num den step l count).2 = 0))] ∧ H1 = H ++ retN 1 (outsR kind num den step l count).1.length ((outsR kind num den step l count).1.map (.int .i64)) := by
  by_cases h0 : kind = 0
  · obtain ⟨h1, h2, _⟩ := rules_ratio he h0
    have e : outsR kind num den step l count = outsL (ratioF num den) 2001 count := by unfold outsR outF outC; rw [if_pos h0, if_pos h0]
    rw [e]
    exact rPositionsR_c hl h0 h1 h2 hcnt
  · obtain ⟨h1, h2, _⟩ := rules_curve he h0
    have e : outsR kind num den step l count = outsL (curveF l step) (curveN l step) count := by unfold outsR outF outC; rw [if_neg h0, if_neg h0]
    rw [e]
    exact rPositionsC_c hl h0 h1 h2 hcnt

end Go.Lq

namespace Go.Lq
open Go
open Go.Proofs

def resErrL (kind deg num den step : Int) (l : List (Int × Int)) (x : List Int) : Int := firstErr [rulesErrL kind deg num den step l, signalErrL x]
def resL (kind deg num den step : Int) (l : List (Int × Int)) (x : List Int) : List Int × Int :=
  if resErrL kind deg num den step l x = 0 then
    (if (outsR kind num den step l x.length).2 = 0 then ((outsR kind num den step l x.length).1.map (yL deg x), 0) else ([], (outsR kind num den step l x.length).2))
  else ([], resErrL kind deg num den step l x)
theorem resErr_ok {kind deg num den step : Int} {l : List (Int × Int)} {x : List Int} (h : resErrL kind deg num den step l x = 0) : rulesErrL kind deg num den step l = 0 ∧ signalErrL x = 0 := by
  unfold resErrL at h
  by_cases h1 : rulesErrL kind deg num den step l = 0
  · refine ⟨h1, ?_⟩
    rw [h1, firstErr_z] at h
    refine Decidable.byContradiction fun hn => ?_
    rw [firstErr_e hn] at h; exact hn h
  · rw [firstErr_e h1] at h; exact absurd h h1
theorem rules_deg {kind deg num den step : Int} {l : List (Int × Int)} (h : rulesErrL kind deg num den step l = 0) : deg = 1 ∨ deg = 3 := by
  by_cases h0 : kind = 0
  · exact (rules_ratio h h0).2.2
  · exact (rules_curve h h0).2.2
def kernH (G : AHeap) (m : List Int) (deg : Int) : AHeap := G ++ [.cells true 1 (m.map (.int .i64))] ++ [.cells true 0 (kern deg)]
section
variable {G : AHeap} {m : List Int} {deg : Int}
theorem kernH_s : (kernH G m deg)[G.length]? = some (.cells true 1 (m.map (.int .i64))) := by simp [kernH]
theorem kernH_k : (kernH G m deg)[G.length + 1]? = some (.cells true 0 (kern deg)) := by simp [kernH]
theorem kernH_x : Ext G (kernH G m deg) := ((Ext.refl G).app _).app _
theorem kernH_set {i : Nat} {x : Int} : (kernH G m deg).set G.length (.cells true 1 ((m.set i x).map (.int .i64))) = kernH G (m.set i x) deg := set_in
theorem kernH_ints {n : Nat} (h : m.length = n) : Ints (kernH G m deg) m (.slice (some ⟨G.length, 0, none⟩) n n) := by
  subst h
  exact ints_first (b := true) (r := []) (by rw [List.append_nil]; exact kernH_s)
theorem den_bound (deg : Int) : 0 < denL deg ∧ denL deg ≤ 1572864 := by unfold denL; split <;> omega
end

section
variable {H : AHeap} {kind deg num den step : Int} {l : List (Int × Int)} {v w : Value} {x : List Int}
set_option maxHeartbeats 8000000 in
theorem resampled_c (hx : Ext H0 H) (hl : Pairs H l v) (hb : l.length ≤ 1000000000) (hX : Ints H x w) (hxl : x.length ≤ 1000000000) : ACall Go.Proofs.Tryd.prog 23 [rulesV kind deg num den step v, w] H
    (IntsRes H (resL kind deg num den step l x).1 (resL kind deg num den step l x).2) := by
  refine ACall.intsE ?_
  (refine a23 ?_; simp only [n23, List.replicate, List.length_cons, List.length_nil, List.cons_append, List.nil_append]; first | refine q1 ?_ | refine q2 ?_ | refine q6 ?_ | refine q7 ?_ | refine qh rfl ?_ | skip)
  have g0 : (H ++ [AObj.cells true 0 (rulesC kind deg num den step v)])[H.length]? = some (.cells true 0 (rulesC kind deg num den step v)) := at_new
  have xG : Ext H (H ++ [AObj.cells true 0 (rulesC kind deg num den step v)]) := (Ext.refl H).app _
  have l6 : loadNR 6 (.pointer (some ⟨H.length, 0, none⟩)) (H ++ [AObj.cells true 0 (rulesC kind deg num den step v)]) = some (rulesV kind deg num den step v, H ++ [AObj.cells true 0 (rulesC kind deg num den step v)]) := loadN_at g0 (by simp [rulesC])
  ((repeat (first | refine ya (by (with_reducible constructor) <;> first | rfl | decide) ?_ | apply yb | refine yc rfl ?_ | ((first | apply yd | apply ye); simp (disch := first | exact List.all_nil | omega | (simp only [go_sem]; done) | (simp only [ln, List.length_map]; omega) | (repeat' first | assumption | exact Ext.refl _ | refine Ext.app ?_ _)) only [go_sem, box_rules hl.atom, l6]; with_reducible rfl))))
  generalize (H ++ [AObj.cells true 0 (rulesC kind deg num den step v)] : AHeap) = G at g0 xG l6
  refine aops_call_to (checkRules_c (hl.ext xG) hb) ?_
  ((repeat (first | refine ya (by (with_reducible constructor) <;> first | rfl | decide) ?_ | apply yb | refine yc rfl ?_ | ((first | apply yd | apply ye); simp (disch := first | exact List.all_nil | omega | (simp only [go_sem]; done) | (simp only [ln, List.length_map]; omega) | (repeat' first | assumption | exact Ext.refl _ | refine Ext.app ?_ _)) only [go_sem]; with_reducible rfl))))
  refine aops_call_to (signalErr_c (hX.ext xG) hxl) ?_
  ((repeat (first | refine ya (by (with_reducible constructor) <;> first | rfl | decide) ?_ | apply yb | refine yc rfl ?_ | ((first | apply yd | apply ye); simp (disch := first | exact List.all_nil | omega | (simp only [go_sem]; done) | (simp only [ln, List.length_map]; omega) | (repeat' first | assumption | exact Ext.refl _ | refine Ext.app ?_ _)) only [go_sem]; with_reducible rfl))))
  refine aops_call_to (first_c (l := [_, _]) (Ints.last (l := [_, _]) 2) (by simp)) ?_
  have he : firstErr [rulesErrL kind deg num den step l, signalErrL x] = resErrL kind deg num den step l x := rfl
  rw [he]
  have x2 : Ext G (G ++ [AObj.cells true 1 [.int .i64 (rulesErrL kind deg num den step l), .int .i64 (signalErrL x)]]) := (Ext.refl G).app _
  generalize (G ++ [AObj.cells true 1 [.int .i64 (rulesErrL kind deg num den step l), .int .i64 (signalErrL x)]] : AHeap) = G2 at x2
  have xH2 := xG.trans x2
  have k0 := x2.cell g0
  have k6 : loadNR 6 (.pointer (some ⟨H.length, 0, none⟩)) G2 = some (rulesV kind deg num den step v, G2) := loadN_at k0 (by simp [rulesC])
  ((repeat (first | refine ya (by (with_reducible constructor) <;> first | rfl | decide) ?_ | apply yb | refine yc rfl ?_ | ((first | apply yd | apply ye); simp (disch := first | exact List.all_nil | omega | (simp only [go_sem]; done) | (simp only [ln, List.length_map]; omega) | (repeat' first | assumption | exact Ext.refl _ | refine Ext.app ?_ _)) only [go_sem]; with_reducible rfl))))
  refine cond_p rfl (fun hne => ?_) (fun heq => ?_)
  · have ev : resL kind deg num den step l x = ([], resErrL kind deg num den step l x) := by unfold resL; rw [if_neg hne]
    rw [ev]
    ((repeat (first | refine ya (by (with_reducible constructor) <;> first | rfl | decide) ?_ | apply yb | refine yc rfl ?_ | ((first | apply yd | apply ye); simp (disch := first | exact List.all_nil | omega | (simp only [go_sem]; done) | (simp only [ln, List.length_map]; omega) | (repeat' first | assumption | exact Ext.refl _ | refine Ext.app ?_ _)) only [go_sem]; with_reducible rfl))))
    exact fin_2 ⟨_, rfl, xH2, OwnI.nil _ _⟩
  have hz := Decidable.not_not.1 heq
  obtain ⟨hr, hs⟩ := resErr_ok hz
  have hd := rules_deg hr
  obtain ⟨s1, s2⟩ := signalErr_ok hs
  have hX2 := hX.ext xH2
  ((repeat (first | refine ya (by (with_reducible constructor) <;> first | rfl | decide) ?_ | apply yb | refine yc rfl ?_ | ((first | apply yd | apply ye); simp (disch := first | exact List.all_nil | omega | (simp only [go_sem]; done) | (simp only [ln, List.length_map]; omega) | (repeat' first | assumption | exact Ext.refl _ | refine Ext.app ?_ _)) only [go_sem, hX2.len, hX2.idx, hX2.load, k6]; with_reducible rfl))))
  refine aops_call ((outputs_c (count := (x.length : Int)) (hl.ext xH2) hr ⟨by omega, by omega⟩).mono fun u G3 hu => ?_)
  obtain ⟨rfl, rfl⟩ := hu
  obtain ⟨ol, otw⟩ := outs_two kind num den step (x.length : Int) l
  have hin := outs_in (count := (x.length : Int)) hr
  have ev : resL kind deg num den step l x = if (outsR kind num den step l x.length).2 = 0 then ((outsR kind num den step l x.length).1.map (yL deg x), 0) else ([], (outsR kind num den step l x.length).2) := by unfold resL; rw [if_pos hz]
  rw [ev]
  rcases otw with h0 | h8
  rotate_left 1
  · rw [h8]
    ((repeat (first | refine ya (by (with_reducible constructor) <;> first | rfl | decide) ?_ | apply yb | refine yc rfl ?_ | ((first | apply yd | apply ye); simp (disch := first | exact List.all_nil | omega | (simp only [go_sem]; done) | (simp only [ln, List.length_map]; omega) | (repeat' first | assumption | exact Ext.refl _ | refine Ext.app ?_ _)) only [go_sem]; with_reducible rfl))))
    refine cond_t rfl ?_
    ((repeat (first | refine ya (by (with_reducible constructor) <;> first | rfl | decide) ?_ | apply yb | refine yc rfl ?_ | ((first | apply yd | apply ye); simp (disch := first | exact List.all_nil | omega | (simp only [go_sem]; done) | (simp only [ln, List.length_map]; omega) | (repeat' first | assumption | exact Ext.refl _ | refine Ext.app ?_ _)) only [go_sem]; with_reducible rfl))))
    exact fin_2 ⟨_, rfl, xH2.app _, OwnI.nil _ _⟩
  rw [h0, if_pos rfl]
  generalize (outsR kind num den step l x.length).1 = qs at ol hin ⊢
  ((repeat (first | refine ya (by (with_reducible constructor) <;> first | rfl | decide) ?_ | apply yb | refine yc rfl ?_ | ((first | apply yd | apply ye); simp (disch := first | exact List.all_nil | omega | (simp only [go_sem]; done) | (simp only [ln, List.length_map]; omega) | (repeat' first | assumption | exact Ext.refl _ | refine Ext.app ?_ _)) only [go_sem]; with_reducible rfl))))
  refine cond_f rfl ?_
  have xG3 : Ext G2 (G2 ++ retN 1 qs.length (qs.map (.int .i64))) := ⟨_, rfl⟩
  have hx3 := (hx.trans xH2).trans xG3
  have n0 := xG3.cell k0
  have hdg : loadR (.pointer (some ⟨H.length, 1, none⟩)) (G2 ++ retN 1 qs.length (qs.map (.int .i64))) = some (.int .i64 deg, G2 ++ retN 1 qs.length (qs.map (.int .i64))) := by rw [load_at n0]; rfl
  have hR : Ints (G2 ++ retN 1 qs.length (qs.map (.int .i64)) ++ [AObj.cells true 0 (kern deg)]) qs (retV G2 qs.length) := Ints.ret.ext ((Ext.refl _).app _)
  ((repeat (first | refine ya (by (with_reducible constructor) <;> first | rfl | decide) ?_ | apply yb | refine yc rfl ?_ | ((first | apply yd | apply ye); simp (disch := first | exact List.all_nil | omega | (simp only [go_sem]; done) | (simp only [ln, List.length_map]; omega) | (repeat' first | assumption | exact Ext.refl _ | refine Ext.app ?_ _)) only [go_sem, hR.len, hR.idx, hR.load, hdg, kern_idx hd, kern_load hx3 hd, store_kern]; with_reducible rfl))))
  by_cases hn : qs.length = 0
  · have hq0 : qs = [] := List.length_eq_zero_iff.1 hn
    subst hq0
    refine awp_loop_n [false, false, false, false, false, false, false, true, false, false, false, false, false, false, false, false, false, false, false, false, false, false, false, false, false, false, false, false, false, false, false, false, false, false, false, false, true, true, true, false, false, false, false, false, false, false, false, false, false, false, false, false, false, false, false, false, false, false, false, false, false, false, false] 0 (fun i e H' => H' = G2 ++ retN 1 0 [] ++ [AObj.cells true 0 (kern deg)] ∧ e = [junk, junk, junk, junk, junk, junk, junk, retV G2 0, junk, junk, junk, junk, junk, junk, junk, junk, junk, junk, junk, junk, junk, junk, junk, junk, junk, junk, junk, junk, junk, junk, junk, junk, junk, junk, junk, junk, retV G2 0, .int .i64 ((0 : Nat) : Int), .int .i64 i, junk, junk, junk, junk, junk, junk, junk, junk, junk, junk, junk, junk, junk, junk, junk, junk, junk, junk, junk, junk, junk, junk, junk, junk]) ?_ ?_
    · exact ⟨rfl, by simp [forget]⟩
    rintro i e H' hi ⟨rfl, rfl⟩
    obtain rfl : i = 0 := by omega
    ((repeat (first | refine ya (by (with_reducible constructor) <;> first | rfl | decide) ?_ | apply yb | refine yc rfl ?_ | ((first | apply yd | apply ye); simp (disch := first | exact List.all_nil | omega | (simp only [go_sem]; done) | (simp only [ln, List.length_map]; omega) | (repeat' first | assumption | exact Ext.refl _ | refine Ext.app ?_ _)) only [go_sem, dec_f (show ¬ ((0 : Nat) : Int) < ((0 : Nat) : Int) by decide)]; with_reducible rfl))))
    refine cond_f rfl ?_
    ((repeat (first | refine ya (by (with_reducible constructor) <;> first | rfl | decide) ?_ | apply yb | refine yc rfl ?_ | ((first | apply yd | apply ye); simp (disch := first | exact List.all_nil | omega | (simp only [go_sem]; done) | (simp only [ln, List.length_map]; omega) | (repeat' first | assumption | exact Ext.refl _ | refine Ext.app ?_ _)) only [go_sem]; with_reducible rfl))))
    exact fin_2 ⟨_, rfl, (xH2.app _).app _, OwnI.nil _ _⟩
  have erV : retV G2 qs.length = .slice (some ⟨G2.length, 0, none⟩) qs.length qs.length := by unfold retV; rw [if_neg hn]
  have erN : G2 ++ retN 1 qs.length (qs.map (.int .i64)) ++ [AObj.cells true 0 (kern deg)] = kernH G2 qs deg := by unfold retN kernH; rw [if_neg hn]
  have erL : (G2 ++ retN 1 qs.length (qs.map (.int .i64))).length = G2.length + 1 := by unfold retN; rw [if_neg hn]; simp
  rw [erN, erL, erV]
  obtain ⟨n, hnn⟩ : ∃ n, qs.length = n := ⟨_, rfl⟩
  rw [hnn]
  refine awp_loop_n [false, true, false, false, false, false, false, true, false, true, false, false, false, false, false, false, false, false, false, false, false, false, false, false, false, false, false, false, false, false, false, false, false, false, false, false, true, true, true, false, false, false, false, false, false, false, false, false, false, false, false, false, false, false, false, false, false, false, false, false, false, false, false] n (fun i e H' => H' = kernH G2 (midL qs (yL deg x) i) deg ∧ e = [junk, w, junk, junk, junk, junk, junk, .slice (some ⟨G2.length, 0, none⟩) n n, junk, .pointer (some ⟨G2.length + 1, 0, none⟩), junk, junk, junk, junk, junk, junk, junk, junk, junk, junk, junk, junk, junk, junk, junk, junk, junk, junk, junk, junk, junk, junk, junk, junk, junk, junk, .slice (some ⟨G2.length, 0, none⟩) n n, .int .i64 n, .int .i64 i, junk, junk, junk, junk, junk, junk, junk, junk, junk, junk, junk, junk, junk, junk, junk, junk, junk, junk, junk, junk, junk, junk, junk, junk]) ?_ ?_
  · exact ⟨by rw [midL_zero], by simp [forget]⟩
  rintro i e H' hi ⟨rfl, rfl⟩
  have hml : (midL qs (yL deg x) i).length = n := by rw [midL_len, hnn]
  have ho := kernH_ints (G := G2) (deg := deg) hml
  have hXm := hX2.ext (kernH_x (G := G2) (m := midL qs (yL deg x) i) (deg := deg))
  ((repeat (first | refine ya (by (with_reducible constructor) <;> first | rfl | decide) ?_ | apply yb | refine yc rfl ?_ | ((first | apply yd | apply ye); simp (disch := first | exact List.all_nil | omega | (simp only [go_sem]; done) | (simp only [ln, List.length_map]; omega) | (repeat' first | assumption | exact Ext.refl _ | refine Ext.app ?_ _)) only [go_sem]; with_reducible rfl))))
  refine cond_p rfl (fun hlt => ?_) (fun hge => ?_)
  · have hi' : i < qs.length := by omega
    have hq := hin i hi'
    have eg := midL_getD (y := yL deg x) hi'
    have vb := value_bound (q := qs.getD i 0) hd s2 hq.1
    have db := den_bound deg
    have kk := kernH_k (G := G2) (m := midL qs (yL deg x) i) (deg := deg)
    have fb := ediv_bound (n := 2 * valueL deg x (qs.getD i 0) + denL deg) (b := 2 * denL deg) (m := 4000000000000000000) (by omega) ⟨by omega, by omega⟩
    have hst := store_cellI (n := n) (c := n) (i := i) (kernH_s (G := G2) (m := midL qs (yL deg x) i) (deg := deg)) (by omega) (yL deg x (qs.getD i 0))
    rw [kernH_set, midL_set hi'] at hst
    have ey : min (max ((2 * valueL deg x (qs.getD i 0) + denL deg) / (2 * denL deg)) (-32767)) 32767 = yL deg x (qs.getD i 0) := rfl
    ((repeat (first | refine ya (by (with_reducible constructor) <;> first | rfl | decide) ?_ | apply yb | refine yc rfl ?_ | ((first | apply yd | apply ye); simp (disch := first | exact List.all_nil | omega | (simp only [go_sem]; done) | (simp only [ln, List.length_map]; omega) | (repeat' first | assumption | exact Ext.refl _ | refine Ext.app ?_ _)) only [go_sem, ho.len, ho.idx, ho.load, eg, kern_all kk]; with_reducible rfl))))
    refine adraw_call (N := []) (firstD (value_c hd hXm s1 s2 hq)) ?_
    rw [List.append_nil]
    ((repeat (first | refine ya (by (with_reducible constructor) <;> first | rfl | decide) ?_ | apply yb | refine yc rfl ?_ | ((first | apply yd | apply ye); simp (disch := first | exact List.all_nil | omega | (simp only [go_sem]; done) | (simp only [ln, List.length_map]; omega) | (repeat' first | assumption | exact Ext.refl _ | refine Ext.app ?_ _)) only [go_sem, kern_den kk]; with_reducible rfl))))
    refine adraw_call (N := []) (firstD (rfloor_c _ _ (by omega) (by omega))) ?_
    rw [List.append_nil]
    ((repeat (first | refine ya (by (with_reducible constructor) <;> first | rfl | decide) ?_ | apply yb | refine yc rfl ?_ | ((first | apply yd | apply ye); simp (disch := first | exact List.all_nil | omega | (simp only [go_sem]; done) | (simp only [ln, List.length_map]; omega) | (repeat' first | assumption | exact Ext.refl _ | refine Ext.app ?_ _)) only [go_sem, ho.len, ho.idx, ho.load, ey, hst]; with_reducible rfl))))
    exact ⟨by omega, rfl, by simp [forget]⟩
  · obtain rfl : i = n := by omega
    ((repeat (first | refine ya (by (with_reducible constructor) <;> first | rfl | decide) ?_ | apply yb | refine yc rfl ?_ | ((first | apply yd | apply ye); simp (disch := first | exact List.all_nil | omega | (simp only [go_sem]; done) | (simp only [ln, List.length_map]; omega) | (repeat' first | assumption | exact Ext.refl _ | refine Ext.app ?_ _)) only [go_sem]; with_reducible rfl))))
    have em : midL qs (yL deg x) i = qs.map (yL deg x) := by rw [← hnn]; exact midL_all
    rw [em]
    refine fin_2 ⟨_, rfl, xH2.trans kernH_x, ?_⟩
    refine ⟨by simp, .inr ⟨G2.length, by simp [hnn], xH2.len, by simp; omega, ?_⟩⟩
    exact kernH_s
end
end Go.Lq

namespace Go.Lq
open Go
open Go.Proofs

theorem res_r {kind deg num den step : Int} {l : List (Int × Int)} {x : List Int} (h : rulesErrL kind deg num den step l ≠ 0) : resL kind deg num den step l x = ([], rulesErrL kind deg num den step l) := by
  have e : resErrL kind deg num den step l x = rulesErrL kind deg num den step l := firstErr_e h _
  unfold resL; rw [e, if_neg h]
theorem res_s {kind deg num den step : Int} {l : List (Int × Int)} {x : List Int} (h : rulesErrL kind deg num den step l = 0) (hs : signalErrL x ≠ 0) : resL kind deg num den step l x = ([], signalErrL x) := by
  have e : resErrL kind deg num den step l x = signalErrL x := by unfold resErrL; rw [h, firstErr_z, firstErr_e hs]
  unfold resL; rw [e, if_neg hs]
theorem res_z {kind deg num den step : Int} {l : List (Int × Int)} {x : List Int} (h : rulesErrL kind deg num den step l = 0) (hs : signalErrL x = 0) :
    resL kind deg num den step l x = if (outsR kind num den step l x.length).2 = 0 then ((outsR kind num den step l x.length).1.map (yL deg x), 0) else ([], (outsR kind num den step l x.length).2) := by
  have e : resErrL kind deg num den step l x = 0 := by unfold resErrL; rw [h, firstErr_z, hs, firstErr_z]; rfl
  unfold resL; rw [if_pos e]

section
variable {H : AHeap} {kind deg num den step : Int} {l : List (Int × Int)} {v w : Value} {x : List Int}
set_option maxHeartbeats 8000000 in
theorem rResampled_c (hl : Pairs H l v) (hb : l.length ≤ 1000000000) (hX : Ints H x w) (hxl : x.length ≤ 1000000000) : ACall Go.Proofs.Tryd.prog 26 [rulesV kind deg num den step v, w] H
    (IntsRes H (resL kind deg num den step l x).1 (resL kind deg num den step l x).2) := by
  refine ACall.intsE ?_
  (refine a26 ?_; simp only [n26, List.replicate, List.length_cons, List.length_nil, List.cons_append, List.nil_append]; first | refine q1 ?_ | refine q2 ?_ | refine q6 ?_ | refine q7 ?_ | refine qh rfl ?_ | skip)
  have g0 : (H ++ [AObj.cells true 0 (rulesC kind deg num den step v)])[H.length]? = some (.cells true 0 (rulesC kind deg num den step v)) := at_new
  have xG : Ext H (H ++ [AObj.cells true 0 (rulesC kind deg num den step v)]) := (Ext.refl H).app _
  have l6 : loadNR 6 (.pointer (some ⟨H.length, 0, none⟩)) (H ++ [AObj.cells true 0 (rulesC kind deg num den step v)]) = some (rulesV kind deg num den step v, H ++ [AObj.cells true 0 (rulesC kind deg num den step v)]) := loadN_at g0 (by simp [rulesC])
  ((repeat (first | refine ya (by (with_reducible constructor) <;> first | rfl | decide) ?_ | apply yb | refine yc rfl ?_ | ((first | apply yd | apply ye); simp (disch := first | exact List.all_nil | omega | (simp only [go_sem]; done) | (simp only [ln, List.length_map]; omega) | (repeat' first | assumption | exact Ext.refl _ | refine Ext.app ?_ _)) only [go_sem, box_rules hl.atom, l6]; with_reducible rfl))))
  generalize (H ++ [AObj.cells true 0 (rulesC kind deg num den step v)] : AHeap) = G at g0 xG l6
  have hXG := hX.ext xG
  refine aops_call_to (rRulesErr_c (hl.ext xG) hb) ?_
  by_cases hr : rulesErrL kind deg num den step l = 0
  rotate_left 1
  · rw [res_r hr]
    ((repeat (first | refine ya (by (with_reducible constructor) <;> first | rfl | decide) ?_ | apply yb | refine yc rfl ?_ | ((first | apply yd | apply ye); simp (disch := first | exact List.all_nil | omega | (simp only [go_sem]; done) | (simp only [ln, List.length_map]; omega) | (repeat' first | assumption | exact Ext.refl _ | refine Ext.app ?_ _)) only [go_sem, dec_t (show rulesErrL kind deg num den step l ≠ 0 from hr)]; with_reducible rfl))))
    refine cond_t rfl ?_
    ((repeat (first | refine ya (by (with_reducible constructor) <;> first | rfl | decide) ?_ | apply yb | refine yc rfl ?_ | ((first | apply yd | apply ye); simp (disch := first | exact List.all_nil | omega | (simp only [go_sem]; done) | (simp only [ln, List.length_map]; omega) | (repeat' first | assumption | exact Ext.refl _ | refine Ext.app ?_ _)) only [go_sem]; with_reducible rfl))))
    exact fin_2 ⟨_, rfl, xG, OwnI.nil _ _⟩
  ((repeat (first | refine ya (by (with_reducible constructor) <;> first | rfl | decide) ?_ | apply yb | refine yc rfl ?_ | ((first | apply yd | apply ye); simp (disch := first | exact List.all_nil | omega | (simp only [go_sem]; done) | (simp only [ln, List.length_map]; omega) | (repeat' first | assumption | exact Ext.refl _ | refine Ext.app ?_ _)) only [go_sem, hr]; with_reducible rfl))))
  refine cond_f rfl ?_
  ((repeat (first | refine ya (by (with_reducible constructor) <;> first | rfl | decide) ?_ | apply yb | refine yc rfl ?_ | ((first | apply yd | apply ye); simp (disch := first | exact List.all_nil | omega | (simp only [go_sem]; done) | (simp only [ln, List.length_map]; omega) | (repeat' first | assumption | exact Ext.refl _ | refine Ext.app ?_ _)) only [go_sem]; with_reducible rfl))))
  refine aops_call_to (refSignalErr_c hXG hxl) ?_
  by_cases hs : signalErrL x = 0
  rotate_left 1
  · rw [res_s hr hs]
    ((repeat (first | refine ya (by (with_reducible constructor) <;> first | rfl | decide) ?_ | apply yb | refine yc rfl ?_ | ((first | apply yd | apply ye); simp (disch := first | exact List.all_nil | omega | (simp only [go_sem]; done) | (simp only [ln, List.length_map]; omega) | (repeat' first | assumption | exact Ext.refl _ | refine Ext.app ?_ _)) only [go_sem, dec_t (show signalErrL x ≠ 0 from hs)]; with_reducible rfl))))
    refine cond_t rfl ?_
    ((repeat (first | refine ya (by (with_reducible constructor) <;> first | rfl | decide) ?_ | apply yb | refine yc rfl ?_ | ((first | apply yd | apply ye); simp (disch := first | exact List.all_nil | omega | (simp only [go_sem]; done) | (simp only [ln, List.length_map]; omega) | (repeat' first | assumption | exact Ext.refl _ | refine Ext.app ?_ _)) only [go_sem]; with_reducible rfl))))
    exact fin_2 ⟨_, rfl, xG, OwnI.nil _ _⟩
  have hd := rules_deg hr
  obtain ⟨s1, s2⟩ := signalErr_ok hs
  ((repeat (first | refine ya (by (with_reducible constructor) <;> first | rfl | decide) ?_ | apply yb | refine yc rfl ?_ | ((first | apply yd | apply ye); simp (disch := first | exact List.all_nil | omega | (simp only [go_sem]; done) | (simp only [ln, List.length_map]; omega) | (repeat' first | assumption | exact Ext.refl _ | refine Ext.app ?_ _)) only [go_sem, hs]; with_reducible rfl))))
  refine cond_f rfl ?_
  ((repeat (first | refine ya (by (with_reducible constructor) <;> first | rfl | decide) ?_ | apply yb | refine yc rfl ?_ | ((first | apply yd | apply ye); simp (disch := first | exact List.all_nil | omega | (simp only [go_sem]; done) | (simp only [ln, List.length_map]; omega) | (repeat' first | assumption | exact Ext.refl _ | refine Ext.app ?_ _)) only [go_sem, hXG.len, hXG.idx, hXG.load, l6]; with_reducible rfl))))
  refine aops_call ((rPositions_c (count := (x.length : Int)) (hl.ext xG) hr ⟨by omega, by omega⟩).mono fun u G3 hu => ?_)
  obtain ⟨rfl, rfl⟩ := hu
  obtain ⟨ol, otw⟩ := outs_two kind num den step (x.length : Int) l
  have hin := outs_in (count := (x.length : Int)) hr
  rw [res_z hr hs]
  have hW : Ints (G ++ retN 1 (outsR kind num den step l x.length).1.length ((outsR kind num den step l x.length).1.map (.int .i64))) (outsR kind num den step l x.length).1 (retV G (outsR kind num den step l x.length).1.length) := Ints.ret
  have x4 : Ext G (G ++ retN 1 (outsR kind num den step l x.length).1.length ((outsR kind num den step l x.length).1.map (.int .i64))) := ⟨_, rfl⟩
  generalize (G ++ retN 1 (outsR kind num den step l x.length).1.length ((outsR kind num den step l x.length).1.map (.int .i64)) : AHeap) = G4 at hW x4
  generalize retV G (outsR kind num den step l x.length).1.length = wv at hW
  have xH4 := xG.trans x4
  rcases otw with h0 | h8
  rotate_left 1
  · rw [h8]
    ((repeat (first | refine ya (by (with_reducible constructor) <;> first | rfl | decide) ?_ | apply yb | refine yc rfl ?_ | ((first | apply yd | apply ye); simp (disch := first | exact List.all_nil | omega | (simp only [go_sem]; done) | (simp only [ln, List.length_map]; omega) | (repeat' first | assumption | exact Ext.refl _ | refine Ext.app ?_ _)) only [go_sem]; with_reducible rfl))))
    refine cond_t rfl ?_
    ((repeat (first | refine ya (by (with_reducible constructor) <;> first | rfl | decide) ?_ | apply yb | refine yc rfl ?_ | ((first | apply yd | apply ye); simp (disch := first | exact List.all_nil | omega | (simp only [go_sem]; done) | (simp only [ln, List.length_map]; omega) | (repeat' first | assumption | exact Ext.refl _ | refine Ext.app ?_ _)) only [go_sem]; with_reducible rfl))))
    exact fin_2 ⟨_, rfl, xH4, OwnI.nil _ _⟩
  rw [h0, if_pos rfl]
  generalize (outsR kind num den step l x.length).1 = qs at ol hin hW ⊢
  ((repeat (first | refine ya (by (with_reducible constructor) <;> first | rfl | decide) ?_ | apply yb | refine yc rfl ?_ | ((first | apply yd | apply ye); simp (disch := first | exact List.all_nil | omega | (simp only [go_sem]; done) | (simp only [ln, List.length_map]; omega) | (repeat' first | assumption | exact Ext.refl _ | refine Ext.app ?_ _)) only [go_sem]; with_reducible rfl))))
  refine cond_f rfl ?_
  ((repeat (first | refine ya (by (with_reducible constructor) <;> first | rfl | decide) ?_ | apply yb | refine yc rfl ?_ | ((first | apply yd | apply ye); simp (disch := first | exact List.all_nil | omega | (simp only [go_sem]; done) | (simp only [ln, List.length_map]; omega) | (repeat' first | assumption | exact Ext.refl _ | refine Ext.app ?_ _)) only [go_sem]; with_reducible rfl))))
  have g4 := x4.cell g0
  refine awp_loop_n [false, true, true, false, false, false, false, false, true, false, true, true, false, false, false, false, false, false, false, false, false, false, false, false, false, false, false, false, false, false, false, false, false, false, false, false, false, false, false, false, false, false, false, false, false, false, false, false, false, false, false, false, false, false, false, false, false, false, false, false, false, false, false, false, false] qs.length (fun i e H' => ∃ ov, e = [junk, w, .pointer (some ⟨H.length, 0, none⟩), junk, junk, junk, junk, junk, wv, junk, ov, .int .i64 i, junk, junk, junk, junk, junk, junk, junk, junk, junk, junk, junk, junk, junk, junk, junk, junk, junk, junk, junk, junk, junk, junk, junk, junk, junk, junk, junk, junk, junk, junk, junk, junk, junk, junk, junk, junk, junk, junk, junk, junk, junk, junk, junk, junk, junk, junk, junk, junk, junk, junk, junk, junk, junk] ∧ Ext G4 H' ∧ OwnI G4 H' ((qs.take i).map (yL deg x)) ov) ?_ ?_
  · exact ⟨.slice none 0 0, by simp [forget], Ext.refl _, OwnI.nil _ _⟩
  rintro i e H1 hi ⟨ov, rfl, x1, ho1⟩
  have hW1 := hW.ext x1
  have b0 := x1.cell g4
  have hX1 := hX.ext (xH4.trans x1)
  ((repeat (first | refine ya (by (with_reducible constructor) <;> first | rfl | decide) ?_ | apply yb | refine yc rfl ?_ | ((first | apply yd | apply ye); simp (disch := first | exact List.all_nil | omega | (simp only [go_sem]; done) | (simp only [ln, List.length_map]; omega) | (repeat' first | assumption | exact Ext.refl _ | refine Ext.app ?_ _)) only [go_sem, hW1.len, hW1.idx, hW1.load]; with_reducible rfl))))
  refine cond_p rfl (fun hlt => ?_) (fun hge => ?_)
  · have hi' : i < qs.length := by omega
    have hq := hin i hi'
    have vb := value_bound (q := qs.getD i 0) hd s2 hq.1
    have db := den_bound deg
    have fb := ediv_bound (n := 2 * valueL deg x (qs.getD i 0) + denL deg) (b := 2 * denL deg) (m := 4000000000000000000) (by omega) ⟨by omega, by omega⟩
    have ey : min 32767 (max (-32767) ((2 * valueL deg x (qs.getD i 0) + denL deg) / (2 * denL deg))) = yL deg x (qs.getD i 0) := by unfold yL; omega
    have hdg : loadR (.pointer (some ⟨H.length, 1, none⟩)) H1 = some (.int .i64 deg, H1) := by rw [load_at b0]; rfl
    have htl : ((qs.take i).map (yL deg x)).length = i := by simp; omega
    have hpush := ho1.push (by rw [htl]; omega) (yL deg x (qs.getD i 0))
    ((repeat (first | refine ya (by (with_reducible constructor) <;> first | rfl | decide) ?_ | apply yb | refine yc rfl ?_ | ((first | apply yd | apply ye); simp (disch := first | exact List.all_nil | omega | (simp only [go_sem]; done) | (simp only [ln, List.length_map]; omega) | (repeat' first | assumption | exact Ext.refl _ | refine Ext.app ?_ _)) only [go_sem, hW1.len, hW1.idx, hW1.load, hdg]; with_reducible rfl))))
    refine adraw_call (N := []) (firstD (refValue_c hd hX1 s1 s2 hq)) ?_
    rw [List.append_nil]
    ((repeat (first | refine ya (by (with_reducible constructor) <;> first | rfl | decide) ?_ | apply yb | refine yc rfl ?_ | ((first | apply yd | apply ye); simp (disch := first | exact List.all_nil | omega | (simp only [go_sem]; done) | (simp only [ln, List.length_map]; omega) | (repeat' first | assumption | exact Ext.refl _ | refine Ext.app ?_ _)) only [go_sem]; with_reducible rfl))))
    refine aops_call_to (bfloorL_c _ _ (by omega) ⟨by omega, by omega⟩) ?_
    ((repeat (first | refine ya (by (with_reducible constructor) <;> first | rfl | decide) ?_ | apply yb | refine yc rfl ?_ | ((first | apply yd | apply ye); simp (disch := first | exact List.all_nil | omega | (simp only [go_sem]; done) | (simp only [ln, List.length_map]; omega) | (repeat' first | assumption | exact Ext.refl _ | refine Ext.app ?_ _)) only [go_sem, ey, hpush]; with_reducible rfl))))
    refine ⟨by omega, pushV H1 ((qs.take i).map (yL deg x)).length, by simp [forget], ho1.ext x1 _, ?_⟩
    rw [List.take_add_one, List.getElem?_eq_getElem hi', List.map_append]
    have e1 : qs.getD i 0 = qs[i] := by rw [List.getD_eq_getElem?_getD, List.getElem?_eq_getElem hi']; rfl
    rw [e1]
    exact ho1.pushed x1 _
  · obtain rfl : i = qs.length := by omega
    ((repeat (first | refine ya (by (with_reducible constructor) <;> first | rfl | decide) ?_ | apply yb | refine yc rfl ?_ | ((first | apply yd | apply ye); simp (disch := first | exact List.all_nil | omega | (simp only [go_sem]; done) | (simp only [ln, List.length_map]; omega) | (repeat' first | assumption | exact Ext.refl _ | refine Ext.app ?_ _)) only [go_sem]; with_reducible rfl))))
    rw [List.take_length] at ho1
    exact fin_2 ⟨_, rfl, xH4.trans x1, ho1.weaken xH4.len⟩
end
end Go.Lq

namespace Go.Lq
open Go
open Go.Proofs

theorem res_len (kind deg num den step : Int) (l : List (Int × Int)) (x : List Int) : (resL kind deg num den step l x).1.length ≤ 2000 := by
  have := (outs_two kind num den step x.length l).1
  unfold resL
  split
  · split
    · simpa using this
    · exact Nat.zero_le _
  · exact Nat.zero_le _
set_option maxRecDepth 100000 in
set_option maxHeartbeats 4000000 in
theorem law3 {H : AHeap} {avs : List Value} (hx : Ext H0 H) (h : RepAll Tryd.prog H [26, 27] avs) : ACall Tryd.prog 3 avs H fun v _ => v = .bool true := by
  obtain ⟨a, w, rfl, h1, h2⟩ := h.two
  obtain ⟨kind, deg, num, den, step, v, l, rfl, hl, hlm⟩ := repRules h1
  obtain ⟨x, hX, hxm, _⟩ := h2.ints Tryd.underlying27 Tryd.underlying3 (by kernel_rfl)
  (refine a3 ?_; simp only [n3, List.replicate, List.length_cons, List.length_nil, List.cons_append, List.nil_append]; first | refine q1 ?_ | refine q2 ?_ | refine q6 ?_ | refine q7 ?_ | refine qh rfl ?_ | skip)
  have g0 : (H ++ [AObj.cells true 0 (rulesC kind deg num den step v)])[H.length]? = some (.cells true 0 (rulesC kind deg num den step v)) := at_new
  have xG : Ext H (H ++ [AObj.cells true 0 (rulesC kind deg num den step v)]) := (Ext.refl H).app _
  ((repeat (first | refine ya (by (with_reducible constructor) <;> first | rfl | decide) ?_ | apply yb | refine yc rfl ?_ | ((first | apply yd | apply ye); simp (disch := first | exact List.all_nil | omega | (simp only [go_sem]; done) | (simp only [ln, List.length_map]; omega) | (repeat' first | assumption | exact Ext.refl _ | refine Ext.app ?_ _)) only [go_sem, box_rules hl.atom]; with_reducible rfl))))
  generalize (H ++ [AObj.cells true 0 (rulesC kind deg num den step v)] : AHeap) = G at g0 xG
  have k0 := hl.ext xG
  have hXg := hX.ext xG
  have hx0 := hx.trans xG
  refine aops_call_to (awake_c hx0) ?_
  ((repeat (first | refine ya (by (with_reducible constructor) <;> first | rfl | decide) ?_ | apply yb | refine yc rfl ?_ | ((first | apply yd | apply ye); simp (disch := first | exact List.all_nil | omega | (simp only [go_sem]; done) | (simp only [ln, List.length_map]; omega) | (repeat' first | assumption | exact Ext.refl _ | refine Ext.app ?_ _)) only [go_sem]; with_reducible rfl))))
  refine cond_f rfl ?_
  ((repeat (first | refine ya (by (with_reducible constructor) <;> first | rfl | decide) ?_ | apply yb | refine yc rfl ?_ | ((first | apply yd | apply ye); simp (disch := first | exact List.all_nil | omega | (simp only [go_sem]; done) | (simp only [ln, List.length_map]; omega) | (repeat' first | assumption | exact Ext.refl _ | refine Ext.app ?_ _)) only [go_sem, load_map g0]; with_reducible rfl))))
  refine aops_call_to (few_c k0) ?_
  by_cases hf : l.length ≤ 22
  rotate_left 1
  · ((repeat (first | refine ya (by (with_reducible constructor) <;> first | rfl | decide) ?_ | apply yb | refine yc rfl ?_ | ((first | apply yd | apply ye); simp (disch := first | exact List.all_nil | omega | (simp only [go_sem]; done) | (simp only [ln, List.length_map]; omega) | (repeat' first | assumption | exact Ext.refl _ | refine Ext.app ?_ _)) only [go_sem, dec_f hf]; with_reducible rfl))))
    refine cond_t rfl ?_
    ((repeat (first | refine ya (by (with_reducible constructor) <;> first | rfl | decide) ?_ | apply yb | refine yc rfl ?_ | ((first | apply yd | apply ye); simp (disch := first | exact List.all_nil | omega | (simp only [go_sem]; done) | (simp only [ln, List.length_map]; omega) | (repeat' first | assumption | exact Ext.refl _ | refine Ext.app ?_ _)) only [go_sem]; with_reducible rfl))))
    exact fin_1 rfl
  have l6 : loadNR 6 (.pointer (some ⟨H.length, 0, none⟩)) G = some (rulesV kind deg num den step v, G) := loadN_at g0 (by simp [rulesC])
  ((repeat (first | refine ya (by (with_reducible constructor) <;> first | rfl | decide) ?_ | apply yb | refine yc rfl ?_ | ((first | apply yd | apply ye); simp (disch := first | exact List.all_nil | omega | (simp only [go_sem]; done) | (simp only [ln, List.length_map]; omega) | (repeat' first | assumption | exact Ext.refl _ | refine Ext.app ?_ _)) only [go_sem, dec_t hf]; with_reducible rfl))))
  refine aops_call_to (short_c hXg) ?_
  by_cases hxl : x.length ≤ 64 ∨ (400 < x.length ∧ x.length ≤ 402)
  rotate_left 1
  · ((repeat (first | refine ya (by (with_reducible constructor) <;> first | rfl | decide) ?_ | apply yb | refine yc rfl ?_ | ((first | apply yd | apply ye); simp (disch := first | exact List.all_nil | omega | (simp only [go_sem]; done) | (simp only [ln, List.length_map]; omega) | (repeat' first | assumption | exact Ext.refl _ | refine Ext.app ?_ _)) only [go_sem, dec_f hxl]; with_reducible rfl))))
    refine cond_t rfl ?_
    ((repeat (first | refine ya (by (with_reducible constructor) <;> first | rfl | decide) ?_ | apply yb | refine yc rfl ?_ | ((first | apply yd | apply ye); simp (disch := first | exact List.all_nil | omega | (simp only [go_sem]; done) | (simp only [ln, List.length_map]; omega) | (repeat' first | assumption | exact Ext.refl _ | refine Ext.app ?_ _)) only [go_sem]; with_reducible rfl))))
    exact fin_1 rfl
  ((repeat (first | refine ya (by (with_reducible constructor) <;> first | rfl | decide) ?_ | apply yb | refine yc rfl ?_ | ((first | apply yd | apply ye); simp (disch := first | exact List.all_nil | omega | (simp only [go_sem]; done) | (simp only [ln, List.length_map]; omega) | (repeat' first | assumption | exact Ext.refl _ | refine Ext.app ?_ _)) only [go_sem, dec_t hxl]; with_reducible rfl))))
  refine cond_f rfl ?_
  ((repeat (first | refine ya (by (with_reducible constructor) <;> first | rfl | decide) ?_ | apply yb | refine yc rfl ?_ | ((first | apply yd | apply ye); simp (disch := first | exact List.all_nil | omega | (simp only [go_sem]; done) | (simp only [ln, List.length_map]; omega) | (repeat' first | assumption | exact Ext.refl _ | refine Ext.app ?_ _)) only [go_sem, l6]; with_reducible rfl))))
  refine aops_call_to (copyRules_c k0 (by omega)) ?_
  have hC : Pairs (G ++ [.cells true 2 (flatP l)]) l (.slice (some ⟨G.length, 0, none⟩) l.length l.length) := Pairs.last l.length
  have x1 : Ext G (G ++ [AObj.cells true 2 (flatP l)]) := (Ext.refl G).app _
  generalize (G ++ [AObj.cells true 2 (flatP l)] : AHeap) = G1 at hC x1
  have hX1 := hXg.ext x1
  ((repeat (first | refine ya (by (with_reducible constructor) <;> first | rfl | decide) ?_ | apply yb | refine yc rfl ?_ | ((first | apply yd | apply ye); simp (disch := first | exact List.all_nil | omega | (simp only [go_sem]; done) | (simp only [ln, List.length_map]; omega) | (repeat' first | assumption | exact Ext.refl _ | refine Ext.app ?_ _)) only [go_sem]; with_reducible rfl))))
  refine aops_call_to (copyInts_c hX1 (by omega)) ?_
  have hXc : Ints (G1 ++ [.cells true 1 (x.map (.int .i64))]) x (.slice (some ⟨G1.length, 0, none⟩) x.length x.length) := Ints.last x.length
  have x2 : Ext G1 (G1 ++ [AObj.cells true 1 (x.map (.int .i64))]) := (Ext.refl G1).app _
  generalize (G1 ++ [AObj.cells true 1 (x.map (.int .i64))] : AHeap) = G2 at hXc x2
  have x02 := x1.trans x2
  ((repeat (first | refine ya (by (with_reducible constructor) <;> first | rfl | decide) ?_ | apply yb | refine yc rfl ?_ | ((first | apply yd | apply ye); simp (disch := first | exact List.all_nil | omega | (simp only [go_sem]; done) | (simp only [ln, List.length_map]; omega) | (repeat' first | assumption | exact Ext.refl _ | refine Ext.app ?_ _)) only [go_sem]; with_reducible rfl))))
  refine aops_call ((resampled_c (hx0.trans x02) (hC.ext x2) (by omega) hXc (by omega)).mono fun u G3 hu => ?_)
  obtain ⟨ys, rfl, hY, x3⟩ := hu.use
  have x03 := x02.trans x3
  have m6 : loadNR 6 (.pointer (some ⟨H.length, 0, none⟩)) G3 = some (rulesV kind deg num den step v, G3) := loadN_at (x03.cell g0) (by simp [rulesC])
  ((repeat (first | refine ya (by (with_reducible constructor) <;> first | rfl | decide) ?_ | apply yb | refine yc rfl ?_ | ((first | apply yd | apply ye); simp (disch := first | exact List.all_nil | omega | (simp only [go_sem]; done) | (simp only [ln, List.length_map]; omega) | (repeat' first | assumption | exact Ext.refl _ | refine Ext.app ?_ _)) only [go_sem, m6]; with_reducible rfl))))
  refine aops_call ((rResampled_c (k0.ext x03) (by omega) (hXg.ext x03) (by omega)).mono fun u G4 hu => ?_)
  obtain ⟨zs, rfl, hZ, x4⟩ := hu.use
  have hY4 := hY.ext x4
  have rl := res_len kind deg num den step l x
  ((repeat (first | refine ya (by (with_reducible constructor) <;> first | rfl | decide) ?_ | apply yb | refine yc rfl ?_ | ((first | apply yd | apply ye); simp (disch := first | exact List.all_nil | omega | (simp only [go_sem]; done) | (simp only [ln, List.length_map]; omega) | (repeat' first | assumption | exact Ext.refl _ | refine Ext.app ?_ _)) only [go_sem]; with_reducible rfl))))
  refine aops_call_to (bints_c hY4 hZ (by omega) (by omega)) ?_
  ((repeat (first | refine ya (by (with_reducible constructor) <;> first | rfl | decide) ?_ | apply yb | refine yc rfl ?_ | ((first | apply yd | apply ye); simp (disch := first | exact List.all_nil | omega | (simp only [go_sem]; done) | (simp only [ln, List.length_map]; omega) | (repeat' first | assumption | exact Ext.refl _ | refine Ext.app ?_ _)) only [go_sem]; with_reducible rfl))))
  exact fin_1 rfl
end Go.Lq

namespace Go.Lq
open Go Go.ChangeShapes Go.WideShapes Go.ChangeAt Go.RowKit
open Go.Proofs

set_option maxRecDepth 100000 in
theorem lifted3 (os : Os) (started : os.Started) (X : Type) (enc : TypeId × Value → X) :
    ReturnsInHanded {} Tryd.checked os 3 .any (fun w args => (YtlcfgealkjomnaaDoor.Rows.resampleOutputsSpec.pre enc Tryd.prog Tryd.f3 [] false w args ∧ laidMetH Tryd.prog laidAll w) ∧ sizedMet enc Tryd.prog Tryd.f3 (OpenSpec.ofChange YtlcfgealkjomnaaDoor.Rows.resampleOutputsSpec) false w args)
      (YtlcfgealkjomnaaDoor.Rows.resampleOutputsSpec.post enc Tryd.prog Tryd.f3 false true false false) := by
  refine returnsInHanded_of_change_shaped (C := Tryd.checked) (X := fun w _ => laidMetH Tryd.prog laidAll w) (fun _ _ _ hh h => h.of_heap hh) own_knob started (by kernel_rfl) Tryd.func3
    (ChangeSpec.witness_shaped (enc := enc) (C := Tryd.checked) (os := os) (X := fun w _ => laidMetH Tryd.prog laidAll w) false (World.doorLaid Tryd.prog 400 os) #[.agg #[.int .i64 0, .int .i64 0, .int .i64 0, .int .i64 0, .int .i64 0, .slice none 0 0], .slice none 0 0] 12 rfl (door_shaped os _) (by kernel_rfl) (by kernel_rfl) (by kernel_rfl) (door_met os _)) ?_
  intro W base args ds gs before hsh hval hW hL
  have hWw := hW
  obtain ⟨p, q, hA, _⟩ := hW
  refine (calls_of_law (d := 20) (of_laid hL hsh) globs glob_at hA (fun j t v h1 h2 => hval j t v (by simpa using h1) (by simpa using h2)) (by kernel_rfl) fun H avs hx h => ?_).mono fun e W' ⟨he, hB⟩ => ?_
  · exact law3 hx (by rw [show Tryd.f3.params = #[26, 27] from Tryd.params3] at h; exact h)
  · subst he
    exact ⟨_, rfl, law_post (bt := 4) laid_out rfl Tryd.underlying4 (by kernel_rfl) (by kernel_rfl) hWw (fun ds hd => by
      rw [show Tryd.f3.params = #[26, 27] from Tryd.params3] at hd
      match ds, hd with
      | [a, b], _ => rfl) hB⟩

theorem unf3 : Tryd.prog.unfollowed 3 = true := by kernel_rfl
theorem rec3 : Tryd.prog.recurses 3 = true := by kernel_rfl
theorem named3 : Tryd.prog.varsNamed 3 = YtlcfgealkjomnaaDoor.Rows.resampleOutputsRow.named := by kernel_rfl
theorem facts3 : joinedFacts Tryd.prog 3 Tryd.f3 YtlcfgealkjomnaaDoor.Rows.resampleOutputsSpec YtlcfgealkjomnaaDoor.Rows.resampleOutputsRow = true := by
  unfold joinedFacts
  rw [may_enter, stops_heard, maps_rowed, laid_out, lifts_final, make_is, unf3, rec3, named3]
  kernel_rfl
theorem holds3 : YtlcfgealkjomnaaDoor.Rows.ResampleOutputsSaid :=
  OpenClaim.holds_of_wide 3 Tryd.f3 rfl rfl rfl rfl rfl rfl rfl ⟨rfl, rfl, rfl, rfl, rfl⟩ rfl rfl rfl rfl rfl (by kernel_rfl) Tryd.func3 facts3
    (of_decide_eq_true (by kernel_rfl)) (by unfold Func.isWrapper; first | (rw [if_pos (by decide +kernel)]; kernel_rfl) | (rw [if_neg (by decide +kernel)]; exact ⟨rfl, rfl⟩))
    (fun os started H enc _ => lifted3 os started H enc)
end Go.Lq
namespace Go.Proofs.YtlcfgealkjomnaaDoor
open Go Go.Lq
theorem resampleOutputs_proved : Rows.ResampleOutputsCardSaid :=
  Claim7.holds_tied_plain_at .later [] [.funcs] true (true, "9403e86e1dc287bd0cb4ee71274230f6f4c5733d4f08721e5e779bfd75daaf91") false
    holds3 (fun _ h => by cases h) (by kernel_rfl) (fun _ h => by cases h) resampleOutputs_row_tie rfl ⟨rfl, rfl⟩ main_is rfl
    (fun f fn hf hfn => by
      obtain rfl : f = 3 := Option.some.inj ((show Tryd.prog.funcNamed "lacquer/lacquerlaw04.ResampleOutputs" = some 3 by kernel_rfl).symm.trans hf) |>.symm
      obtain rfl : fn = Tryd.f3 := (Option.some.inj (Tryd.func3.symm.trans hfn)).symm
      exact ⟨looks0, fun j t ht => by
        rw [Tryd.params3] at ht
        have hm : t ∈ [26, 27] := by simpa using Array.mem_of_getElem? ht
        have hall : ([26, 27].all fun u => !Tryd.prog.wantsStandIn u) = true := by kernel_rfl
        exact (show Tryd.prog.wantsStandIn t = false by simpa using List.all_eq_true.1 hall t hm)⟩)
    (by kernel_rfl)
end Go.Proofs.YtlcfgealkjomnaaDoor
