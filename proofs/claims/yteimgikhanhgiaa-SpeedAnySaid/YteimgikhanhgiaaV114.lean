/- SpeedAny is proved: for every input that can be read the law returns true, and each argument reads afterwards as it read before; nothing is asked of package variables. -/
import Derived.Test.YteimgikhanhgiaaV113
set_option linter.unusedSimpArgs false
set_option linter.unnecessarySimpa false
set_option linter.unusedVariables false
set_option linter.unusedSectionVars false
set_option maxRecDepth 100000
namespace Go.Lq
open Go
open Go.Proofs

theorem wraps_ev {L : Int × Int} : Wraps fun s => evV L s := fun s n a b h => .agg rfl fun i u u' h1 h2 => by
  match i with
  | 0 => simp at h1 h2; subst h1; subst h2; exact .int _ _
  | 1 => simp at h1 h2; subst h1; subst h2; exact .int _ _
  | 2 => simp at h1 h2; subst h1; subst h2; exact h
  | i + 3 => simp at h1
theorem Tris.mark {H H' : AHeap} {M : List Mark} {v : Value} (h : Tris H M v) (hx : Ext H H') {i : Nat} (hi : i < M.length) : loadNR 3 (addrOf v (i * 3)) H' = some (markV (M.getD i (0, 0, 0)), H') := (h.load hx hi).1
section
variable {H : AHeap} {L : Int × Int} {M : List Mark} {v : Value}
theorem fewMarks_c (hl : Tris H M v) : ACall Go.Proofs.Try.prog 18 [evV L v] H fun w H' => w = .bool (decide (M.length ≤ 14)) ∧ H' = H := by
  refine ACall.drop (.bool _) ?_
  (refine a18 ?_; simp only [n18, List.replicate, yq, yr, yt, yu]; first | refine q1 ?_ | refine q2 ?_ | refine q6 ?_ | refine q7 ?_ | refine qh rfl ?_ | skip)
  have g0 : (H ++ [AObj.cells true 0 (evC L v)])[H.length]? = some (.cells true 0 (evC L v)) := at_new
  have xG : Ext H (H ++ [AObj.cells true 0 (evC L v)]) := (Ext.refl H).app _
  (repeat (first | refine yv ?_ | (apply yd; simp (disch := first | exact yn | omega | (simp only [go_sem]; done) | (simp only [ln, ym]; omega) | (repeat' first | assumption | exact yo _ | refine yp ?_ _)) only [go_sem, box_ev hl.atom]; with_reducible rfl)))
  generalize (H ++ [AObj.cells true 0 (evC L v)] : AHeap) = G at g0 xG
  have hl1 := hl.ext xG
  ((repeat (first | refine yv ?_ | apply yb | refine yc rfl ?_ | ((first | apply yd | apply ye); simp (disch := first | exact yn | omega | (simp only [go_sem]; done) | (simp only [ln, ym]; omega) | (repeat' first | assumption | exact yo _ | refine yp ?_ _)) only [go_sem, hl1.len, hl1.idx, hl1.load, load_at g0, evC]; with_reducible rfl))))
  have e1 : decide ((M.length : Int) ≤ 14) = decide (M.length ≤ 14) := by simp; omega
  exact fin_1 ⟨by rw [← e1]; rfl, xG⟩
theorem copyEv_c (hl : Tris H M v) (hb : M.length ≤ 1000000) : ACall Go.Proofs.Try.prog 20 [evV L v] H fun w H' =>
    w = evV L (.slice (some ⟨H.length, 0, none⟩) M.length M.length) ∧ H' = H ++ [.cells true 3 (flat3 M)] := by
  refine ACall.tidyE (f := fun s => evV L s) (n := M.length) (sz := 3) wraps_ev (closed_flat3 M) ?_
  (refine a20 ?_; simp only [n20, List.replicate, yq, yr, yt, yu]; first | refine q1 ?_ | refine q2 ?_ | refine q6 ?_ | refine q7 ?_ | refine qh rfl ?_ | skip)
  obtain ⟨G, hG⟩ : ∃ G, G = H ++ [AObj.cells true 0 (evC L v)] ++ [AObj.cells true 0 [.int .i64 0, .int .i64 0, .slice none 0 0]] := ⟨_, rfl⟩
  have g0 : G[H.length]? = some (.cells true 0 (evC L v)) := by rw [hG]; simp
  have g1 : G[H.length + 1]? = some (.cells true 0 [.int .i64 0, .int .i64 0, .slice none 0 0]) := by rw [hG]; simp
  have xG : Ext H G := by rw [hG]; exact ((Ext.refl H).app _).app _
  have lG : G.length = H.length + 2 := by rw [hG]; simp
  (repeat (first | refine yv ?_ | (apply yd; simp (disch := first | exact yn | omega | (simp only [go_sem]; done) | (simp only [ln, ym]; omega) | (repeat' first | assumption | exact yo _ | refine yp ?_ _)) only [go_sem, box_ev hl.atom]; with_reducible rfl)))
  (simp only [List.length_append, List.length_cons, List.length_nil, Nat.zero_add, Nat.add_assoc, Nat.reduceAdd])
  rw [← hG]
  clear hG
  obtain ⟨s, H2, ha, hx2, id, rfl, hid, hc2⟩ := append_copy (bytes := 24) (hl.ext xG) (isAtom_flat3 M) (roomOk_of (by omega) (by omega))
  have h1 := hx2.cell g1
  have hms : mkSliceL 3 0 (some []) G = some (.slice (some ⟨G.length, 0, none⟩) 0 0, G ++ [.cells true 3 []]) := rfl
  have k0 := at_app (N := [AObj.cells true 3 []]) g0
  have hf : fillA [.int .i64 0, .int .i64 0, .slice none 0 0] [(0, 2, .agg ⟨[.int .i64 L.1, .int .i64 L.2]⟩), (2, 1, .slice (some ⟨id, 0, none⟩) M.length M.length)] = some (evC L (.slice (some ⟨id, 0, none⟩) M.length M.length)) := rfl
  have hst : storeR 3 (.pointer (some ⟨H.length + 1, 0, none⟩)) (.agg ⟨[.int .i64 L.1, .int .i64 L.2, .slice (some ⟨id, 0, none⟩) M.length M.length]⟩) H2 = some (undef, H2.set (H.length + 1) (.cells true 0 (evC L (.slice (some ⟨id, 0, none⟩) M.length M.length)))) := store_all (n := 3) (us := evC L (.slice (some ⟨id, 0, none⟩) M.length M.length)) h1 rfl rfl rfl
  ((repeat (first | refine yv ?_ | apply yb | refine yc rfl ?_ | ((first | apply yd | apply ye); simp (disch := first | exact yn | omega | (simp only [go_sem]; done) | (simp only [ln, ym]; omega) | (repeat' first | assumption | exact yo _ | refine yp ?_ _)) only [go_sem, load_lim g0, hms, load_at k0, evC, ha, hf, hst]; with_reducible rfl))))
  refine fin_l1 (m := 3) (u := evV L (.slice (some ⟨id, 0, none⟩) M.length M.length)) (load_ev (L := L) (v := .slice (some ⟨id, 0, none⟩) M.length M.length) (get_set_self h1)) ?_
  refine ⟨_, id, rfl, (xG.trans hx2).set (by omega) _, rfl, by omega, ?_⟩
  rw [List.getElem?_set_ne (by omega)]; exact hc2
theorem rMarkErr_c (x : Mark) : ACall Go.Proofs.Try.prog 83 [markV x] H fun v H' => v = .int .i64 (markE x) ∧ H' = H := by
  refine ACall.drop (.int _ _) ?_
  (refine a83 ?_; simp only [n83, List.replicate, yq, yr, yt, yu]; first | refine q1 ?_ | refine q2 ?_ | refine q6 ?_ | refine q7 ?_ | refine qh rfl ?_ | skip)
  have g0 : (H ++ [AObj.cells true 0 (markC x)])[H.length]? = some (.cells true 0 (markC x)) := at_new
  have xG : Ext H (H ++ [AObj.cells true 0 (markC x)]) := (Ext.refl H).app _
  (repeat (first | refine yv ?_ | (apply yd; simp (disch := first | exact yn | omega | (simp only [go_sem]; done) | (simp only [ln, ym]; omega) | (repeat' first | assumption | exact yo _ | refine yp ?_ _)) only [go_sem, box_mark]; with_reducible rfl)))
  generalize (H ++ [AObj.cells true 0 (markC x)] : AHeap) = G at g0 xG
  have bad : ¬ ((0 ≤ x.1 ∧ x.1 ≤ 1000000) ∧ (0 ≤ x.2.1 ∧ x.2.1 ≤ 1000000000000) ∧ (0 ≤ x.2.2 ∧ x.2.2 ≤ 1000000000000)) → markE x = 2 := fun h => by
    unfold markE; rw [if_neg h, firstErr_e (by decide)]
  ((repeat (first | refine yv ?_ | apply yb | refine yc rfl ?_ | ((first | apply yd | apply ye); simp (disch := first | exact yn | omega | (simp only [go_sem]; done) | (simp only [ln, ym]; omega) | (repeat' first | assumption | exact yo _ | refine yp ?_ _)) only [go_sem, load_at g0, markC]; with_reducible rfl))))
  (refine aops_call_to (rIsPosition_c _) ?_)
  by_cases h1 : 0 ≤ x.1 ∧ x.1 ≤ 1000000
  rotate_left 1
  · rw [bad (fun h => h1 h.1)]
    ((repeat (first | refine yv ?_ | apply yb | refine yc rfl ?_ | ((first | apply yd | apply ye); simp (disch := first | exact yn | omega | (simp only [go_sem]; done) | (simp only [ln, ym]; omega) | (repeat' first | assumption | exact yo _ | refine yp ?_ _)) only [go_sem, dec_f h1]; with_reducible rfl))))
    refine cond_t rfl ?_
    ((repeat (first | refine yv ?_ | apply yb | refine yc rfl ?_ | ((first | apply yd | apply ye); simp (disch := first | exact yn | omega | (simp only [go_sem]; done) | (simp only [ln, ym]; omega) | (repeat' first | assumption | exact yo _ | refine yp ?_ _)) only [go_sem]; with_reducible rfl))))
    exact fin_1 ⟨rfl, xG⟩
  ((repeat (first | refine yv ?_ | apply yb | refine yc rfl ?_ | ((first | apply yd | apply ye); simp (disch := first | exact yn | omega | (simp only [go_sem]; done) | (simp only [ln, ym]; omega) | (repeat' first | assumption | exact yo _ | refine yp ?_ _)) only [go_sem, dec_t h1, load_at g0, markC]; with_reducible rfl))))
  (refine aops_call_to (rIsTick_c _) ?_)
  by_cases h2 : 0 ≤ x.2.1 ∧ x.2.1 ≤ 1000000000000
  rotate_left 1
  · rw [bad (fun h => h2 h.2.1)]
    ((repeat (first | refine yv ?_ | apply yb | refine yc rfl ?_ | ((first | apply yd | apply ye); simp (disch := first | exact yn | omega | (simp only [go_sem]; done) | (simp only [ln, ym]; omega) | (repeat' first | assumption | exact yo _ | refine yp ?_ _)) only [go_sem, dec_f h2]; with_reducible rfl))))
    refine cond_t rfl ?_
    ((repeat (first | refine yv ?_ | apply yb | refine yc rfl ?_ | ((first | apply yd | apply ye); simp (disch := first | exact yn | omega | (simp only [go_sem]; done) | (simp only [ln, ym]; omega) | (repeat' first | assumption | exact yo _ | refine yp ?_ _)) only [go_sem]; with_reducible rfl))))
    exact fin_1 ⟨rfl, xG⟩
  ((repeat (first | refine yv ?_ | apply yb | refine yc rfl ?_ | ((first | apply yd | apply ye); simp (disch := first | exact yn | omega | (simp only [go_sem]; done) | (simp only [ln, ym]; omega) | (repeat' first | assumption | exact yo _ | refine yp ?_ _)) only [go_sem, dec_t h2, load_at g0, markC]; with_reducible rfl))))
  (refine aops_call_to (rIsTick_c _) ?_)
  by_cases h3 : 0 ≤ x.2.2 ∧ x.2.2 ≤ 1000000000000
  rotate_left 1
  · rw [bad (fun h => h3 h.2.2)]
    ((repeat (first | refine yv ?_ | apply yb | refine yc rfl ?_ | ((first | apply yd | apply ye); simp (disch := first | exact yn | omega | (simp only [go_sem]; done) | (simp only [ln, ym]; omega) | (repeat' first | assumption | exact yo _ | refine yp ?_ _)) only [go_sem, dec_f h3]; with_reducible rfl))))
    refine cond_t rfl ?_
    ((repeat (first | refine yv ?_ | apply yb | refine yc rfl ?_ | ((first | apply yd | apply ye); simp (disch := first | exact yn | omega | (simp only [go_sem]; done) | (simp only [ln, ym]; omega) | (repeat' first | assumption | exact yo _ | refine yp ?_ _)) only [go_sem]; with_reducible rfl))))
    exact fin_1 ⟨rfl, xG⟩
  have em : markE x = if x.2.1 ≤ x.2.2 then 0 else 9 := by
    unfold markE
    rw [if_pos ⟨h1, h2, h3⟩, firstErr_z]
    by_cases h : x.2.1 ≤ x.2.2
    · rw [if_pos h]; rfl
    · rw [if_neg h]; rfl
  rw [em]
  ((repeat (first | refine yv ?_ | apply yb | refine yc rfl ?_ | ((first | apply yd | apply ye); simp (disch := first | exact yn | omega | (simp only [go_sem]; done) | (simp only [ln, ym]; omega) | (repeat' first | assumption | exact yo _ | refine yp ?_ _)) only [go_sem, dec_t h3]; with_reducible rfl))))
  refine cond_f rfl ?_
  by_cases h4 : x.2.1 ≤ x.2.2
  · ((repeat (first | refine yv ?_ | apply yb | refine yc rfl ?_ | ((first | apply yd | apply ye); simp (disch := first | exact yn | omega | (simp only [go_sem]; done) | (simp only [ln, ym]; omega) | (repeat' first | assumption | exact yo _ | refine yp ?_ _)) only [go_sem, load_at g0, markC, dec_f (show ¬ x.2.2 < x.2.1 by omega)]; with_reducible rfl))))
    refine cond_f rfl ?_
    ((repeat (first | refine yv ?_ | apply yb | refine yc rfl ?_ | ((first | apply yd | apply ye); simp (disch := first | exact yn | omega | (simp only [go_sem]; done) | (simp only [ln, ym]; omega) | (repeat' first | assumption | exact yo _ | refine yp ?_ _)) only [go_sem]; with_reducible rfl))))
    exact fin_1 ⟨by rw [if_pos h4]; rfl, xG⟩
  · ((repeat (first | refine yv ?_ | apply yb | refine yc rfl ?_ | ((first | apply yd | apply ye); simp (disch := first | exact yn | omega | (simp only [go_sem]; done) | (simp only [ln, ym]; omega) | (repeat' first | assumption | exact yo _ | refine yp ?_ _)) only [go_sem, load_at g0, markC, dec_t (show x.2.2 < x.2.1 by omega)]; with_reducible rfl))))
    refine cond_t rfl ?_
    ((repeat (first | refine yv ?_ | apply yb | refine yc rfl ?_ | ((first | apply yd | apply ye); simp (disch := first | exact yn | omega | (simp only [go_sem]; done) | (simp only [ln, ym]; omega) | (repeat' first | assumption | exact yo _ | refine yp ?_ _)) only [go_sem]; with_reducible rfl))))
    exact fin_1 ⟨by rw [if_neg h4]; rfl, xG⟩
theorem limE_cases (L : Int × Int) (n : Nat) : limE L n = if ¬ ((1 ≤ L.1 ∧ L.1 ≤ 100000) ∧ (1 ≤ L.2 ∧ L.2 ≤ 100000)) then 2 else if L.2 < L.1 then 9 else if (12 : Int) < (n : Int) then 8 else 0 := by
  unfold limE
  by_cases h1 : (1 ≤ L.1 ∧ L.1 ≤ 100000) ∧ (1 ≤ L.2 ∧ L.2 ≤ 100000)
  · rw [if_pos h1, if_neg (show ¬ ¬ ((1 ≤ L.1 ∧ L.1 ≤ 100000) ∧ (1 ≤ L.2 ∧ L.2 ≤ 100000)) from fun h => h h1), firstErr_z]
    by_cases h2 : L.1 ≤ L.2
    · rw [if_pos h2, if_neg (show ¬ L.2 < L.1 by omega), firstErr_z]
      by_cases h3 : (n : Int) ≤ 12
      · rw [if_pos h3, if_neg (show ¬ (12 : Int) < (n : Int) by omega)]; rfl
      · rw [if_neg h3, if_pos (show (12 : Int) < (n : Int) by omega)]; rfl
    · rw [if_neg h2, if_pos (show L.2 < L.1 by omega), firstErr_e (by decide)]
  · rw [if_neg h1, if_pos h1, firstErr_e (by decide)]
theorem markO_cases (M : List Mark) (i : Nat) (h0 : ∀ j, j < M.length → 0 ≤ (M.getD j (0, 0, 0)).1 ∨ markE (M.getD j (0, 0, 0)) ≠ 0) (hi : i < M.length) : markO (lastAt M i) (M.getD i (0, 0, 0)) = if markE (M.getD i (0, 0, 0)) ≠ 0 then markE (M.getD i (0, 0, 0)) else if 0 < i ∧ (M.getD i (0, 0, 0)).1 ≤ lastAt M i then 9 else 0 := by
  unfold markO
  by_cases h1 : markE (M.getD i (0, 0, 0)) = 0
  · have hp := (h0 i hi).resolve_right (fun h => h h1)
    rw [h1, firstErr_z, if_neg (show ¬ (0 : Int) ≠ 0 from fun h => h rfl)]
    by_cases h2 : lastAt M i < (M.getD i (0, 0, 0)).1
    · rw [if_pos h2, if_neg (show ¬ (0 < i ∧ (M.getD i (0, 0, 0)).1 ≤ lastAt M i) by omega)]; rfl
    · rw [if_neg h2, if_pos (show 0 < i ∧ (M.getD i (0, 0, 0)).1 ≤ lastAt M i from ?_)]
      · rfl
      · refine ⟨?_, by omega⟩
        rcases Nat.eq_zero_or_pos i with rfl | h
        · have e : lastAt M 0 = -1 := rfl
          omega
        · exact h
  · rw [if_pos h1, firstErr_e h1]
theorem markE_pos (x : Mark) : 0 ≤ x.1 ∨ markE x ≠ 0 := by
  by_cases h : (0 ≤ x.1 ∧ x.1 ≤ 1000000) ∧ (0 ≤ x.2.1 ∧ x.2.1 ≤ 1000000000000) ∧ (0 ≤ x.2.2 ∧ x.2.2 ≤ 1000000000000)
  · exact .inl h.1.1
  · right
    unfold markE; rw [if_neg h, firstErr_e (by decide)]; decide
set_option maxHeartbeats 4000000 in
theorem rCheckEv_c (hl : Tris H M v) (hb : M.length ≤ 1000000000) : ACall Go.Proofs.Try.prog 22 [evV L v] H fun w H' => w = .tuple #[.int .i64 (ckEv L M).1, .int .i64 (ckEv L M).2] ∧ H' = H := by
  refine ACall.drop (closed_two _ _) ?_
  (refine a22 ?_; simp only [n22, List.replicate, yq, yr, yt, yu]; first | refine q1 ?_ | refine q2 ?_ | refine q6 ?_ | refine q7 ?_ | refine qh rfl ?_ | skip)
  have g0 : (H ++ [AObj.cells true 0 (evC L v)])[H.length]? = some (.cells true 0 (evC L v)) := at_new
  have xG : Ext H (H ++ [AObj.cells true 0 (evC L v)]) := (Ext.refl H).app _
  (repeat (first | refine yv ?_ | (apply yd; simp (disch := first | exact yn | omega | (simp only [go_sem]; done) | (simp only [ln, ym]; omega) | (repeat' first | assumption | exact yo _ | refine yp ?_ _)) only [go_sem, box_ev hl.atom]; with_reducible rfl)))
  generalize (H ++ [AObj.cells true 0 (evC L v)] : AHeap) = G at g0 xG
  have hl1 := hl.ext xG
  have hlim := limE_cases L M.length
  have bad : ∀ e : Int, e ≠ 0 → limE L M.length = e → ckEv L M = (0, e) := fun e h0 h => by unfold ckEv; rw [h, if_pos h0]
  ((repeat (first | refine yv ?_ | apply yb | refine yc rfl ?_ | ((first | apply yd | apply ye); simp (disch := first | exact yn | omega | (simp only [go_sem]; done) | (simp only [ln, ym]; omega) | (repeat' first | assumption | exact yo _ | refine yp ?_ _)) only [go_sem, load_at g0, evC]; with_reducible rfl))))
  (refine aops_call_to (bwithin_c _ _ _) ?_)
  by_cases h1 : 1 ≤ L.1 ∧ L.1 ≤ 100000
  rotate_left 1
  · rw [bad 2 (by decide) (by rw [hlim, if_pos (fun h => h1 h.1)])]
    ((repeat (first | refine yv ?_ | apply yb | refine yc rfl ?_ | ((first | apply yd | apply ye); simp (disch := first | exact yn | omega | (simp only [go_sem]; done) | (simp only [ln, ym]; omega) | (repeat' first | assumption | exact yo _ | refine yp ?_ _)) only [go_sem, dec_f h1]; with_reducible rfl))))
    refine cond_t rfl ?_
    ((repeat (first | refine yv ?_ | apply yb | refine yc rfl ?_ | ((first | apply yd | apply ye); simp (disch := first | exact yn | omega | (simp only [go_sem]; done) | (simp only [ln, ym]; omega) | (repeat' first | assumption | exact yo _ | refine yp ?_ _)) only [go_sem]; with_reducible rfl))))
    exact fin_2 ⟨rfl, xG⟩
  ((repeat (first | refine yv ?_ | apply yb | refine yc rfl ?_ | ((first | apply yd | apply ye); simp (disch := first | exact yn | omega | (simp only [go_sem]; done) | (simp only [ln, ym]; omega) | (repeat' first | assumption | exact yo _ | refine yp ?_ _)) only [go_sem, dec_t h1, load_at g0, evC]; with_reducible rfl))))
  (refine aops_call_to (bwithin_c _ _ _) ?_)
  by_cases h2 : 1 ≤ L.2 ∧ L.2 ≤ 100000
  rotate_left 1
  · rw [bad 2 (by decide) (by rw [hlim, if_pos (fun h => h2 h.2)])]
    ((repeat (first | refine yv ?_ | apply yb | refine yc rfl ?_ | ((first | apply yd | apply ye); simp (disch := first | exact yn | omega | (simp only [go_sem]; done) | (simp only [ln, ym]; omega) | (repeat' first | assumption | exact yo _ | refine yp ?_ _)) only [go_sem, dec_f h2]; with_reducible rfl))))
    refine cond_t rfl ?_
    ((repeat (first | refine yv ?_ | apply yb | refine yc rfl ?_ | ((first | apply yd | apply ye); simp (disch := first | exact yn | omega | (simp only [go_sem]; done) | (simp only [ln, ym]; omega) | (repeat' first | assumption | exact yo _ | refine yp ?_ _)) only [go_sem]; with_reducible rfl))))
    exact fin_2 ⟨rfl, xG⟩
  rw [if_neg (fun h => h ⟨h1, h2⟩)] at hlim
  ((repeat (first | refine yv ?_ | apply yb | refine yc rfl ?_ | ((first | apply yd | apply ye); simp (disch := first | exact yn | omega | (simp only [go_sem]; done) | (simp only [ln, ym]; omega) | (repeat' first | assumption | exact yo _ | refine yp ?_ _)) only [go_sem, dec_t h2]; with_reducible rfl))))
  refine cond_f rfl ?_
  ((repeat (first | refine yv ?_ | apply yb | refine yc rfl ?_ | ((first | apply yd | apply ye); simp (disch := first | exact yn | omega | (simp only [go_sem]; done) | (simp only [ln, ym]; omega) | (repeat' first | assumption | exact yo _ | refine yp ?_ _)) only [go_sem, load_at g0, evC]; with_reducible rfl))))
  refine cond_p (p := L.2 < L.1) rfl (fun h3 => ?_) (fun h3 => ?_)
  · rw [bad 9 (by decide) (by rw [hlim, if_pos h3])]
    ((repeat (first | refine yv ?_ | apply yb | refine yc rfl ?_ | ((first | apply yd | apply ye); simp (disch := first | exact yn | omega | (simp only [go_sem]; done) | (simp only [ln, ym]; omega) | (repeat' first | assumption | exact yo _ | refine yp ?_ _)) only [go_sem]; with_reducible rfl))))
    exact fin_2 ⟨rfl, xG⟩
  rw [if_neg h3] at hlim
  ((repeat (first | refine yv ?_ | apply yb | refine yc rfl ?_ | ((first | apply yd | apply ye); simp (disch := first | exact yn | omega | (simp only [go_sem]; done) | (simp only [ln, ym]; omega) | (repeat' first | assumption | exact yo _ | refine yp ?_ _)) only [go_sem, hl1.len, hl1.idx, hl1.load, load_at g0, evC]; with_reducible rfl))))
  refine cond_p (p := (12 : Int) < (M.length : Int)) rfl (fun h4 => ?_) (fun h4 => ?_)
  · rw [bad 8 (by decide) (by rw [hlim, if_pos h4])]
    ((repeat (first | refine yv ?_ | apply yb | refine yc rfl ?_ | ((first | apply yd | apply ye); simp (disch := first | exact yn | omega | (simp only [go_sem]; done) | (simp only [ln, ym]; omega) | (repeat' first | assumption | exact yo _ | refine yp ?_ _)) only [go_sem]; with_reducible rfl))))
    exact fin_2 ⟨rfl, xG⟩
  rw [if_neg h4] at hlim
  have ec : ckEv L M = ckMarks (-1) 0 M := by unfold ckEv; rw [hlim, if_neg (by decide)]
  rw [ec]
  ((repeat (first | refine yv ?_ | apply yb | refine yc rfl ?_ | ((first | apply yd | apply ye); simp (disch := first | exact yn | omega | (simp only [go_sem]; done) | (simp only [ln, ym]; omega) | (repeat' first | assumption | exact yo _ | refine yp ?_ _)) only [go_sem]; with_reducible rfl))))
  refine awp_loop_n [false, true, false, false, true, false, false, false, false, false, false, false, false, false, false, false, false, false, false, false, false, false, false, false, false, false, false, false, false, false, false, false, false, false, false, false, false, false, false, false, false, false, false, false, false, false, false, false, false, false, false, false, false, false, false, false, false, false, false, false, false, false, false, false, false] M.length (fun i e H' => e = [junk, .pointer (some ⟨H.length, 0, none⟩), junk, junk, .int .i64 i, junk, junk, junk, junk, junk, junk, junk, junk, junk, junk, junk, junk, junk, junk, junk, junk, junk, junk, junk, junk, junk, junk, junk, junk, junk, junk, junk, junk, junk, junk, junk, junk, junk, junk, junk, junk, junk, junk, junk, junk, junk, junk, junk, junk, junk, junk, junk, junk, junk, junk, junk, junk, junk, junk, junk, junk, junk, junk, junk, junk] ∧ Ext G H' ∧ ckMarks (-1) 0 M = ckMarks (lastAt M i) i (M.drop i)) ?_ ?_
  · exact ⟨by simp [forget], Ext.refl _, rfl⟩
  rintro i e H' hi ⟨rfl, x3, hj⟩
  have hll := hl1.ext x3
  have k0 := x3.cell g0
  ((repeat (first | refine yv ?_ | apply yb | refine yc rfl ?_ | ((first | apply yd | apply ye); simp (disch := first | exact yn | omega | (simp only [go_sem]; done) | (simp only [ln, ym]; omega) | (repeat' first | assumption | exact yo _ | refine yp ?_ _)) only [go_sem, hll.len, hll.idx, hll.load, load_at k0, evC]; with_reducible rfl))))
  refine cond_p rfl (fun hlt => ?_) (fun hge => ?_)
  rotate_left 1
  · obtain rfl : i = M.length := by omega
    rw [ckMarks_end (i := M.length)] at hj
    ((repeat (first | refine yv ?_ | apply yb | refine yc rfl ?_ | ((first | apply yd | apply ye); simp (disch := first | exact yn | omega | (simp only [go_sem]; done) | (simp only [ln, ym]; omega) | (repeat' first | assumption | exact yo _ | refine yp ?_ _)) only [go_sem]; with_reducible rfl))))
    exact fin_2 ⟨by rw [hj]; rfl, xG.trans x3⟩
  have hi' : i < M.length := by omega
  rw [ckMarks_at hi', markO_cases M i (fun j _ => markE_pos _) hi'] at hj
  have hmk := hll.mark (Ext.refl H') hi'
  have hld := (hll.load (Ext.refl H') hi').2.2.2.2.2.2.2.1
  have hfd := (hll.load (Ext.refl H') hi').2.2.1
  have hix := hll.idx (H' := H') (i := (i : Int)) (k := .i64) (by omega) (by omega)
  rw [Int.toNat_natCast] at hix
  obtain ⟨x, hx⟩ : ∃ x, M.getD i (0, 0, 0) = x := ⟨_, rfl⟩
  rw [hx] at hj hmk hld
  ((repeat (first | refine yv ?_ | apply yb | refine yc rfl ?_ | ((first | apply yd | apply ye); simp (disch := first | exact yn | omega | (simp only [go_sem]; done) | (simp only [ln, ym]; omega) | (repeat' first | assumption | exact yo _ | refine yp ?_ _)) only [go_sem, load_at k0, evC, hix, hmk]; with_reducible rfl))))
  (refine aops_call_to (rMarkErr_c x) ?_)
  ((repeat (first | refine yv ?_ | apply yb | refine yc rfl ?_ | ((first | apply yd | apply ye); simp (disch := first | exact yn | omega | (simp only [go_sem]; done) | (simp only [ln, ym]; omega) | (repeat' first | assumption | exact yo _ | refine yp ?_ _)) only [go_sem]; with_reducible rfl))))
  refine cond_p rfl (fun hne => ?_) (fun heq => ?_)
  · rw [if_pos hne, if_pos hne] at hj
    ((repeat (first | refine yv ?_ | apply yb | refine yc rfl ?_ | ((first | apply yd | apply ye); simp (disch := first | exact yn | omega | (simp only [go_sem]; done) | (simp only [ln, ym]; omega) | (repeat' first | assumption | exact yo _ | refine yp ?_ _)) only [go_sem]; with_reducible rfl))))
    exact fin_2 ⟨by rw [hj]; rfl, xG.trans x3⟩
  rw [if_neg heq] at hj
  rcases Nat.eq_zero_or_pos i with hi0 | hi0
  · rw [if_neg (show ¬ (0 < i ∧ x.1 ≤ lastAt M i) by omega), if_neg (show ¬ (0 : Int) ≠ 0 from fun h => h rfl)] at hj
    ((repeat (first | refine yv ?_ | apply yb | refine yc rfl ?_ | ((first | apply yd | apply ye); simp (disch := first | exact yn | omega | (simp only [go_sem]; done) | (simp only [ln, ym]; omega) | (repeat' first | assumption | exact yo _ | refine yp ?_ _)) only [go_sem, dec_f (show ¬ (0 : Int) < (i : Int) by omega)]; with_reducible rfl))))
    refine cond_f rfl ?_
    ((repeat (first | refine yv ?_ | apply yb | refine yc rfl ?_ | ((first | apply yd | apply ye); simp (disch := first | exact yn | omega | (simp only [go_sem]; done) | (simp only [ln, ym]; omega) | (repeat' first | assumption | exact yo _ | refine yp ?_ _)) only [go_sem]; with_reducible rfl))))
    exact ⟨by omega, by simp [forget], x3, hj⟩
  · obtain ⟨p, rfl⟩ : ∃ p, i = p + 1 := ⟨i - 1, by omega⟩
    have ep : (((p + 1 : Nat) : Int)) - 1 = (p : Int) := by omega
    have hld2 := (hll.load (Ext.refl H') (i := p) (by omega)).2.2.2.2.2.2.2.1
    have hfd2 := (hll.load (Ext.refl H') (i := p) (by omega)).2.2.1
    have hix2 := hll.idx (H' := H') (i := (p : Int)) (k := .i64) (by omega) (by omega)
    rw [Int.toNat_natCast] at hix2
    have els : lastAt M (p + 1) = (M.getD p (0, 0, 0)).1 := lastAt_succ
    rw [els] at hj
    have e2 : ((p + 1 : Nat) : Int) + 1 = ((p + 1 + 1 : Nat) : Int) := by omega
    by_cases h9 : x.1 ≤ (M.getD p (0, 0, 0)).1
    · rw [if_pos (show 0 < p + 1 ∧ x.1 ≤ (M.getD p (0, 0, 0)).1 from ⟨hi0, h9⟩), if_pos (show (9 : Int) ≠ 0 by decide)] at hj
      ((repeat (first | refine yv ?_ | apply yb | refine yc rfl ?_ | ((first | apply yd | apply ye); simp (disch := first | exact yn | omega | (simp only [go_sem]; done) | (simp only [ln, ym]; omega) | (repeat' first | assumption | exact yo _ | refine yp ?_ _)) only [go_sem, dec_t (show (0 : Int) < ((p + 1 : Nat) : Int) by omega), load_at k0, evC, hix, hfd, hld, ep, hix2, hfd2, hld2, dec_t h9]; with_reducible rfl))))
      refine cond_t rfl ?_
      ((repeat (first | refine yv ?_ | apply yb | refine yc rfl ?_ | ((first | apply yd | apply ye); simp (disch := first | exact yn | omega | (simp only [go_sem]; done) | (simp only [ln, ym]; omega) | (repeat' first | assumption | exact yo _ | refine yp ?_ _)) only [go_sem]; with_reducible rfl))))
      exact fin_2 ⟨by rw [hj]; rfl, xG.trans x3⟩
    · rw [if_neg (show ¬ (0 < p + 1 ∧ x.1 ≤ (M.getD p (0, 0, 0)).1) from fun h => h9 h.2), if_neg (show ¬ (0 : Int) ≠ 0 from fun h => h rfl)] at hj
      ((repeat (first | refine yv ?_ | apply yb | refine yc rfl ?_ | ((first | apply yd | apply ye); simp (disch := first | exact yn | omega | (simp only [go_sem]; done) | (simp only [ln, ym]; omega) | (repeat' first | assumption | exact yo _ | refine yp ?_ _)) only [go_sem, dec_t (show (0 : Int) < ((p + 1 : Nat) : Int) by omega), load_at k0, evC, hix, hfd, hld, ep, hix2, hfd2, hld2, dec_f h9]; with_reducible rfl))))
      refine cond_f rfl ?_
      ((repeat (first | refine yv ?_ | apply yb | refine yc rfl ?_ | ((first | apply yd | apply ye); simp (disch := first | exact yn | omega | (simp only [go_sem]; done) | (simp only [ln, ym]; omega) | (repeat' first | assumption | exact yo _ | refine yp ?_ _)) only [go_sem, e2]; with_reducible rfl))))
      exact ⟨by omega, by simp [forget], x3, hj⟩
theorem rEvErr_c (hl : Tris H M v) (hb : M.length ≤ 1000000000) : ACall Go.Proofs.Try.prog 38 [evV L v] H fun w H' => w = .int .i64 (evErrL L M) ∧ H' = H := by
  refine ACall.drop (.int _ _) ?_
  (refine a38 ?_; simp only [n38, List.replicate, yq, yr, yt, yu]; first | refine q1 ?_ | refine q2 ?_ | refine q6 ?_ | refine q7 ?_ | refine qh rfl ?_ | skip)
  have g0 : (H ++ [AObj.cells true 0 (evC L v)])[H.length]? = some (.cells true 0 (evC L v)) := at_new
  have xG : Ext H (H ++ [AObj.cells true 0 (evC L v)]) := (Ext.refl H).app _
  (repeat (first | refine yv ?_ | (apply yd; simp (disch := first | exact yn | omega | (simp only [go_sem]; done) | (simp only [ln, ym]; omega) | (repeat' first | assumption | exact yo _ | refine yp ?_ _)) only [go_sem, box_ev hl.atom]; with_reducible rfl)))
  generalize (H ++ [AObj.cells true 0 (evC L v)] : AHeap) = G at g0 xG
  ((repeat (first | refine yv ?_ | apply yb | refine yc rfl ?_ | ((first | apply yd | apply ye); simp (disch := first | exact yn | omega | (simp only [go_sem]; done) | (simp only [ln, ym]; omega) | (repeat' first | assumption | exact yo _ | refine yp ?_ _)) only [go_sem, load_ev g0]; with_reducible rfl))))
  (refine aops_call_to (rCheckEv_c (hl.ext xG) hb) ?_)
  ((repeat (first | refine yv ?_ | apply yb | refine yc rfl ?_ | ((first | apply yd | apply ye); simp (disch := first | exact yn | omega | (simp only [go_sem]; done) | (simp only [ln, ym]; omega) | (repeat' first | assumption | exact yo _ | refine yp ?_ _)) only [go_sem]; with_reducible rfl))))
  exact fin_1 ⟨rfl, xG⟩
theorem rBy_c {i : Nat} {q : Int} (hv : isAtom v = true) (hk : EvOk L M) (hi : i < M.length) (hq : 0 ≤ q ∧ q ≤ 1000000) :
    ACall Go.Proofs.Try.prog 84 [evV L v, markV (M.getD i (0, 0, 0)), .int .i64 q] H fun w H' => w = fracV (byR L (M.getD i (0, 0, 0)) q) ∧ H' = H := by
  refine ACall.drop (closed_frac _) ?_
  obtain ⟨m1, m2⟩ := byR_bound hk hi hq
  have t1 := hk.t1 i hi
  have t2 := hk.t2 i hi
  have hp := hk.pos i hi
  have hle := hk.le
  generalize M.getD i (0, 0, 0) = x at *
  (refine a84 ?_; simp only [n84, List.replicate, yq, yr, yt, yu]; first | refine q1 ?_ | refine q2 ?_ | refine q6 ?_ | refine q7 ?_ | refine qh rfl ?_ | skip)
  obtain ⟨G, hG⟩ : ∃ G, G = H ++ [AObj.cells true 0 (evC L v)] ++ [AObj.cells true 0 (markC x)] ++ [AObj.cells true 0 [.int .i64 0, .int .i64 0]] := ⟨_, rfl⟩
  have g0 : G[H.length]? = some (.cells true 0 (evC L v)) := by rw [hG]; simp
  have g1 : G[H.length + 1]? = some (.cells true 0 (markC x)) := by rw [hG]; simp
  have g2 : G[H.length + 2]? = some (.cells true 0 [.int .i64 0, .int .i64 0]) := by rw [hG]; simp
  have xG : Ext H G := by rw [hG]; exact (((Ext.refl H).app _).app _).app _
  (repeat (first | refine yv ?_ | (apply yd; simp (disch := first | exact yn | omega | (simp only [go_sem]; done) | (simp only [ln, ym]; omega) | (repeat' first | assumption | exact yo _ | refine yp ?_ _)) only [go_sem, box_ev hv, box_mark]; with_reducible rfl)))
  (simp only [List.length_append, List.length_cons, List.length_nil, Nat.zero_add, Nat.add_assoc, Nat.reduceAdd])
  rw [← hG]
  clear hG
  ((repeat (first | refine yv ?_ | apply yb | refine yc rfl ?_ | ((first | apply yd | apply ye); simp (disch := first | exact yn | omega | (simp only [go_sem]; done) | (simp only [ln, ym]; omega) | (repeat' first | assumption | exact yo _ | refine yp ?_ _)) only [go_sem, load_at g1, markC]; with_reducible rfl))))
  refine cond_p (p := 0 ≤ q - x.1) rfl (fun h => ?_) (fun h => ?_)
  · have er := byR_up hle h
    obtain ⟨a, ha⟩ : ∃ a, L.1 * (q - x.1) = a := ⟨_, rfl⟩
    obtain ⟨b, hb⟩ : ∃ b, L.2 * (q - x.1) = b := ⟨_, rfl⟩
    rw [ha] at m1
    rw [hb] at m2
    rw [ha, hb] at er
    rw [er]
    ((repeat (first | refine yv ?_ | apply yb | refine yc rfl ?_ | ((first | apply yd | apply ye); simp (disch := first | exact yn | omega | (simp only [go_sem]; done) | (simp only [ln, ym]; omega) | (repeat' first | assumption | exact yo _ | refine yp ?_ _)) only [go_sem, load_at g0, load_at g1, evC, markC, ha, hb, fill2i, store_b2 g2]; with_reducible rfl))))
    refine fin_l1 (u := .agg ⟨[.int .i64 (x.2.1 + a), .int .i64 (x.2.2 + b)]⟩) (loadN_at (k := 0) (get_set_self g2) (by simp)) ⟨rfl, xG.set (by omega) _⟩
  · have er := byR_down hle (q := q) (x := x) (by omega)
    have e1 : L.1 * (q - x.1) = -(L.1 * (x.1 - q)) := by rw [← Int.mul_neg]; congr 1; omega
    have e2 : L.2 * (q - x.1) = -(L.2 * (x.1 - q)) := by rw [← Int.mul_neg]; congr 1; omega
    rw [e1] at m1
    rw [e2] at m2
    obtain ⟨a, ha⟩ : ∃ a, L.1 * (x.1 - q) = a := ⟨_, rfl⟩
    obtain ⟨b, hb⟩ : ∃ b, L.2 * (x.1 - q) = b := ⟨_, rfl⟩
    rw [ha] at m1
    rw [hb] at m2
    rw [ha, hb] at er
    rw [er]
    ((repeat (first | refine yv ?_ | apply yb | refine yc rfl ?_ | ((first | apply yd | apply ye); simp (disch := first | exact yn | omega | (simp only [go_sem]; done) | (simp only [ln, ym]; omega) | (repeat' first | assumption | exact yo _ | refine yp ?_ _)) only [go_sem, load_at g0, load_at g1, evC, markC, ha, hb, fill2i, store_b2 g2]; with_reducible rfl))))
    refine fin_l1 (u := .agg ⟨[.int .i64 (x.2.1 - b), .int .i64 (x.2.2 - a)]⟩) (loadN_at (k := 0) (get_set_self g2) (by simp)) ⟨rfl, xG.set (by omega) _⟩
end
end Go.Lq

namespace Go.Lq
open Go
open Go.Proofs

def clashV (o : Option (Nat × Nat)) : Int × Int := match o with | some r => ((r.1 : Int), (r.2 : Int)) | none => (0, 0)
theorem clashRow_succ {L : Int × Int} {M : List Mark} {i k n : Nat} : clashRow L M i k (n + 1) = if clashB L (M.getD i (0, 0, 0)) (M.getD k (0, 0, 0)) = true then some (i, k) else clashRow L M i (k + 1) n := rfl
theorem clashFrom_succ {L : Int × Int} {M : List Mark} {i n : Nat} : clashFrom L M i (n + 1) = match clashRow L M i (i + 1) n with | some r => some r | none => clashFrom L M (i + 1) n := rfl
section
variable {H : AHeap} {L : Int × Int} {M : List Mark} {v : Value}
set_option maxHeartbeats 4000000 in
theorem rContradict_c {i k : Nat} (hl : Tris H M v) (hk : EvOk L M) (hi : i < M.length) (hkl : k < M.length) :
    ACall Go.Proofs.Try.prog 119 [evV L v, .int .i64 i, .int .i64 k] H fun w H' => w = .bool (clashB L (M.getD i (0, 0, 0)) (M.getD k (0, 0, 0))) ∧ H' = H := by
  refine ACall.drop (.bool _) ?_
  have hlen := hk.len
  have hq := hk.pos k hkl
  (refine a119 ?_; simp only [n119, List.replicate, yq, yr, yt, yu]; first | refine q1 ?_ | refine q2 ?_ | refine q6 ?_ | refine q7 ?_ | refine qh rfl ?_ | skip)
  have g0 : (H ++ [AObj.cells true 0 (evC L v)])[H.length]? = some (.cells true 0 (evC L v)) := at_new
  have xG : Ext H (H ++ [AObj.cells true 0 (evC L v)]) := (Ext.refl H).app _
  (repeat (first | refine yv ?_ | (apply yd; simp (disch := first | exact yn | omega | (simp only [go_sem]; done) | (simp only [ln, ym]; omega) | (repeat' first | assumption | exact yo _ | refine yp ?_ _)) only [go_sem, box_ev hl.atom]; with_reducible rfl)))
  generalize (H ++ [AObj.cells true 0 (evC L v)] : AHeap) = G at g0 xG
  have hl1 := hl.ext xG
  have hby := rBy_c (H := G) (v := v) (L := L) (M := M) (i := i) hl.atom hk hi hq
  have hmk := hl1.mark (Ext.refl G) hi
  have ix1 := hl1.idx (H' := G) (i := (i : Int)) (k := .i64) (by omega) (by omega)
  have ix2 := hl1.idx (H' := G) (i := (k : Int)) (k := .i64) (by omega) (by omega)
  rw [Int.toNat_natCast] at ix1 ix2
  obtain ⟨-, -, f0, -, -, -, -, d0, -, -⟩ := hl1.load (Ext.refl G) hkl
  ((repeat (first | refine yv ?_ | apply yb | refine yc rfl ?_ | ((first | apply yd | apply ye); simp (disch := first | exact yn | omega | (simp only [go_sem]; done) | (simp only [ln, ym]; omega) | (repeat' first | assumption | exact yo _ | refine yp ?_ _)) only [go_sem, load_ev g0, load_at g0, evC, ix1, hmk, ix2, f0, d0]; with_reducible rfl))))
  (refine adraw_call (N := []) (firstD (hby)) ?_; rw [List.append_nil])
  have er : clashB L (M.getD i (0, 0, 0)) (M.getD k (0, 0, 0)) = decide ((byR L (M.getD i (0, 0, 0)) (M.getD k (0, 0, 0)).1).2 < (M.getD k (0, 0, 0)).2.1 ∨ (M.getD k (0, 0, 0)).2.2 < (byR L (M.getD i (0, 0, 0)) (M.getD k (0, 0, 0)).1).1) := rfl
  rw [er]
  generalize byR L (M.getD i (0, 0, 0)) (M.getD k (0, 0, 0)).1 = r
  have g3 : (G ++ [AObj.cells true 0 [.int .i64 r.1, .int .i64 r.2]])[G.length]? = some (.cells true 0 [.int .i64 r.1, .int .i64 r.2]) := at_new
  have x3 : Ext G (G ++ [AObj.cells true 0 [.int .i64 r.1, .int .i64 r.2]]) := (Ext.refl G).app _
  obtain ⟨G3, hG3⟩ : ∃ G3, G ++ [AObj.cells true 0 [.int .i64 r.1, .int .i64 r.2]] = G3 := ⟨_, rfl⟩
  rw [hG3] at g3 x3
  have k0 := x3.cell g0
  have hl2 := hl1.ext x3
  have ix3 := hl2.idx (H' := G3) (i := (k : Int)) (k := .i64) (by omega) (by omega)
  rw [Int.toNat_natCast] at ix3
  obtain ⟨-, -, -, f1, -, f2, f3, -, d1, d2⟩ := hl2.load (Ext.refl G3) hkl
  generalize M.getD k (0, 0, 0) = y at *
  (repeat (first | refine yv ?_ | (apply ye; simp (disch := first | exact yn | omega | (simp only [go_sem]; done) | (simp only [ln, ym]; omega) | (repeat' first | assumption | exact yo _ | refine yp ?_ _)) only [go_sem, fracV]; with_reducible rfl)))
  rw [hG3]
  by_cases h1 : y.2.2 < r.1
  · ((repeat (first | refine yv ?_ | apply yb | refine yc rfl ?_ | ((first | apply yd | apply ye); simp (disch := first | exact yn | omega | (simp only [go_sem]; done) | (simp only [ln, ym]; omega) | (repeat' first | assumption | exact yo _ | refine yp ?_ _)) only [go_sem, load_at g3, load_at k0, evC, ix3, f1, f2, f3, d1, d2, dec_t h1]; with_reducible rfl))))
    refine fin_1 ⟨?_, xG.trans x3⟩
    simp [h1]
  · ((repeat (first | refine yv ?_ | apply yb | refine yc rfl ?_ | ((first | apply yd | apply ye); simp (disch := first | exact yn | omega | (simp only [go_sem]; done) | (simp only [ln, ym]; omega) | (repeat' first | assumption | exact yo _ | refine yp ?_ _)) only [go_sem, load_at g3, load_at k0, evC, ix3, f1, f2, f3, d1, d2, dec_f h1]; with_reducible rfl))))
    refine fin_1 ⟨?_, xG.trans x3⟩
    simp [h1]
set_option maxHeartbeats 4000000 in
theorem rClashOf_c (hl : Tris H M v) (hk : EvOk L M) : ACall Go.Proofs.Try.prog 64 [evV L v] H fun w H' => w = .tuple #[fracV (clashV (clashL L M)), .bool (clashL L M).isSome] ∧ H' = H := by
  refine ACall.drop (.tuple _ (closed_list (l := [fracV (clashV (clashL L M)), .bool (clashL L M).isSome]) fun v hv => by
    simp only [List.mem_cons, List.not_mem_nil, or_false] at hv
    rcases hv with rfl | rfl
    · exact closed_frac _
    · exact .bool _)) ?_
  have hlen := hk.len
  (refine a64 ?_; simp only [n64, List.replicate, yq, yr, yt, yu]; first | refine q1 ?_ | refine q2 ?_ | refine q6 ?_ | refine q7 ?_ | refine qh rfl ?_ | skip)
  obtain ⟨G, hG⟩ : ∃ G, G = H ++ [AObj.cells true 0 (evC L v)] ++ [AObj.cells true 0 [.int .i64 0, .int .i64 0]] := ⟨_, rfl⟩
  have g0 : G[H.length]? = some (.cells true 0 (evC L v)) := by rw [hG]; simp
  have g1 : G[H.length + 1]? = some (.cells true 0 [.int .i64 0, .int .i64 0]) := by rw [hG]; simp
  have xG : Ext H G := by rw [hG]; exact ((Ext.refl H).app _).app _
  (repeat (first | refine yv ?_ | (apply yd; simp (disch := first | exact yn | omega | (simp only [go_sem]; done) | (simp only [ln, ym]; omega) | (repeat' first | assumption | exact yo _ | refine yp ?_ _)) only [go_sem, box_ev hl.atom]; with_reducible rfl)))
  (simp only [List.length_append, List.length_cons, List.length_nil, Nat.zero_add, Nat.add_assoc, Nat.reduceAdd])
  rw [← hG]
  clear hG
  have hlG := hl.ext xG
  ((repeat (first | refine yv ?_ | apply yb | refine yc rfl ?_ | ((first | apply yd | apply ye); simp (disch := first | exact yn | omega | (simp only [go_sem]; done) | (simp only [ln, ym]; omega) | (repeat' first | assumption | exact yo _ | refine yp ?_ _)) only [go_sem]; with_reducible rfl))))
  refine awp_loop_n [false, true, true, false, true, false, false, false, false, false, false, false, false, false, false, false, false, false, false, false, false, false, false, false, false, false, false, false, false, false] M.length (fun i e H' => e = [junk, .pointer (some ⟨H.length, 0, none⟩), .pointer (some ⟨H.length + 1, 0, none⟩), junk, .int .i64 i, junk, junk, junk, junk, junk, junk, junk, junk, junk, junk, junk, junk, junk, junk, junk, junk, junk, junk, junk, junk, junk, junk, junk, junk, junk] ∧ H' = G ∧ clashL L M = clashFrom L M i (M.length - i)) ?_ ?_
  · exact ⟨by simp [forget], rfl, rfl⟩
  rintro i e H' hi ⟨rfl, rfl, hc⟩
  ((repeat (first | refine yv ?_ | apply yb | refine yc rfl ?_ | ((first | apply yd | apply ye); simp (disch := first | exact yn | omega | (simp only [go_sem]; done) | (simp only [ln, ym]; omega) | (repeat' first | assumption | exact yo _ | refine yp ?_ _)) only [go_sem, hlG.len, hlG.idx, hlG.load, load_at g0, evC]; with_reducible rfl))))
  refine cond_p rfl (fun hlt => ?_) (fun hge => ?_)
  rotate_left 1
  · obtain rfl : i = M.length := by omega
    rw [Nat.sub_self] at hc
    have hc : clashL L M = none := hc
    rw [hc]
    ((repeat (first | refine yv ?_ | apply yb | refine yc rfl ?_ | ((first | apply yd | apply ye); simp (disch := first | exact yn | omega | (simp only [go_sem]; done) | (simp only [ln, ym]; omega) | (repeat' first | assumption | exact yo _ | refine yp ?_ _)) only [go_sem, fill_none, store_b2 g1]; with_reducible rfl))))
    refine fin_l2f rfl (get_set_self g1) ⟨rfl, xG.set (by omega) _⟩
  have hi' : i < M.length := by omega
  obtain ⟨n, hn⟩ : ∃ n, n = M.length - (i + 1) := ⟨_, rfl⟩
  rw [show M.length - i = n + 1 by omega, clashFrom_succ] at hc
  have e1 : (i : Int) + 1 = ((i + 1 : Nat) : Int) := by omega
  ((repeat (first | refine yv ?_ | apply yb | refine yc rfl ?_ | ((first | apply yd | apply ye); simp (disch := first | exact yn | omega | (simp only [go_sem]; done) | (simp only [ln, ym]; omega) | (repeat' first | assumption | exact yo _ | refine yp ?_ _)) only [go_sem, e1]; with_reducible rfl))))
  refine awp_loop_n [false, true, true, false, true, true, false, false, false, false, false, false, false, false, false, false, false, false, false, false, false, false, false, false, false, false, false, false, false, false] n (fun j e H2 => e = [junk, .pointer (some ⟨H.length, 0, none⟩), .pointer (some ⟨H.length + 1, 0, none⟩), junk, .int .i64 i, .int .i64 ((i + 1 + j : Nat) : Int), junk, junk, junk, junk, junk, junk, junk, junk, junk, junk, junk, junk, junk, junk, junk, junk, junk, junk, junk, junk, junk, junk, junk, junk] ∧ H2 = H' ∧ clashRow L M i (i + 1) n = clashRow L M i (i + 1 + j) (n - j)) ?_ ?_
  · exact ⟨by simp [forget], rfl, rfl⟩
  rintro j e H2 hj ⟨rfl, rfl, hr⟩
  obtain ⟨k, hkk⟩ : ∃ k, i + 1 + j = k := ⟨_, rfl⟩
  rw [hkk] at hr
  simp only [hkk]
  ((repeat (first | refine yv ?_ | apply yb | refine yc rfl ?_ | ((first | apply yd | apply ye); simp (disch := first | exact yn | omega | (simp only [go_sem]; done) | (simp only [ln, ym]; omega) | (repeat' first | assumption | exact yo _ | refine yp ?_ _)) only [go_sem, hlG.len, hlG.idx, hlG.load, load_at g0, evC]; with_reducible rfl))))
  refine cond_p rfl (fun hlt2 => ?_) (fun hge2 => ?_)
  rotate_left 1
  · rw [show n - j = 0 by omega] at hr
    have hr : clashRow L M i (i + 1) n = none := hr
    rw [hr] at hc
    ((repeat (first | refine yv ?_ | apply yb | refine yc rfl ?_ | ((first | apply yd | apply ye); simp (disch := first | exact yn | omega | (simp only [go_sem]; done) | (simp only [ln, ym]; omega) | (repeat' first | assumption | exact yo _ | refine yp ?_ _)) only [go_sem, e1]; with_reducible rfl))))
    exact ⟨by omega, by simp [forget], rfl, by rw [show M.length - (i + 1) = n by omega]; exact hc⟩
  rw [show n - j = n - (j + 1) + 1 by omega, clashRow_succ] at hr
  ((repeat (first | refine yv ?_ | apply yb | refine yc rfl ?_ | ((first | apply yd | apply ye); simp (disch := first | exact yn | omega | (simp only [go_sem]; done) | (simp only [ln, ym]; omega) | (repeat' first | assumption | exact yo _ | refine yp ?_ _)) only [go_sem, load_ev g0]; with_reducible rfl))))
  (refine aops_call_to (rContradict_c hlG hk hi' (by omega)) ?_)
  cases hcb : clashB L (M.getD i (0, 0, 0)) (M.getD k (0, 0, 0)) with
  | true =>
    rw [hcb, if_pos rfl] at hr
    rw [hr] at hc
    have hc : clashL L M = some (i, k) := hc
    rw [hc]
    ((repeat (first | refine yv ?_ | apply yb | refine yc rfl ?_ | ((first | apply yd | apply ye); simp (disch := first | exact yn | omega | (simp only [go_sem]; done) | (simp only [ln, ym]; omega) | (repeat' first | assumption | exact yo _ | refine yp ?_ _)) only [go_sem]; with_reducible rfl))))
    refine cond_t rfl ?_
    ((repeat (first | refine yv ?_ | apply yb | refine yc rfl ?_ | ((first | apply yd | apply ye); simp (disch := first | exact yn | omega | (simp only [go_sem]; done) | (simp only [ln, ym]; omega) | (repeat' first | assumption | exact yo _ | refine yp ?_ _)) only [go_sem, fill2i, store_b2 g1]; with_reducible rfl))))
    refine fin_l2f rfl (get_set_self g1) ⟨rfl, xG.set (by omega) _⟩
  | false =>
    rw [hcb, if_neg (by simp)] at hr
    have e2 : (k : Int) + 1 = ((i + 1 + (j + 1) : Nat) : Int) := by omega
    ((repeat (first | refine yv ?_ | apply yb | refine yc rfl ?_ | ((first | apply yd | apply ye); simp (disch := first | exact yn | omega | (simp only [go_sem]; done) | (simp only [ln, ym]; omega) | (repeat' first | assumption | exact yo _ | refine yp ?_ _)) only [go_sem]; with_reducible rfl))))
    refine cond_f rfl ?_
    ((repeat (first | refine yv ?_ | apply yb | refine yc rfl ?_ | ((first | apply yd | apply ye); simp (disch := first | exact yn | omega | (simp only [go_sem]; done) | (simp only [ln, ym]; omega) | (repeat' first | assumption | exact yo _ | refine yp ?_ _)) only [go_sem, e2]; with_reducible rfl))))
    exact ⟨by omega, by simp [forget], rfl, by rw [hr, show i + 1 + (j + 1) = k + 1 by omega]⟩
theorem rIsPossible_c (hl : Tris H M v) (hk : EvOk L M) : ACall Go.Proofs.Try.prog 24 [evV L v] H fun w H' => w = .bool (decide (clashL L M = none)) ∧ H' = H := by
  refine ACall.drop (.bool _) ?_
  (refine a24 ?_; simp only [n24, List.replicate, yq, yr, yt, yu]; first | refine q1 ?_ | refine q2 ?_ | refine q6 ?_ | refine q7 ?_ | refine qh rfl ?_ | skip)
  have g0 : (H ++ [AObj.cells true 0 (evC L v)])[H.length]? = some (.cells true 0 (evC L v)) := at_new
  have xG : Ext H (H ++ [AObj.cells true 0 (evC L v)]) := (Ext.refl H).app _
  (repeat (first | refine yv ?_ | (apply yd; simp (disch := first | exact yn | omega | (simp only [go_sem]; done) | (simp only [ln, ym]; omega) | (repeat' first | assumption | exact yo _ | refine yp ?_ _)) only [go_sem, box_ev hl.atom]; with_reducible rfl)))
  generalize (H ++ [AObj.cells true 0 (evC L v)] : AHeap) = G at g0 xG
  ((repeat (first | refine yv ?_ | apply yb | refine yc rfl ?_ | ((first | apply yd | apply ye); simp (disch := first | exact yn | omega | (simp only [go_sem]; done) | (simp only [ln, ym]; omega) | (repeat' first | assumption | exact yo _ | refine yp ?_ _)) only [go_sem, load_ev g0]; with_reducible rfl))))
  (refine aops_call_to (rClashOf_c (hl.ext xG) hk) ?_)
  ((repeat (first | refine yv ?_ | apply yb | refine yc rfl ?_ | ((first | apply yd | apply ye); simp (disch := first | exact yn | omega | (simp only [go_sem]; done) | (simp only [ln, ym]; omega) | (repeat' first | assumption | exact yo _ | refine yp ?_ _)) only [go_sem, store_newF]; with_reducible rfl))))
  refine fin_1 ⟨?_, xG.app _⟩
  cases clashL L M <;> simp
end
end Go.Lq

namespace Go.Lq
open Go
open Go.Proofs

def anyErr (L : Int × Int) (M : List Mark) : Int := if fewE L M ≠ 0 then fewE L M else if clashL L M = none then 0 else 13
def anyRes (L : Int × Int) (M : List Mark) : List (Int × Int) := if anyErr L M = 0 then anyL L M else []
section
variable {H : AHeap} {L : Int × Int} {M : List Mark} {v : Value}
set_option maxHeartbeats 8000000 in
theorem anyMap_c (hl : Tris H M v) (hb : M.length ≤ 1000000000) : ACall Go.Proofs.Try.prog 42 [evV L v] H fun w H' => Ext H H' ∧ ∃ s, w = .tuple #[.agg ⟨[s]⟩, .int .i64 (anyErr L M)] ∧ Pairs H' (anyRes L M) s := by
  (refine a42 ?_; simp only [n42, List.replicate, yq, yr, yt, yu]; first | refine q1 ?_ | refine q2 ?_ | refine q6 ?_ | refine q7 ?_ | refine qh rfl ?_ | skip)
  obtain ⟨G, hG⟩ : ∃ G, G = H ++ [AObj.cells true 0 (evC L v)] ++ [AObj.cells true 0 [.slice none 0 0]] := ⟨_, rfl⟩
  have g0 : G[H.length]? = some (.cells true 0 (evC L v)) := by rw [hG]; simp
  have g1 : G[H.length + 1]? = some (.cells true 0 [.slice none 0 0]) := by rw [hG]; simp
  have xG : Ext H G := by rw [hG]; exact ((Ext.refl H).app _).app _
  have lG : G.length = H.length + 2 := by rw [hG]; simp
  (repeat (first | refine yv ?_ | (apply yd; simp (disch := first | exact yn | omega | (simp only [go_sem]; done) | (simp only [ln, ym]; omega) | (repeat' first | assumption | exact yo _ | refine yp ?_ _)) only [go_sem, box_ev hl.atom]; with_reducible rfl)))
  (simp only [List.length_append, List.length_cons, List.length_nil, Nat.zero_add, Nat.add_assoc, Nat.reduceAdd])
  rw [← hG]
  clear hG
  ((repeat (first | refine yv ?_ | apply yb | refine yc rfl ?_ | ((first | apply yd | apply ye); simp (disch := first | exact yn | omega | (simp only [go_sem]; done) | (simp only [ln, ym]; omega) | (repeat' first | assumption | exact yo _ | refine yp ?_ _)) only [go_sem, load_ev g0]; with_reducible rfl))))
  refine aops_call ((open_c (hl.ext xG) hb).mono fun w G2 ⟨hw, x2⟩ => ?_)
  subst hw
  have l2 := x2.len
  have hst : storeR 3 (.pointer (some ⟨G2.length, 0, none⟩)) (evV L v) (G2 ++ [.cells true 0 [.int .i64 0, .int .i64 0, .slice none 0 0]]) = some (undef, G2 ++ [.cells true 0 (evC L v)]) := store_newN (by simp [hl.atom, isAtom_int]) rfl rfl
  ((repeat (first | refine yv ?_ | apply yb | refine yc rfl ?_ | ((first | apply yd | apply ye); simp (disch := first | exact yn | omega | (simp only [go_sem]; done) | (simp only [ln, ym]; omega) | (repeat' first | assumption | exact yo _ | refine yp ?_ _)) only [go_sem, hst]; with_reducible rfl))))
  have k4 : (G2 ++ [AObj.cells true 0 (evC L v)])[G2.length]? = some (.cells true 0 (evC L v)) := at_new
  have x3 := x2.app [AObj.cells true 0 (evC L v)]
  obtain ⟨a4, ha4⟩ : ∃ a4, G2.length = a4 := ⟨_, rfl⟩
  have l3 : (G2 ++ [AObj.cells true 0 (evC L v)]).length = a4 + 1 := by simp [ha4]
  rw [ha4] at k4 l2 ⊢
  generalize (G2 ++ [AObj.cells true 0 (evC L v)] : AHeap) = G3 at k4 x3 l3
  have xH3 := xG.trans x3
  have hl3 := hl.ext xH3
  have k0 := x3.cell g0
  have k1 := x3.cell g1
  clear hst
  ((repeat (first | refine yv ?_ | apply yb | refine yc rfl ?_ | ((first | apply yd | apply ye); simp (disch := first | exact yn | omega | (simp only [go_sem]; done) | (simp only [ln, ym]; omega) | (repeat' first | assumption | exact yo _ | refine yp ?_ _)) only [go_sem, hl3.len, hl3.idx, hl3.load, load_at k0, evC]; with_reducible rfl))))
  (refine aops_call_to (sunless_c _ _) ?_)
  ((repeat (first | refine yv ?_ | apply yb | refine yc rfl ?_ | ((first | apply yd | apply ye); simp (disch := first | exact yn | omega | (simp only [go_sem]; done) | (simp only [ln, ym]; omega) | (repeat' first | assumption | exact yo _ | refine yp ?_ _)) only [go_sem]; with_reducible rfl))))
  (refine aops_call_to (sfirst_c (l := [_, _]) (Ints.last (l := [_, _]) 2) (by simp)) ?_)
  have e1 : firstErr [evErrL L M, (if decide ((2 : Int) ≤ (M.length : Int)) = true then 0 else 10)] = fewE L M := by
    unfold fewE
    have e0 : ((2 : Int) ≤ (M.length : Int)) = (2 ≤ M.length) := by simp; omega
    simp only [decide_eq_true_eq, e0]
  rw [e1]
  have x4 := x3.app [AObj.cells true 1 [.int .i64 (evErrL L M), .int .i64 (if decide ((2 : Int) ≤ (M.length : Int)) = true then 0 else 10)]]
  have k4 := at_app (N := [AObj.cells true 1 [.int .i64 (evErrL L M), .int .i64 (if decide ((2 : Int) ≤ (M.length : Int)) = true then 0 else 10)]]) k4
  generalize (G3 ++ [AObj.cells true 1 [.int .i64 (evErrL L M), .int .i64 (if decide ((2 : Int) ≤ (M.length : Int)) = true then 0 else 10)]] : AHeap) = G4 at x4 k4
  have xH4 := xG.trans x4
  have hl4 := hl.ext xH4
  have k0 := x4.cell g0
  have k1 := x4.cell g1
  by_cases hfe : fewE L M = 0
  rotate_left 1
  · have ee : anyErr L M = fewE L M := by unfold anyErr; rw [if_pos hfe]
    have er : anyRes L M = [] := by unfold anyRes; rw [ee, if_neg hfe]
    rw [ee, er]
    ((repeat (first | refine yv ?_ | apply yb | refine yc rfl ?_ | ((first | apply yd | apply ye); simp (disch := first | exact yn | omega | (simp only [go_sem]; done) | (simp only [ln, ym]; omega) | (repeat' first | assumption | exact yo _ | refine yp ?_ _)) only [go_sem, dec_t (show fewE L M ≠ 0 from hfe)]; with_reducible rfl))))
    refine cond_t rfl ?_
    ((repeat (first | refine yv ?_ | apply yb | refine yc rfl ?_ | ((first | apply yd | apply ye); simp (disch := first | exact yn | omega | (simp only [go_sem]; done) | (simp only [ln, ym]; omega) | (repeat' first | assumption | exact yo _ | refine yp ?_ _)) only [go_sem, fill_none, store_a1 (y := .slice none 0 0) k1 rfl]; with_reducible rfl))))
    exact fin_l2a rfl (get_set_self k1) ⟨xH4.set (by omega) _, _, rfl, pairs_nil _⟩
  obtain ⟨hk, h2⟩ := fewE_ok hfe
  have hlen := hk.len
  ((repeat (first | refine yv ?_ | apply yb | refine yc rfl ?_ | ((first | apply yd | apply ye); simp (disch := first | exact yn | omega | (simp only [go_sem]; done) | (simp only [ln, ym]; omega) | (repeat' first | assumption | exact yo _ | refine yp ?_ _)) only [go_sem, dec_f (show ¬ fewE L M ≠ 0 from fun h => h hfe)]; with_reducible rfl))))
  refine cond_f rfl ?_
  ((repeat (first | refine yv ?_ | apply yb | refine yc rfl ?_ | ((first | apply yd | apply ye); simp (disch := first | exact yn | omega | (simp only [go_sem]; done) | (simp only [ln, ym]; omega) | (repeat' first | assumption | exact yo _ | refine yp ?_ _)) only [go_sem, load_ev k4]; with_reducible rfl))))
  (refine aops_call_to (isPossible_c hl4 hk) ?_)
  by_cases hcl : clashL L M = none
  rotate_left 1
  · have ee : anyErr L M = 13 := by unfold anyErr; rw [if_neg (fun h => h hfe), if_neg hcl]
    have er : anyRes L M = [] := by unfold anyRes; rw [ee, if_neg (by decide)]
    rw [ee, er]
    ((repeat (first | refine yv ?_ | apply yb | refine yc rfl ?_ | ((first | apply yd | apply ye); simp (disch := first | exact yn | omega | (simp only [go_sem]; done) | (simp only [ln, ym]; omega) | (repeat' first | assumption | exact yo _ | refine yp ?_ _)) only [go_sem, dec_f hcl]; with_reducible rfl))))
    refine cond_t rfl ?_
    ((repeat (first | refine yv ?_ | apply yb | refine yc rfl ?_ | ((first | apply yd | apply ye); simp (disch := first | exact yn | omega | (simp only [go_sem]; done) | (simp only [ln, ym]; omega) | (repeat' first | assumption | exact yo _ | refine yp ?_ _)) only [go_sem, fill_none, store_a1 (y := .slice none 0 0) k1 rfl]; with_reducible rfl))))
    exact fin_l2a rfl (get_set_self k1) ⟨xH4.set (by omega) _, _, rfl, pairs_nil _⟩
  have ee : anyErr L M = 0 := by unfold anyErr; rw [if_neg (fun h => h hfe), if_pos hcl]
  have er : anyRes L M = anyL L M := by unfold anyRes; rw [ee, if_pos rfl]
  rw [ee, er]
  have l4 := (List.getElem?_eq_some_iff.1 k4).1
  obtain ⟨a6, ha6⟩ : ∃ a6, G4.length = a6 := ⟨_, rfl⟩
  ((repeat (first | refine yv ?_ | apply yb | refine yc rfl ?_ | ((first | apply yd | apply ye); simp (disch := first | exact yn | omega | (simp only [go_sem]; done) | (simp only [ln, ym]; omega) | (repeat' first | assumption | exact yo _ | refine yp ?_ _)) only [go_sem, dec_t hcl]; with_reducible rfl))))
  refine cond_f rfl ?_
  obtain ⟨B, hB⟩ : ∃ B, B = G4 ++ [AObj.cells true 0 [.slice none 0 0]] := ⟨_, rfl⟩
  have c6 : B[a6]? = some (.cells true 0 [.slice none 0 0]) := by rw [hB, ← ha6]; exact at_new
  have xB : Ext G4 B := ⟨_, hB⟩
  have lB : B.length = a6 + 1 := by rw [hB]; simp [ha6]
  have hlB := hl4.ext xB
  (repeat (first | refine yv ?_ | (apply yd; simp (disch := first | exact yn | omega | (simp only [go_sem]; done) | (simp only [ln, ym]; omega) | (repeat' first | assumption | exact yo _ | refine yp ?_ _)) only [go_sem, hl4.len, hl4.idx, hl4.load, load_at (at_app k0), evC]; with_reducible rfl)))
  try (simp only [List.length_append, List.length_cons, List.length_nil, Nat.zero_add, Nat.add_assoc, Nat.reduceAdd])
  try simp only [ha6]
  rw [← hB]
  clear hB
  refine awp_loop_n [false, true, true, false, true, false, true, false, false, false, false, false, false, false, false, false, false, false, false, false, false, false, false, false, false, false, false, false, false, false, false, true, true, true, false, false, false, false, false, false, false, false, false, false, false, false, false, false, false, false, false, false] M.length (fun i e J => ∃ sv, e = [junk, .pointer (some ⟨H.length, 0, none⟩), .pointer (some ⟨H.length + 1, 0, none⟩), junk, .pointer (some ⟨a4, 0, none⟩), junk, .pointer (some ⟨a6, 0, none⟩), junk, junk, junk, junk, junk, junk, junk, junk, junk, junk, junk, junk, junk, junk, junk, junk, junk, junk, junk, junk, junk, junk, junk, junk, v, .int .i64 (M.length : Nat), .int .i64 i, junk, junk, junk, junk, junk, junk, junk, junk, junk, junk, junk, junk, junk, junk, junk, junk, junk, junk] ∧
    Ext G4 J ∧ J[a6]? = some (.cells true 0 [sv]) ∧ OwnP B J ((anyL L M).take i) sv) ?_ ?_
  · exact ⟨_, by simp [forget], xB, c6, OwnP.nil _ _⟩
  rintro i e J hi ⟨sv, rfl, x5, c6, hown⟩
  have hsv : isAtom sv = true := hown.pairs.atom
  have xHJ := xH4.trans x5
  have hlJ := hl4.ext x5
  have k4 := x5.cell k4
  have k1 := x5.cell k1
  have l6 := (List.getElem?_eq_some_iff.1 c6).1
  ((repeat (first | refine yv ?_ | apply yb | refine yc rfl ?_ | ((first | apply yd | apply ye); simp (disch := first | exact yn | omega | (simp only [go_sem]; done) | (simp only [ln, ym]; omega) | (repeat' first | assumption | exact yo _ | refine yp ?_ _)) only [go_sem]; with_reducible rfl))))
  refine cond_p rfl (fun hlt => ?_) (fun hge => ?_)
  rotate_left 1
  · obtain rfl : i = M.length := by omega
    rw [List.take_of_length_le (by rw [anyL_len]; omega)] at hown
    ((repeat (first | refine yv ?_ | apply yb | refine yc rfl ?_ | ((first | apply yd | apply ye); simp (disch := first | exact yn | omega | (simp only [go_sem]; done) | (simp only [ln, ym]; omega) | (repeat' first | assumption | exact yo _ | refine yp ?_ _)) only [go_sem, n1_at c6, store_a1 (y := sv) k1 hsv]; with_reducible rfl))))
    exact fin_l2a rfl (get_set_self k1) ⟨xHJ.set (by omega) _, sv, rfl, (hown.set_ne (hown.aside (by omega)) _).pairs⟩
  have hi' : i < M.length := by omega
  have ht := take_succ_getD (l := anyL L M) (i := i) (d := (0, 0)) (by rw [anyL_len]; omega)
  rw [anyL_at hi'] at ht
  have hq := hk.pos i hi'
  have htl : ((anyL L M).take i).length = i := by rw [List.length_take, anyL_len]; omega
  (repeat (first | refine yv ?_ | (apply yd; simp (disch := first | exact yn | omega | (simp only [go_sem]; done) | (simp only [ln, ym]; omega) | (repeat' first | assumption | exact yo _ | refine yp ?_ _)) only [go_sem, hlJ.len, hlJ.idx, hlJ.load, store_new3]; with_reducible rfl)))
  obtain ⟨x, hx⟩ : ∃ x, M.getD i (0, 0, 0) = x := ⟨_, rfl⟩
  rw [hx] at ht hq ⊢
  rw [new_mark x]
  obtain ⟨J1, hJ1⟩ : ∃ J1, J1 = J ++ [AObj.cells true 0 (markC x)] := ⟨_, rfl⟩
  have c8 : J1[J.length]? = some (.cells true 0 (markC x)) := by rw [hJ1]; exact at_new
  have x8 : Ext J J1 := ⟨_, hJ1⟩
  have hown1 : OwnP B J1 ((anyL L M).take i) sv := by rw [hJ1]; exact hown.app _
  have c6 := x8.cell c6
  have k4 := x8.cell k4
  have hl1 := hlJ.ext x8
  rw [← hJ1]
  clear hJ1
  ((repeat (first | refine yv ?_ | apply yb | refine yc rfl ?_ | ((first | apply yd | apply ye); simp (disch := first | exact yn | omega | (simp only [go_sem]; done) | (simp only [ln, ym]; omega) | (repeat' first | assumption | exact yo _ | refine yp ?_ _)) only [go_sem, load_at c6, load_at c8, markC, load_ev k4]; with_reducible rfl))))
  (refine adraw_call (N := []) (firstD (enclosure_c hl1 hk (by omega) hq)) ?_; rw [List.append_nil])
  have hpush := hown1.push (by rw [htl]; omega) x.1 (encTo L M x.1 M.length).1
  have p6 := pushP_at (l := (anyL L M).take i) (x := (x.1, (encTo L M x.1 M.length).1)) c6 (hown1.aside (by omega))
  have hst6 := store_b1 (y := pushV J1 ((anyL L M).take i).length) p6 rfl rfl
  have e1 : (i : Int) + 1 = ((i + 1 : Nat) : Int) := by omega
  have xB1 : Ext G4 (pushPH J1 sv ((anyL L M).take i) (x.1, (encTo L M x.1 M.length).1)) := OwnP.ext (hown1.weaken xB.len) (x5.trans x8) _
  have lJ1 : B.length ≤ J1.length := by have := x8.len; omega
  have own2 := hown1.pushedL lJ1 (x.1, (encTo L M x.1 M.length).1)
  rw [← ht] at own2
  ((repeat (first | refine yv ?_ | apply yb | refine yc rfl ?_ | ((first | apply yd | apply ye); simp (disch := first | exact yn | omega | (simp only [go_sem]; done) | (simp only [ln, ym]; omega) | (repeat' first | assumption | exact yo _ | refine yp ?_ _)) only [go_sem, fracV, fill_pair, hpush, hst6]; with_reducible rfl))))
  ((repeat (first | refine yv ?_ | apply yb | refine yc rfl ?_ | ((first | apply yd | apply ye); simp (disch := first | exact yn | omega | (simp only [go_sem]; done) | (simp only [ln, ym]; omega) | (repeat' first | assumption | exact yo _ | refine yp ?_ _)) only [go_sem, e1]; with_reducible rfl))))
  refine ⟨by omega, pushV J1 ((anyL L M).take i).length, by simp [forget], xB1.set (by omega) _, get_set_self p6, own2.set_ne (.inr ?_) _⟩
  show J1.length + 1 ≠ a6
  omega
end
end Go.Lq

namespace Go.Lq
open Go
open Go.Proofs

theorem MapOk.outP {l : List (Int × Int)} (h : MapOk l) {n : Int} (hn : ¬ ((l.getD 0 (0, 0)).1 ≤ n ∧ n ≤ (l.getD (l.length - 1) (0, 0)).1)) : findP (inPos n) l 0 (l.length - 1) = none := by
  cases hf : findP (inPos n) l 0 (l.length - 1) with
  | none => rfl
  | some i =>
    obtain ⟨_, h2, h3, _⟩ := findP_some hf
    have h4 : (l.getD i (0, 0)).1 ≤ n ∧ n ≤ (l.getD (i + 1) (0, 0)).1 := of_decide_eq_true h3
    have a := h.posLe (i := 0) (j := i) (by omega) (by omega)
    have b := h.posLe (i := i + 1) (j := l.length - 1) (by omega) (by omega)
    exact absurd ⟨by omega, by omega⟩ hn
section
variable {H : AHeap}
end
end Go.Lq




namespace Go.Lq
open Go
open Go.Proofs

theorem fin_2l {c : RCode} {n a b : Nat} {R : Value → AHeap → Prop} {e : Env} {H : AHeap} {u w : Value} (h1 : loadR (e.getD a undef) H = some (u, H)) (h2 : loadR (e.getD b undef) H = some (w, H)) (h : R (.tuple #[u, w]) H) :
    Fin ⟨c, n, [.load a, .load b]⟩ R .ret e H := by
  refine ⟨.inr rfl, _, ?_, h⟩
  unfold loadR at h1 h2
  split at h1
  · rename_i id off hp
    simp only [Option.map_eq_some_iff, Prod.mk.injEq, and_true] at h1
    obtain ⟨us, h3, rfl⟩ := h1
    split at h2
    · rename_i id' off' hp'
      simp only [Option.map_eq_some_iff, Prod.mk.injEq, and_true] at h2
      obtain ⟨us', h4, rfl⟩ := h2
      simp only [resultA, List.mapM_cons, resA, hp, h3, hp', h4, Option.map_some, List.mapM_nil]
      rfl
    · cases h2
  · cases h1

section
variable {H : AHeap} {kind deg num den step : Int} {l : List (Int × Int)} {v : Value}
end
end Go.Lq


namespace Go.Lq
open Go
open Go.Proofs

section
variable {H : AHeap} {kind deg num den step : Int} {l : List (Int × Int)} {v : Value}
theorem rFirst_c (hl : Pairs H l v) (h0 : 0 < l.length) : ACall Go.Proofs.Try.prog 34 [.agg ⟨[v]⟩] H fun w H' => w = .agg ⟨[.int .i64 (l.getD 0 (0, 0)).1, .int .i64 (l.getD 0 (0, 0)).2]⟩ ∧ H' = H := by
  refine ACall.drop (closed_frac ((l.getD 0 (0, 0)).1, (l.getD 0 (0, 0)).2)) ?_
  (refine a34 ?_; simp only [n34, List.replicate, yq, yr, yt, yu]; first | refine q1 ?_ | refine q2 ?_ | refine q6 ?_ | refine q7 ?_ | refine qh rfl ?_ | skip)
  obtain ⟨G, hG⟩ : ∃ G, G = H ++ [AObj.cells true 0 [v]] ++ [AObj.cells true 0 [.int .i64 0, .int .i64 0]] := ⟨_, rfl⟩
  have g0 : G[H.length]? = some (.cells true 0 [v]) := by rw [hG]; simp
  have g2 : G[H.length + 1]? = some (.cells true 0 [.int .i64 0, .int .i64 0]) := by rw [hG]; simp
  have xG : Ext H G := by rw [hG]; exact ((Ext.refl H).app _).app _
  (repeat (first | refine yv ?_ | (apply yd; simp (disch := first | exact yn | omega | (simp only [go_sem]; done) | (simp only [ln, ym]; omega) | (repeat' first | assumption | exact yo _ | refine yp ?_ _)) only [go_sem, hl.box1]; with_reducible rfl)))
  (simp only [List.length_append, List.length_cons, List.length_nil, Nat.zero_add, Nat.add_assoc, Nat.reduceAdd])
  rw [← hG]
  clear hG
  have hl1 := hl.ext xG
  have e0 : (0 : Int) = ((0 : Nat) : Int) := rfl
  ((repeat (first | refine yv ?_ | apply yb | refine yc rfl ?_ | ((first | apply yd | apply ye); simp (disch := first | exact yn | omega | (simp only [go_sem]; done) | (simp only [ln, ym]; omega) | (repeat' first | assumption | exact yo _ | refine yp ?_ _)) only [go_sem, hl1.len, hl1.idx, hl1.load, load_at g0, store_b2 g2]; with_reducible rfl))))
  refine fin_l1 (u := .agg ⟨[.int .i64 (l.getD 0 (0, 0)).1, .int .i64 (l.getD 0 (0, 0)).2]⟩) (loadN_at (k := 0) (get_set_self g2) (by simp)) ⟨rfl, xG.set (by omega) _⟩
theorem rLast_c (hl : Pairs H l v) (h0 : 0 < l.length) (hb : l.length ≤ 1000000) : ACall Go.Proofs.Try.prog 35 [.agg ⟨[v]⟩] H fun w H' => w = .agg ⟨[.int .i64 (l.getD (l.length - 1) (0, 0)).1, .int .i64 (l.getD (l.length - 1) (0, 0)).2]⟩ ∧ H' = H := by
  refine ACall.drop (closed_frac ((l.getD (l.length - 1) (0, 0)).1, (l.getD (l.length - 1) (0, 0)).2)) ?_
  (refine a35 ?_; simp only [n35, List.replicate, yq, yr, yt, yu]; first | refine q1 ?_ | refine q2 ?_ | refine q6 ?_ | refine q7 ?_ | refine qh rfl ?_ | skip)
  obtain ⟨G, hG⟩ : ∃ G, G = H ++ [AObj.cells true 0 [v]] ++ [AObj.cells true 0 [.int .i64 0, .int .i64 0]] := ⟨_, rfl⟩
  have g0 : G[H.length]? = some (.cells true 0 [v]) := by rw [hG]; simp
  have g2 : G[H.length + 1]? = some (.cells true 0 [.int .i64 0, .int .i64 0]) := by rw [hG]; simp
  have xG : Ext H G := by rw [hG]; exact ((Ext.refl H).app _).app _
  (repeat (first | refine yv ?_ | (apply yd; simp (disch := first | exact yn | omega | (simp only [go_sem]; done) | (simp only [ln, ym]; omega) | (repeat' first | assumption | exact yo _ | refine yp ?_ _)) only [go_sem, hl.box1]; with_reducible rfl)))
  (simp only [List.length_append, List.length_cons, List.length_nil, Nat.zero_add, Nat.add_assoc, Nat.reduceAdd])
  rw [← hG]
  clear hG
  have hl1 := hl.ext xG
  have el : (l.length : Int) - 1 = ((l.length - 1 : Nat) : Int) := by omega
  ((repeat (first | refine yv ?_ | apply yb | refine yc rfl ?_ | ((first | apply yd | apply ye); simp (disch := first | exact yn | omega | (simp only [go_sem]; done) | (simp only [ln, ym]; omega) | (repeat' first | assumption | exact yo _ | refine yp ?_ _)) only [go_sem, hl1.len, hl1.idx, hl1.load, load_at g0, el, store_b2 g2]; with_reducible rfl))))
  refine fin_l1 (u := .agg ⟨[.int .i64 (l.getD (l.length - 1) (0, 0)).1, .int .i64 (l.getD (l.length - 1) (0, 0)).2]⟩) (loadN_at (k := 0) (get_set_self g2) (by simp)) ⟨rfl, xG.set (by omega) _⟩

end
end Go.Lq

namespace Go.Lq
open Go
open Go.Proofs

def accRate (L : Int × Int) (l : List (Int × Int)) (i : Nat) : Nat → Option Nat
  | 0 => none
  | n + 1 => if keepsB L (pieceOf l i) = true then accRate L l (i + 1) n else some i
theorem accRate_succ {L : Int × Int} {l : List (Int × Int)} {i n : Nat} : accRate L l i (n + 1) = if keepsB L (pieceOf l i) = true then accRate L l (i + 1) n else some i := rfl
def accMark (M : List Mark) (l : List (Int × Int)) (i : Nat) : Nat → Int × Int
  | 0 => (0, 0)
  | n + 1 => if (l.getD 0 (0, 0)).1 ≤ (M.getD i (0, 0, 0)).1 ∧ (M.getD i (0, 0, 0)).1 ≤ (l.getD (l.length - 1) (0, 0)).1 then
      (if meetsB (pieceP l (M.getD i (0, 0, 0)).1) (M.getD i (0, 0, 0)) = true then accMark M l (i + 1) n else ((i : Int), 13)) else ((i : Int), 14)
theorem accMark_succ {M : List Mark} {l : List (Int × Int)} {i n : Nat} : accMark M l i (n + 1) = if (l.getD 0 (0, 0)).1 ≤ (M.getD i (0, 0, 0)).1 ∧ (M.getD i (0, 0, 0)).1 ≤ (l.getD (l.length - 1) (0, 0)).1 then
      (if meetsB (pieceP l (M.getD i (0, 0, 0)).1) (M.getD i (0, 0, 0)) = true then accMark M l (i + 1) n else ((i : Int), 13)) else ((i : Int), 14) := rfl
def accGo (L : Int × Int) (M : List Mark) (l : List (Int × Int)) : Int × Int := match accRate L l 0 (l.length - 1) with | some i => ((i : Int), 23) | none => accMark M l 0 M.length
def accE (L : Int × Int) (M : List Mark) (l : List (Int × Int)) : Int := firstErr [evErrL L M, mapErrL l]
def accL (L : Int × Int) (M : List Mark) (l : List (Int × Int)) : Int × Int := if accE L M l ≠ 0 then (0, accE L M l) else accGo L M l
theorem accE_ok {L : Int × Int} {M : List Mark} {l : List (Int × Int)} (h : accE L M l = 0) : evErrL L M = 0 ∧ mapErrL l = 0 := by
  unfold accE at h
  by_cases h1 : evErrL L M = 0
  · refine ⟨h1, ?_⟩
    by_cases h2 : mapErrL l = 0
    · exact h2
    · rw [h1, firstErr_z, firstErr_e h2] at h; exact absurd h h2
  · rw [firstErr_e h1] at h; exact absurd h h1
theorem MapOk.pieceAt {l : List (Int × Int)} (h : MapOk l) {i : Nat} (hi : i + 1 < l.length) : (0 ≤ (pieceOf l i).1.1 ∧ (pieceOf l i).1.1 ≤ 1000000) ∧ (0 ≤ (pieceOf l i).2.1 ∧ (pieceOf l i).2.1 ≤ 1000000) ∧ (0 ≤ (pieceOf l i).1.2 ∧ (pieceOf l i).1.2 ≤ 1000000000000) ∧ (0 ≤ (pieceOf l i).2.2 ∧ (pieceOf l i).2.2 ≤ 1000000000000) ∧
    (pieceOf l i).1.1 < (pieceOf l i).2.1 ∧ (pieceOf l i).1.2 < (pieceOf l i).2.2 :=
  ⟨h.pos i (by omega), h.pos (i + 1) hi, h.time i (by omega), h.time (i + 1) hi, h.posUp i hi, h.timeUp i hi⟩
theorem pieceP_ok {l : List (Int × Int)} (h : MapOk l) {n : Int} (h0 : (l.getD 0 (0, 0)).1 ≤ n) (h1 : n ≤ (l.getD (l.length - 1) (0, 0)).1) : atPos l n 0 (l.length - 2) + 1 < l.length ∧ (pieceP l n).1.1 ≤ n ∧ n ≤ (pieceP l n).2.1 := by
  have h2 := h.lo
  obtain ⟨a1, a2⟩ := atPos_in (l := l) (t := n) (k := l.length - 2) (i := 0) (by omega) h0
  have a3 := atPos_up (l := l) (t := n) (k := l.length - 2) (i := 0) (by omega) h1
  exact ⟨a1, a2, a3⟩
section
variable {H : AHeap} {L : Int × Int} {M : List Mark} {v u : Value} {l : List (Int × Int)}
set_option maxHeartbeats 8000000 in
theorem accepts_c (hl : Tris H M v) (hb : M.length ≤ 1000000000) (hm : Pairs H l u) (hmb : l.length ≤ 1000000000) : ACall Go.Proofs.Try.prog 40 [evV L v, .agg ⟨[u]⟩] H fun w H' =>
    w = .tuple #[.int .i64 (accL L M l).1, .int .i64 (accL L M l).2] ∧ H' = H := by
  refine ACall.drop (closed_two _ _) ?_
  (refine a40 ?_; simp only [n40, List.replicate, yq, yr, yt, yu]; first | refine q1 ?_ | refine q2 ?_ | refine q6 ?_ | refine q7 ?_ | refine qh rfl ?_ | skip)
  obtain ⟨G, hG⟩ : ∃ G, G = H ++ [AObj.cells true 0 (evC L v)] ++ [AObj.cells true 0 [u]] ++ [AObj.cells true 0 [.int .i64 0]] ++ [AObj.cells true 0 [.int .i64 0]] := ⟨_, rfl⟩
  have g0 : G[H.length]? = some (.cells true 0 (evC L v)) := by rw [hG]; simp
  have g1 : G[H.length + 1]? = some (.cells true 0 [u]) := by rw [hG]; simp
  have g2 : G[H.length + 2]? = some (.cells true 0 [.int .i64 0]) := by rw [hG]; simp
  have g3 : G[H.length + 3]? = some (.cells true 0 [.int .i64 0]) := by rw [hG]; simp
  have xG : Ext H G := by rw [hG]; exact ((((Ext.refl H).app _).app _).app _).app _
  have lG : G.length = H.length + 4 := by rw [hG]; simp
  have hf1 : fillA [.slice none 0 0] [(0, 1, .agg ⟨[u]⟩)] = some [u] := fill1v hm.atom
  have hms : ∀ J : AHeap, mkSliceL 1 1 (some [u]) J = some (.slice (some ⟨J.length, 0, none⟩) 1 1, J ++ [.cells true 1 [u]]) := fun J => mkSliceL_some (by simp [hm.atom])
  (repeat (first | refine yv ?_ | (apply yd; simp (disch := first | exact yn | omega | (simp only [go_sem]; done) | (simp only [ln, ym]; omega) | (repeat' first | assumption | exact yo _ | refine yp ?_ _)) only [go_sem, box_ev hl.atom, hm.box1]; with_reducible rfl)))
  (simp only [List.length_append, List.length_cons, List.length_nil, Nat.zero_add, Nat.add_assoc, Nat.reduceAdd])
  rw [← hG]
  clear hG
  ((repeat (first | refine yv ?_ | apply yb | refine yc rfl ?_ | ((first | apply yd | apply ye); simp (disch := first | exact yn | omega | (simp only [go_sem]; done) | (simp only [ln, ym]; omega) | (repeat' first | assumption | exact yo _ | refine yp ?_ _)) only [go_sem, load_ev g0]; with_reducible rfl))))
  refine aops_call ((open_c (hl.ext xG) hb).mono fun w G2 ⟨hw, x2⟩ => ?_)
  subst hw
  have hst : storeR 3 (.pointer (some ⟨G2.length, 0, none⟩)) (evV L v) (G2 ++ [.cells true 0 [.int .i64 0, .int .i64 0, .slice none 0 0]]) = some (undef, G2 ++ [.cells true 0 (evC L v)]) := store_newN (by simp [hl.atom, isAtom_int]) rfl rfl
  have x3 := x2.app [AObj.cells true 0 (evC L v)]
  obtain ⟨G3, hG3⟩ : ∃ G3, G2 ++ [AObj.cells true 0 (evC L v)] = G3 := ⟨_, rfl⟩
  rw [hG3] at x3 hst
  ((repeat (first | refine yv ?_ | apply yb | refine yc rfl ?_ | ((first | apply yd | apply ye); simp (disch := first | exact yn | omega | (simp only [go_sem]; done) | (simp only [ln, ym]; omega) | (repeat' first | assumption | exact yo _ | refine yp ?_ _)) only [go_sem, hst, n1_at (x3.cell g1), hf1, hms]; with_reducible rfl))))
  have hS : Sl (G3 ++ [AObj.cells true 1 [u]]) 1 1 [u] (.slice (some ⟨G3.length, 0, none⟩) 1 1) := Sl.last rfl 1
  have x4 := x3.app [AObj.cells true 1 [u]]
  generalize (G3 ++ [AObj.cells true 1 [u]] : AHeap) = G4 at hS x4
  (refine aops_call_to (spMapErr_c hS (hm.ext (xG.trans x4)) hmb) ?_)
  ((repeat (first | refine yv ?_ | apply yb | refine yc rfl ?_ | ((first | apply yd | apply ye); simp (disch := first | exact yn | omega | (simp only [go_sem]; done) | (simp only [ln, ym]; omega) | (repeat' first | assumption | exact yo _ | refine yp ?_ _)) only [go_sem]; with_reducible rfl))))
  (refine aops_call_to (sfirst_c (l := [_, _]) (Ints.last (l := [_, _]) 2) (by simp)) ?_)
  have e1 : firstErr [evErrL L M, mapErrL l] = accE L M l := rfl
  rw [e1]
  have x5 := x4.app [AObj.cells true 1 [.int .i64 (evErrL L M), .int .i64 (mapErrL l)]]
  generalize (G4 ++ [AObj.cells true 1 [.int .i64 (evErrL L M), .int .i64 (mapErrL l)]] : AHeap) = G5 at x5
  clear hst hG3 hS
  have k0 := x5.cell g0
  have k1 := x5.cell g1
  have k2 := x5.cell g2
  have k3 := x5.cell g3
  have k3' : ∀ c, (G5.set (H.length + 2) c)[H.length + 3]? = some (.cells true 0 [.int .i64 0]) := fun c => by rw [List.getElem?_set_ne (by omega)]; exact k3
  have xH5 := xG.trans x5
  ((repeat (first | refine yv ?_ | apply yb | refine yc rfl ?_ | ((first | apply yd | apply ye); simp (disch := first | exact yn | omega | (simp only [go_sem]; done) | (simp only [ln, ym]; omega) | (repeat' first | assumption | exact yo _ | refine yp ?_ _)) only [go_sem]; with_reducible rfl))))
  refine cond_p (p := accE L M l ≠ 0) rfl (fun hne => ?_) (fun heq => ?_)
  · have ev : accL L M l = (0, accE L M l) := by unfold accL; rw [if_pos hne]
    rw [ev]
    ((repeat (first | refine yv ?_ | apply yb | refine yc rfl ?_ | ((first | apply yd | apply ye); simp (disch := first | exact yn | omega | (simp only [go_sem]; done) | (simp only [ln, ym]; omega) | (repeat' first | assumption | exact yo _ | refine yp ?_ _)) only [go_sem, store_b1 (y := .int .i64 0) k2 rfl rfl, store_b1 (y := .int .i64 (accE L M l)) (k3' _) rfl rfl]; with_reducible rfl))))
    refine fin_2l (u := .int .i64 0) (w := .int .i64 (accE L M l)) (load1 (by rw [List.getElem?_set_ne (by omega)]; exact get_set_self k2)) (load1 (get_set_self (k3' _))) ⟨rfl, (xH5.set (by omega) _).set (by omega) _⟩
  obtain ⟨z1, z2⟩ := accE_ok (Decidable.not_not.1 heq)
  have hk := evErr_ok z1
  have hok := mapErr_ok z2
  have hlen := hk.len
  have h20 := hok.hi
  have h02 := hok.lo
  have hL := And.intro hk.lo hk.hi
  have ev : accL L M l = accGo L M l := by unfold accL; rw [if_neg heq]
  rw [ev]
  have hm5 := hm.ext xH5
  ((repeat (first | refine yv ?_ | apply yb | refine yc rfl ?_ | ((first | apply yd | apply ye); simp (disch := first | exact yn | omega | (simp only [go_sem]; done) | (simp only [ln, ym]; omega) | (repeat' first | assumption | exact yo _ | refine yp ?_ _)) only [go_sem, n1_at k1]; with_reducible rfl))))
  refine aops_call ((pieces_c hm5).mono fun v1 G6 ⟨hw, hG6⟩ => ?_)
  subst hw
  have x6 : Ext G5 G6 := ⟨_, hG6⟩
  have c6 : G6[G5.length]? = some (.cells true 0 [u]) := by rw [hG6]; exact at_new
  clear hG6
  have l5 : H.length + 4 ≤ G5.length := by have := x5.len; omega
  have l6 : G5.length < G6.length := (List.getElem?_eq_some_iff.1 c6).1
  have xH6 := xH5.trans x6
  have k0 := x6.cell k0
  have k1 := x6.cell k1
  have k2 := x6.cell k2
  have k3 := x6.cell k3
  obtain ⟨n, hn⟩ : ∃ n, l.length - 1 = n := ⟨_, rfl⟩
  (repeat (first | refine yv ?_ | apply yb | refine yc rfl ?_))
  refine awp_rangeA mo rfl (fun l h => by cases h) (pieces1_c (idt := G5.length) (l := l) (v := u) (by omega) (by omega))
    (fun rest H' => ∃ i, rest = piecesI l i (n - i) ∧ i ≤ n ∧ accRate L l 0 n = accRate L l i (n - i) ∧ Ext G6 H')
    (fun x H' => x = .ret ∧ ∃ i, accRate L l 0 n = some i ∧ H'[H.length + 2]? = some (.cells true 0 [.int .i64 (i : Int)]) ∧ H'[H.length + 3]? = some (.cells true 0 [.int .i64 23]) ∧ Ext H H') ?_ ?_ ?_ ?_ ?_ ?_ ?_
  · rintro rest H' c' ⟨i, h1, h2, h3, h4⟩
    exact ⟨i, h1, h2, h3, h4.set (Nat.le_refl _) _⟩
  · rintro x H' c' ⟨h1, i, h2, h3, h4, h5⟩
    refine ⟨h1, i, h2, ?_, ?_, h5.set (by omega) _⟩
    · rw [List.getElem?_set_ne (by omega)]; exact h3
    · rw [List.getElem?_set_ne (by omega)]; exact h4
  · rintro rest H' ⟨i, h1, h2, h3, h4⟩
    exact ⟨h4.cell c6, hm.ext (xH6.trans h4)⟩
  · intro N
    exact ⟨0, by rw [hn]; rfl, Nat.zero_le _, rfl, (Ext.refl _).app N⟩
  · rintro a rest H1 ⟨i, h1, hin, h3, h4⟩ hlt
    obtain ⟨k, hkk⟩ : ∃ k, n - i = k := ⟨_, rfl⟩
    rw [hkk] at h1 h3
    match k, h1 with
    | k + 1, h1 =>
    obtain ⟨rfl, rfl⟩ := List.cons.inj h1
    have hi : i < n := by omega
    have hki : k = n - (i + 1) := by omega
    rw [accRate_succ] at h3
    obtain ⟨p1, p2, p3, p4, p5, p6⟩ := hok.pieceAt (i := i) (by omega)
    refine ⟨rfl, fun R Rb _ hR => ?_⟩
    simp only [assignParams, List.zip_cons_cons, List.zip_nil_left, List.foldl_cons, List.foldl_nil]
    have hst : storeR 4 (.pointer (some ⟨H1.length, 0, none⟩)) (pieceV (pieceOf l i)) (H1 ++ [.cells true 0 [.int .i64 0, .int .i64 0, .int .i64 0, .int .i64 0]]) = some (undef, H1 ++ [.cells true 0 (pieceC (pieceOf l i))]) := store_new4 rfl
    ((repeat (first | refine yv ?_ | apply yb | refine yc rfl ?_ | ((first | apply yd | apply ye); simp (disch := first | exact yn | omega | (simp only [go_sem]; done) | (simp only [ln, ym]; omega) | (repeat' first | assumption | exact yo _ | refine yp ?_ _)) only [go_sem, hst]; with_reducible rfl))))
    refine ⟨rfl, at_app hR, ?_⟩
    have hlR := (List.getElem?_eq_some_iff.1 hR).1
    have hx5 : Ext G6 ((H1 ++ [AObj.cells true 0 (pieceC (pieceOf l i))]).set G6.length Rb) := (h4.app _).set (Nat.le_refl _) _
    have hRb : ((H1 ++ [AObj.cells true 0 (pieceC (pieceOf l i))]).set G6.length Rb)[G6.length]? = some Rb := get_set_self (at_app hR)
    have b7 : ((H1 ++ [AObj.cells true 0 (pieceC (pieceOf l i))]).set G6.length Rb)[H1.length]? = some (.cells true 0 (pieceC (pieceOf l i))) := by
      rw [List.getElem?_set_ne (by omega)]; exact at_new
    generalize ((H1 ++ [AObj.cells true 0 (pieceC (pieceOf l i))]).set G6.length Rb : AHeap) = Hb at hx5 hRb b7
    have b0 := hx5.cell k0
    have b2 := hx5.cell k2
    have b3 : ∀ c, (Hb.set (H.length + 2) c)[H.length + 3]? = some (.cells true 0 [.int .i64 0]) := fun c => by rw [List.getElem?_set_ne (by omega)]; exact hx5.cell k3
    ((repeat (first | refine yv ?_ | apply yb | refine yc rfl ?_ | ((first | apply yd | apply ye); simp (disch := first | exact yn | omega | (simp only [go_sem]; done) | (simp only [ln, ym]; omega) | (repeat' first | assumption | exact yo _ | refine yp ?_ _)) only [go_sem, load_piece b7, load_lim b0]; with_reducible rfl))))
    (refine aops_call_to (keeps_c hL p1 p2 p3 p4) ?_)
    cases hkp : keepsB L (pieceOf l i) with
    | false =>
      rw [hkp, if_neg (by simp)] at h3
      ((repeat (first | refine yv ?_ | apply yb | refine yc rfl ?_ | ((first | apply yd | apply ye); simp (disch := first | exact yn | omega | (simp only [go_sem]; done) | (simp only [ln, ym]; omega) | (repeat' first | assumption | exact yo _ | refine yp ?_ _)) only [go_sem]; with_reducible rfl))))
      refine cond_t rfl ?_
      ((repeat (first | refine yv ?_ | apply yb | refine yc rfl ?_ | ((first | apply yd | apply ye); simp (disch := first | exact yn | omega | (simp only [go_sem]; done) | (simp only [ln, ym]; omega) | (repeat' first | assumption | exact yo _ | refine yp ?_ _)) only [go_sem, store_b1 (y := .int .i64 (i : Int)) b2 rfl rfl, store_b1 (y := .int .i64 23) (b3 _) rfl rfl]; with_reducible rfl))))
      refine rounded_r ?_ ⟨rfl, i, h3, ?_, get_set_self (b3 _), ((xH6.trans hx5).set (by omega) _).set (by omega) _⟩
      · rw [List.getElem?_set_ne (by omega), List.getElem?_set_ne (by omega)]; exact hRb
      · rw [List.getElem?_set_ne (by omega)]; exact get_set_self b2
    | true =>
      rw [hkp, if_pos rfl] at h3
      ((repeat (first | refine yv ?_ | apply yb | refine yc rfl ?_ | ((first | apply yd | apply ye); simp (disch := first | exact yn | omega | (simp only [go_sem]; done) | (simp only [ln, ym]; omega) | (repeat' first | assumption | exact yo _ | refine yp ?_ _)) only [go_sem]; with_reducible rfl))))
      refine cond_f rfl ?_
      ((repeat (first | refine yv ?_ | apply yb | refine yc rfl ?_ | ((first | apply yd | apply ye); simp (disch := first | exact yn | omega | (simp only [go_sem]; done) | (simp only [ln, ym]; omega) | (repeat' first | assumption | exact yo _ | refine yp ?_ _)) only [go_sem]; with_reducible rfl))))
      exact rounded_n hRb ⟨i + 1, by rw [← hki], by omega, by rw [← hki]; exact h3, hx5⟩
  · rintro H' ⟨i, h1, hin, h3, h4⟩
    obtain ⟨k, hkk⟩ : ∃ k, n - i = k := ⟨_, rfl⟩
    rw [hkk] at h1 h3
    match k, h1 with
    | 0, _ =>
    have h3 : accRate L l 0 n = none := h3
    have eg : accGo L M l = accMark M l 0 M.length := by unfold accGo; rw [hn, h3]
    rw [eg]
    have b0 := h4.cell k0
    have xH7 := xH6.trans h4
    have hl7 := hl.ext xH7
    ((repeat (first | refine yv ?_ | apply yb | refine yc rfl ?_ | ((first | apply yd | apply ye); simp (disch := first | exact yn | omega | (simp only [go_sem]; done) | (simp only [ln, ym]; omega) | (repeat' first | assumption | exact yo _ | refine yp ?_ _)) only [go_sem, hl7.len, hl7.idx, hl7.load, load_at b0, evC]; with_reducible rfl))))
    refine awp_loop_n [false, false, true, true, true, true, false, false, false, false, false, false, false, false, false, false, false, false, false, false, false, false, false, false, false, false, false, false, false, false, false, false, false, false, false, false, false, false, false, true, true, true, false, false, false, false, false, false, false, false, false, false, false, false, false, false, false, false, false, false, false, false] M.length (fun j e J => e = [junk, junk, .pointer (some ⟨H.length, 0, none⟩), .pointer (some ⟨H.length + 1, 0, none⟩), .pointer (some ⟨H.length + 2, 0, none⟩), .pointer (some ⟨H.length + 3, 0, none⟩), junk, junk, junk, junk, junk, junk, junk, junk, junk, junk, junk, junk, junk, junk, junk, junk, junk, junk, junk, junk, junk, junk, junk, junk, junk, junk, junk, junk, junk, junk, junk, junk, junk, v, .int .i64 (M.length : Nat), .int .i64 j, junk, junk, junk, junk, junk, junk, junk, junk, junk, junk, junk, junk, junk, junk, junk, junk, junk, junk, junk, junk] ∧ Ext H' J ∧ accMark M l 0 M.length = accMark M l j (M.length - j)) ?_ ?_
    · exact ⟨by simp [forget], Ext.refl _, rfl⟩
    rintro j e J hj ⟨rfl, x8, hA⟩
    have hl8 := hl7.ext x8
    have x68 := h4.trans x8
    have b1 := x68.cell k1
    have b2 := x68.cell k2
    have b3 : ∀ c, (J.set (H.length + 2) c)[H.length + 3]? = some (.cells true 0 [.int .i64 0]) := fun c => by rw [List.getElem?_set_ne (by omega)]; exact x68.cell k3
    have xHJ := xH6.trans x68
    ((repeat (first | refine yv ?_ | apply yb | refine yc rfl ?_ | ((first | apply yd | apply ye); simp (disch := first | exact yn | omega | (simp only [go_sem]; done) | (simp only [ln, ym]; omega) | (repeat' first | assumption | exact yo _ | refine yp ?_ _)) only [go_sem]; with_reducible rfl))))
    refine cond_p rfl (fun hlt => ?_) (fun hge => ?_)
    rotate_left 1
    · obtain rfl : j = M.length := by omega
      rw [Nat.sub_self] at hA
      have hA : accMark M l 0 M.length = (0, 0) := hA
      rw [hA]
      ((repeat (first | refine yv ?_ | apply yb | refine yc rfl ?_ | ((first | apply yd | apply ye); simp (disch := first | exact yn | omega | (simp only [go_sem]; done) | (simp only [ln, ym]; omega) | (repeat' first | assumption | exact yo _ | refine yp ?_ _)) only [go_sem, store_b1 (y := .int .i64 0) b2 rfl rfl, store_b1 (y := .int .i64 0) (b3 _) rfl rfl]; with_reducible rfl))))
      refine fin_2l (u := .int .i64 0) (w := .int .i64 0) (load1 (by rw [List.getElem?_set_ne (by omega)]; exact get_set_self b2)) (load1 (get_set_self (b3 _))) ⟨rfl, (xHJ.set (by omega) _).set (by omega) _⟩
    have hj' : j < M.length := by omega
    rw [show M.length - j = M.length - (j + 1) + 1 by omega, accMark_succ] at hA
    have x1 := hk.t1 j hj'
    have x2' := hk.t2 j hj'
    (repeat (first | refine yv ?_ | (apply yd; simp (disch := first | exact yn | omega | (simp only [go_sem]; done) | (simp only [ln, ym]; omega) | (repeat' first | assumption | exact yo _ | refine yp ?_ _)) only [go_sem, hl8.len, hl8.idx, hl8.load, store_new3]; with_reducible rfl)))
    obtain ⟨x, hx⟩ : ∃ x, M.getD j (0, 0, 0) = x := ⟨_, rfl⟩
    rw [hx] at hA x1 x2' ⊢
    rw [new_mark x]
    have c11 : (J ++ [AObj.cells true 0 (markC x)])[J.length]? = some (.cells true 0 (markC x)) := at_new
    have x9 : Ext J (J ++ [AObj.cells true 0 (markC x)]) := (Ext.refl J).app _
    generalize (J ++ [AObj.cells true 0 (markC x)] : AHeap) = J2 at c11 x9
    ((repeat (first | refine yv ?_ | apply yb | refine yc rfl ?_ | ((first | apply yd | apply ye); simp (disch := first | exact yn | omega | (simp only [go_sem]; done) | (simp only [ln, ym]; omega) | (repeat' first | assumption | exact yo _ | refine yp ?_ _)) only [go_sem, n1_at (x9.cell b1), load_at c11, markC]; with_reducible rfl))))
    refine aops_call_to (pieceAt_c (hm.ext (xHJ.trans x9)) (by omega) (by omega)) ?_
    by_cases hin : (l.getD 0 (0, 0)).1 ≤ x.1 ∧ x.1 ≤ (l.getD (l.length - 1) (0, 0)).1
    · rw [if_pos hin] at hA
      obtain ⟨hpi, hp1, hp2⟩ := pieceP_ok hok hin.1 hin.2
      rw [hok.posOne hin.1 (k := l.length - 1) (i := 0) (by omega) (fun m hm => by omega) hin.2, if_neg (by omega), Nat.sub_sub]
      obtain ⟨p1, p2, p3, p4, p5, p6⟩ := hok.pieceAt hpi
      have ef : findR (some (atPos l x.1 0 (l.length - 2))) l = (pieceP l x.1, true) := rfl
      have epp : pieceOf l (atPos l x.1 0 (l.length - 2)) = pieceP l x.1 := rfl
      rw [epp] at p1 p2 p3 p4 p5 p6
      have e11 : l.length - (1 + 1) = l.length - 2 := rfl
      rw [e11, ef]
      generalize pieceP l x.1 = p at *
      have hst : storeR 4 (.pointer (some ⟨J2.length, 0, none⟩)) (pieceV p) (J2 ++ [.cells true 0 [.int .i64 0, .int .i64 0, .int .i64 0, .int .i64 0]]) = some (undef, J2 ++ [.cells true 0 (pieceC p)]) := store_new4 rfl
      have c12 : (J2 ++ [AObj.cells true 0 (pieceC p)])[J2.length]? = some (.cells true 0 (pieceC p)) := at_new
      have x10 : Ext J2 (J2 ++ [AObj.cells true 0 (pieceC p)]) := (Ext.refl J2).app _
      ((repeat (first | refine yv ?_ | apply yb | refine yc rfl ?_ | ((first | apply yd | apply ye); simp (disch := first | exact yn | omega | (simp only [go_sem]; done) | (simp only [ln, ym]; omega) | (repeat' first | assumption | exact yo _ | refine yp ?_ _)) only [go_sem, hst]; with_reducible rfl))))
      refine cond_f rfl ?_
      generalize (J2 ++ [AObj.cells true 0 (pieceC p)] : AHeap) = J3 at c12 x10
      ((repeat (first | refine yv ?_ | apply yb | refine yc rfl ?_ | ((first | apply yd | apply ye); simp (disch := first | exact yn | omega | (simp only [go_sem]; done) | (simp only [ln, ym]; omega) | (repeat' first | assumption | exact yo _ | refine yp ?_ _)) only [go_sem, load_piece c12, load_mark (x10.cell c11)]; with_reducible rfl))))
      (refine aops_call_to (meets_c p1 p2 p3 p4 p5 p6 hp1 hp2 x1 x2') ?_)
      have x11 := x9.trans x10
      have b2 := x11.cell b2
      have b3 : ∀ c, (J3.set (H.length + 2) c)[H.length + 3]? = some (.cells true 0 [.int .i64 0]) := fun c => by rw [List.getElem?_set_ne (by omega)]; exact x11.cell (x68.cell k3)
      cases hmt : meetsB p x with
      | true =>
        rw [hmt, if_pos rfl] at hA
        ((repeat (first | refine yv ?_ | apply yb | refine yc rfl ?_ | ((first | apply yd | apply ye); simp (disch := first | exact yn | omega | (simp only [go_sem]; done) | (simp only [ln, ym]; omega) | (repeat' first | assumption | exact yo _ | refine yp ?_ _)) only [go_sem]; with_reducible rfl))))
        refine cond_f rfl ?_
        ((repeat (first | refine yv ?_ | apply yb | refine yc rfl ?_ | ((first | apply yd | apply ye); simp (disch := first | exact yn | omega | (simp only [go_sem]; done) | (simp only [ln, ym]; omega) | (repeat' first | assumption | exact yo _ | refine yp ?_ _)) only [go_sem]; with_reducible rfl))))
        exact ⟨by omega, by simp [forget], x8.trans x11, hA⟩
      | false =>
        rw [hmt, if_neg (by simp)] at hA
        rw [hA]
        ((repeat (first | refine yv ?_ | apply yb | refine yc rfl ?_ | ((first | apply yd | apply ye); simp (disch := first | exact yn | omega | (simp only [go_sem]; done) | (simp only [ln, ym]; omega) | (repeat' first | assumption | exact yo _ | refine yp ?_ _)) only [go_sem]; with_reducible rfl))))
        refine cond_t rfl ?_
        ((repeat (first | refine yv ?_ | apply yb | refine yc rfl ?_ | ((first | apply yd | apply ye); simp (disch := first | exact yn | omega | (simp only [go_sem]; done) | (simp only [ln, ym]; omega) | (repeat' first | assumption | exact yo _ | refine yp ?_ _)) only [go_sem, store_b1 (y := .int .i64 (j : Int)) b2 rfl rfl, store_b1 (y := .int .i64 13) (b3 _) rfl rfl]; with_reducible rfl))))
        refine fin_2l (u := .int .i64 (j : Int)) (w := .int .i64 13) (load1 (by rw [List.getElem?_set_ne (by omega)]; exact get_set_self b2)) (load1 (get_set_self (b3 _))) ⟨rfl, ((xHJ.trans x11).set (by omega) _).set (by omega) _⟩
    · rw [if_neg hin] at hA
      rw [hA, hok.outP hin]
      have hst : storeR 4 (.pointer (some ⟨J2.length, 0, none⟩)) (pieceV zeroP) (J2 ++ [.cells true 0 [.int .i64 0, .int .i64 0, .int .i64 0, .int .i64 0]]) = some (undef, J2 ++ [.cells true 0 (pieceC zeroP)]) := store_new4 rfl
      ((repeat (first | refine yv ?_ | apply yb | refine yc rfl ?_ | ((first | apply yd | apply ye); simp (disch := first | exact yn | omega | (simp only [go_sem]; done) | (simp only [ln, ym]; omega) | (repeat' first | assumption | exact yo _ | refine yp ?_ _)) only [go_sem, findR, hst]; with_reducible rfl))))
      refine cond_t rfl ?_
      have x11 := x9.app [AObj.cells true 0 (pieceC zeroP)]
      have b2 := x11.cell b2
      have b3 : ∀ c, ((J2 ++ [AObj.cells true 0 (pieceC zeroP)]).set (H.length + 2) c)[H.length + 3]? = some (.cells true 0 [.int .i64 0]) := fun c => by rw [List.getElem?_set_ne (by omega)]; exact x11.cell (x68.cell k3)
      ((repeat (first | refine yv ?_ | apply yb | refine yc rfl ?_ | ((first | apply yd | apply ye); simp (disch := first | exact yn | omega | (simp only [go_sem]; done) | (simp only [ln, ym]; omega) | (repeat' first | assumption | exact yo _ | refine yp ?_ _)) only [go_sem, store_b1 (y := .int .i64 (j : Int)) b2 rfl rfl, store_b1 (y := .int .i64 14) (b3 _) rfl rfl]; with_reducible rfl))))
      refine fin_2l (u := .int .i64 (j : Int)) (w := .int .i64 14) (load1 (by rw [List.getElem?_set_ne (by omega)]; exact get_set_self b2)) (load1 (get_set_self (b3 _))) ⟨rfl, ((xHJ.trans x11).set (by omega) _).set (by omega) _⟩
  · rintro x H' hx ⟨rfl, i, h1, h2, h3, h4⟩
    have eg : accGo L M l = ((i : Int), 23) := by unfold accGo; rw [hn, h1]
    rw [eg]
    ((repeat (first | refine yv ?_ | apply yb | refine yc rfl ?_ | ((first | apply yd | apply ye); simp (disch := first | exact yn | omega | (simp only [go_sem]; done) | (simp only [ln, ym]; omega) | (repeat' first | assumption | exact yo _ | refine yp ?_ _)) only [go_sem]; with_reducible rfl))))
    refine fin_2l (u := .int .i64 (i : Int)) (w := .int .i64 23) (load1 h2) (load1 h3) ⟨rfl, h4⟩
end
end Go.Lq

namespace Go.Lq
open Go
open Go.Proofs
section
variable {H : AHeap} {L : Int × Int} {M : List Mark} {v u : Value} {l : List (Int × Int)}
set_option maxHeartbeats 8000000 in
theorem rAccepts_c (hl : Tris H M v) (hk : EvOk L M) (hm : Pairs H l u) (hok : MapOk l) : ACall Go.Proofs.Try.prog 39 [evV L v, .agg ⟨[u]⟩] H fun w H' =>
    w = .tuple #[.int .i64 (accGo L M l).1, .int .i64 (accGo L M l).2] ∧ H' = H := by
  refine ACall.drop (closed_two _ _) ?_
  have hlen := hk.len
  have h20 := hok.hi
  have h02 := hok.lo
  have hL1 := hk.lo
  have hL2 := hk.hi
  (refine a39 ?_; simp only [n39, List.replicate, yq, yr, yt, yu]; first | refine q1 ?_ | refine q2 ?_ | refine q6 ?_ | refine q7 ?_ | refine qh rfl ?_ | skip)
  obtain ⟨G, hG⟩ : ∃ G, G = H ++ [AObj.cells true 0 (evC L v)] ++ [AObj.cells true 0 [u]] := ⟨_, rfl⟩
  have g0 : G[H.length]? = some (.cells true 0 (evC L v)) := by rw [hG]; simp
  have g1 : G[H.length + 1]? = some (.cells true 0 [u]) := by rw [hG]; simp
  have xG : Ext H G := by rw [hG]; exact ((Ext.refl H).app _).app _
  (repeat (first | refine yv ?_ | (apply yd; simp (disch := first | exact yn | omega | (simp only [go_sem]; done) | (simp only [ln, ym]; omega) | (repeat' first | assumption | exact yo _ | refine yp ?_ _)) only [go_sem, box_ev hl.atom, hm.box1]; with_reducible rfl)))
  (simp only [List.length_append, List.length_cons, List.length_nil, Nat.zero_add, Nat.add_assoc, Nat.reduceAdd])
  rw [← hG]
  clear hG
  have hm1 := hm.ext xG
  have hl1 := hl.ext xG
  obtain ⟨n, hn⟩ : ∃ n, l.length - 1 = n := ⟨_, rfl⟩
  ((repeat (first | refine yv ?_ | apply yb | refine yc rfl ?_ | ((first | apply yd | apply ye); simp (disch := first | exact yn | omega | (simp only [go_sem]; done) | (simp only [ln, ym]; omega) | (repeat' first | assumption | exact yo _ | refine yp ?_ _)) only [go_sem]; with_reducible rfl))))
  refine awp_loop_n [false, false, true, true, true, true, true, false, false, false, false, false, false, false, false, false, false, false, false, false, false, false, false, false, false, false, false, false, false, false, false, false, false, false, false, false, false, false, false, false, false, false, false, false, false, false, false, false, false, false, false, false, false, false, false, false, false, false, false, false, false, false, false, false, false, false, false, false, false, false, false, false, false, false, false, false, false, false, false, false, false, false, false, false, false, false, false, false, false, false, false, false, false, false, false, false, false, false, false, false, false, false, false, false, false] n (fun i e J => e = [junk, junk, .pointer (some ⟨H.length, 0, none⟩), .pointer (some ⟨H.length + 1, 0, none⟩), .int .i64 0, .int .i64 0, .int .i64 i, junk, junk, junk, junk, junk, junk, junk, junk, junk, junk, junk, junk, junk, junk, junk, junk, junk, junk, junk, junk, junk, junk, junk, junk, junk, junk, junk, junk, junk, junk, junk, junk, junk, junk, junk, junk, junk, junk, junk, junk, junk, junk, junk, junk, junk, junk, junk, junk, junk, junk, junk, junk, junk, junk, junk, junk, junk, junk, junk, junk, junk, junk, junk, junk, junk, junk, junk, junk, junk, junk, junk, junk, junk, junk, junk, junk, junk, junk, junk, junk, junk, junk, junk, junk, junk, junk, junk, junk, junk, junk, junk, junk, junk, junk, junk, junk, junk, junk] ∧ Ext G J ∧ accRate L l 0 n = accRate L l i (n - i)) ?_ ?_
  · exact ⟨by simp [forget], Ext.refl _, rfl⟩
  rintro i e J hi ⟨rfl, x1, hA⟩
  have b0 := x1.cell g0
  have b1 := x1.cell g1
  have hmJ := hm1.ext x1
  have e1 : (i : Int) + 1 = ((i + 1 : Nat) : Int) := by omega
  ((repeat (first | refine yv ?_ | apply yb | refine yc rfl ?_ | ((first | apply yd | apply ye); simp (disch := first | exact yn | omega | (simp only [go_sem]; done) | (simp only [ln, ym]; omega) | (repeat' first | assumption | exact yo _ | refine yp ?_ _)) only [go_sem, hmJ.len, hmJ.idx, hmJ.load, load_at b1, e1]; with_reducible rfl))))
  refine cond_p rfl (fun hlt => ?_) (fun hge => ?_)
  · have hi' : i < n := by omega
    obtain ⟨p1, p2, p3, p4, p5, p6⟩ := hok.pieceAt (i := i) (by omega)
    rw [show n - i = n - (i + 1) + 1 by omega, accRate_succ] at hA
    have a1 := (hmJ.load (Ext.refl J) (i := i) (by omega)).1
    have a2 := (hmJ.load (Ext.refl J) (i := i + 1) (by omega)).1
    have ix1 := hmJ.idx (H' := J) (i := (i : Int)) (k := .i64) (by omega) (by omega)
    have ix2 := hmJ.idx (H' := J) (i := ((i + 1 : Nat) : Int)) (k := .i64) (by omega) (by omega)
    rw [Int.toNat_natCast] at ix1 ix2
    have ek : keepsB L (pieceOf l i) = decide (L.1 * ((l.getD (i + 1) (0, 0)).1 - (l.getD i (0, 0)).1) ≤ (l.getD (i + 1) (0, 0)).2 - (l.getD i (0, 0)).2 ∧ (l.getD (i + 1) (0, 0)).2 - (l.getD i (0, 0)).2 ≤ L.2 * ((l.getD (i + 1) (0, 0)).1 - (l.getD i (0, 0)).1)) := rfl
    rw [ek] at hA
    have p1 : 0 ≤ (l.getD i (0, 0)).1 ∧ (l.getD i (0, 0)).1 ≤ 1000000 := p1
    have p2 : 0 ≤ (l.getD (i + 1) (0, 0)).1 ∧ (l.getD (i + 1) (0, 0)).1 ≤ 1000000 := p2
    have p3 : 0 ≤ (l.getD i (0, 0)).2 ∧ (l.getD i (0, 0)).2 ≤ 1000000000000 := p3
    have p4 : 0 ≤ (l.getD (i + 1) (0, 0)).2 ∧ (l.getD (i + 1) (0, 0)).2 ≤ 1000000000000 := p4
    clear ek p5 p6
    generalize l.getD i (0, 0) = x at *
    generalize l.getD (i + 1) (0, 0) = y at *
    obtain ⟨P, hP⟩ : ∃ P, y.1 - x.1 = P := ⟨_, rfl⟩
    obtain ⟨T, hT⟩ : ∃ T, y.2 - x.2 = T := ⟨_, rfl⟩
    rw [hP, hT] at hA
    have m1 := mul_abs (x := L.1) (y := P) (a := 100000) (b := 1000000) ⟨by omega, by omega⟩ ⟨by omega, by omega⟩
    have m2 := mul_abs (x := L.2) (y := P) (a := 100000) (b := 1000000) ⟨by omega, by omega⟩ ⟨by omega, by omega⟩
    (repeat (first | refine yv ?_ | apply yb | refine yc rfl ?_))
    (repeat (first | refine yv ?_ | (apply ye; simp (disch := first | exact yn | omega | (simp only [go_sem]; done) | (simp only [ln, ym]; omega) | (repeat' first | assumption | exact yo _ | refine yp ?_ _)) only [go_sem, load_at b1, ix1, e1, ix2, a1, a2]; with_reducible rfl)))
    (simp only [List.length_append, List.length_cons, List.length_nil, Nat.zero_add, Nat.add_assoc, Nat.reduceAdd])
    obtain ⟨J2, hJ2⟩ : ∃ J2, J2 = J ++ ([AObj.cells true 0 [.int .i64 x.1, .int .i64 x.2]] ++ [AObj.cells true 0 [.int .i64 y.1, .int .i64 y.2]]) := ⟨_, rfl⟩
    have c6 : J2[J.length]? = some (.cells true 0 [.int .i64 x.1, .int .i64 x.2]) := by rw [hJ2]; simp
    have c7 : J2[J.length + 1]? = some (.cells true 0 [.int .i64 y.1, .int .i64 y.2]) := by rw [hJ2]; simp
    have x2 : Ext J J2 := ⟨_, hJ2⟩
    try simp only [List.append_assoc]
    rw [← hJ2]
    clear hJ2
    have d0 := x2.cell b0
    by_cases h1 : T < L.1 * P
    · rw [if_neg (by rw [decide_eq_true_eq]; omega)] at hA
      have eg : accGo L M l = ((i : Int), 23) := by unfold accGo; rw [hn, hA]
      rw [eg]
      ((repeat (first | refine yv ?_ | apply yb | refine yc rfl ?_ | ((first | apply yd | apply ye); simp (disch := first | exact yn | omega | (simp only [go_sem]; done) | (simp only [ln, ym]; omega) | (repeat' first | assumption | exact yo _ | refine yp ?_ _)) only [go_sem, load_at c6, load_at c7, hP, hT, load_at d0, evC, dec_t h1]; with_reducible rfl))))
      refine cond_t rfl ?_
      ((repeat (first | refine yv ?_ | apply yb | refine yc rfl ?_ | ((first | apply yd | apply ye); simp (disch := first | exact yn | omega | (simp only [go_sem]; done) | (simp only [ln, ym]; omega) | (repeat' first | assumption | exact yo _ | refine yp ?_ _)) only [go_sem]; with_reducible rfl))))
      exact fin_2 ⟨rfl, (xG.trans x1).trans x2⟩
    · by_cases h2 : T > L.2 * P
      · rw [if_neg (by rw [decide_eq_true_eq]; omega)] at hA
        have eg : accGo L M l = ((i : Int), 23) := by unfold accGo; rw [hn, hA]
        rw [eg]
        ((repeat (first | refine yv ?_ | apply yb | refine yc rfl ?_ | ((first | apply yd | apply ye); simp (disch := first | exact yn | omega | (simp only [go_sem]; done) | (simp only [ln, ym]; omega) | (repeat' first | assumption | exact yo _ | refine yp ?_ _)) only [go_sem, load_at c6, load_at c7, hP, hT, load_at d0, evC, dec_f h1, dec_t h2]; with_reducible rfl))))
        refine cond_t rfl ?_
        ((repeat (first | refine yv ?_ | apply yb | refine yc rfl ?_ | ((first | apply yd | apply ye); simp (disch := first | exact yn | omega | (simp only [go_sem]; done) | (simp only [ln, ym]; omega) | (repeat' first | assumption | exact yo _ | refine yp ?_ _)) only [go_sem]; with_reducible rfl))))
        exact fin_2 ⟨rfl, (xG.trans x1).trans x2⟩
      · rw [if_pos (by rw [decide_eq_true_eq]; omega)] at hA
        ((repeat (first | refine yv ?_ | apply yb | refine yc rfl ?_ | ((first | apply yd | apply ye); simp (disch := first | exact yn | omega | (simp only [go_sem]; done) | (simp only [ln, ym]; omega) | (repeat' first | assumption | exact yo _ | refine yp ?_ _)) only [go_sem, load_at c6, load_at c7, hP, hT, load_at d0, evC, dec_f h1, dec_f h2]; with_reducible rfl))))
        refine cond_f rfl ?_
        ((repeat (first | refine yv ?_ | apply yb | refine yc rfl ?_ | ((first | apply yd | apply ye); simp (disch := first | exact yn | omega | (simp only [go_sem]; done) | (simp only [ln, ym]; omega) | (repeat' first | assumption | exact yo _ | refine yp ?_ _)) only [go_sem, e1]; with_reducible rfl))))
        exact ⟨by omega, by simp [forget], x1.trans x2, hA⟩
  obtain rfl : i = n := by omega
  rw [Nat.sub_self] at hA
  have hA : accRate L l 0 i = none := hA
  have eg : accGo L M l = accMark M l 0 M.length := by unfold accGo; rw [hn, hA]
  rw [eg]
  clear eg hA
  have hlJ := hl1.ext x1
  have xHJ := xG.trans x1
  ((repeat (first | refine yv ?_ | apply yb | refine yc rfl ?_ | ((first | apply yd | apply ye); simp (disch := first | exact yn | omega | (simp only [go_sem]; done) | (simp only [ln, ym]; omega) | (repeat' first | assumption | exact yo _ | refine yp ?_ _)) only [go_sem]; with_reducible rfl))))
  refine awp_loop_n [false, false, true, true, true, true, false, false, false, false, false, true, false, false, false, false, false, false, false, false, false, false, false, false, false, false, false, false, false, false, false, false, false, false, false, false, false, false, false, false, false, false, false, false, false, false, false, false, false, false, false, false, false, false, false, false, false, false, false, false, false, false, false, false, false, false, false, false, false, false, false, false, false, false, false, false, false, false, false, false, false, false, false, false, false, false, false, false, false, false, false, false, false, false, false, false, false, false, false, false, false, false, false, false, false] M.length (fun j e J2 => e = [junk, junk, .pointer (some ⟨H.length, 0, none⟩), .pointer (some ⟨H.length + 1, 0, none⟩), .int .i64 0, .int .i64 0, junk, junk, junk, junk, junk, .int .i64 j, junk, junk, junk, junk, junk, junk, junk, junk, junk, junk, junk, junk, junk, junk, junk, junk, junk, junk, junk, junk, junk, junk, junk, junk, junk, junk, junk, junk, junk, junk, junk, junk, junk, junk, junk, junk, junk, junk, junk, junk, junk, junk, junk, junk, junk, junk, junk, junk, junk, junk, junk, junk, junk, junk, junk, junk, junk, junk, junk, junk, junk, junk, junk, junk, junk, junk, junk, junk, junk, junk, junk, junk, junk, junk, junk, junk, junk, junk, junk, junk, junk, junk, junk, junk, junk, junk, junk, junk, junk, junk, junk, junk, junk] ∧ Ext J J2 ∧ accMark M l 0 M.length = accMark M l j (M.length - j)) ?_ ?_
  · exact ⟨by simp [forget], Ext.refl _, rfl⟩
  rintro j e J2 hj ⟨rfl, x2, hA⟩
  have b0 := x2.cell b0
  have b1 := x2.cell b1
  have hlJ := hlJ.ext x2
  have hmJ := hmJ.ext x2
  ((repeat (first | refine yv ?_ | apply yb | refine yc rfl ?_ | ((first | apply yd | apply ye); simp (disch := first | exact yn | omega | (simp only [go_sem]; done) | (simp only [ln, ym]; omega) | (repeat' first | assumption | exact yo _ | refine yp ?_ _)) only [go_sem, hlJ.len, hlJ.idx, hlJ.load, load_at b0, evC]; with_reducible rfl))))
  refine cond_p rfl (fun hlt => ?_) (fun hge => ?_)
  rotate_left 1
  · obtain rfl : j = M.length := by omega
    rw [Nat.sub_self] at hA
    have hA : accMark M l 0 M.length = (0, 0) := hA
    rw [hA]
    ((repeat (first | refine yv ?_ | apply yb | refine yc rfl ?_ | ((first | apply yd | apply ye); simp (disch := first | exact yn | omega | (simp only [go_sem]; done) | (simp only [ln, ym]; omega) | (repeat' first | assumption | exact yo _ | refine yp ?_ _)) only [go_sem]; with_reducible rfl))))
    exact fin_2 ⟨rfl, xHJ.trans x2⟩
  have hj' : j < M.length := by omega
  rw [show M.length - j = M.length - (j + 1) + 1 by omega, accMark_succ] at hA
  have x1' := hk.t1 j hj'
  have x2' := hk.t2 j hj'
  (repeat (first | refine yv ?_ | (apply yd; simp (disch := first | exact yn | omega | (simp only [go_sem]; done) | (simp only [ln, ym]; omega) | (repeat' first | assumption | exact yo _ | refine yp ?_ _)) only [go_sem, hlJ.len, hlJ.idx, hlJ.load, load_at b0, evC, store_new3]; with_reducible rfl)))
  obtain ⟨x, hx⟩ : ∃ x, M.getD j (0, 0, 0) = x := ⟨_, rfl⟩
  rw [hx] at hA x1' x2' ⊢
  rw [new_mark x]
  have c11 : (J2 ++ [AObj.cells true 0 (markC x)])[J2.length]? = some (.cells true 0 (markC x)) := at_new
  have x9 : Ext J2 (J2 ++ [AObj.cells true 0 (markC x)]) := (Ext.refl J2).app _
  generalize (J2 ++ [AObj.cells true 0 (markC x)] : AHeap) = J3 at c11 x9
  have d1 := x9.cell b1
  have hmJ := hmJ.ext x9
  ((repeat (first | refine yv ?_ | apply yb | refine yc rfl ?_ | ((first | apply yd | apply ye); simp (disch := first | exact yn | omega | (simp only [go_sem]; done) | (simp only [ln, ym]; omega) | (repeat' first | assumption | exact yo _ | refine yp ?_ _)) only [go_sem, n1_at d1, load_at c11, markC]; with_reducible rfl))))
  (refine adraw_call (N := []) (firstD (rFirst_c hmJ (by omega))) ?_; rw [List.append_nil])
  ((repeat (first | refine yv ?_ | apply yb | refine yc rfl ?_ | ((first | apply yd | apply ye); simp (disch := first | exact yn | omega | (simp only [go_sem]; done) | (simp only [ln, ym]; omega) | (repeat' first | assumption | exact yo _ | refine yp ?_ _)) only [go_sem, n1_at d1]; with_reducible rfl))))
  (refine adraw_call (N := []) (firstD (rLast_c hmJ (by omega) (by omega))) ?_; rw [List.append_nil])
  ((repeat (first | refine yv ?_ | apply yb | refine yc rfl ?_ | ((first | apply yd | apply ye); simp (disch := first | exact yn | omega | (simp only [go_sem]; done) | (simp only [ln, ym]; omega) | (repeat' first | assumption | exact yo _ | refine yp ?_ _)) only [go_sem, load_at c11, markC]; with_reducible rfl))))
  (refine adraw_call (N := []) (firstD (bwithin_c _ _ _)) ?_; rw [List.append_nil])
  by_cases hin : (l.getD 0 (0, 0)).1 ≤ x.1 ∧ x.1 ≤ (l.getD (l.length - 1) (0, 0)).1
  rotate_left 1
  · rw [if_neg hin] at hA
    rw [hA]
    ((repeat (first | refine yv ?_ | apply yb | refine yc rfl ?_ | ((first | apply yd | apply ye); simp (disch := first | exact yn | omega | (simp only [go_sem]; done) | (simp only [ln, ym]; omega) | (repeat' first | assumption | exact yo _ | refine yp ?_ _)) only [go_sem, dec_f hin]; with_reducible rfl))))
    refine cond_t rfl ?_
    ((repeat (first | refine yv ?_ | apply yb | refine yc rfl ?_ | ((first | apply yd | apply ye); simp (disch := first | exact yn | omega | (simp only [go_sem]; done) | (simp only [ln, ym]; omega) | (repeat' first | assumption | exact yo _ | refine yp ?_ _)) only [go_sem]; with_reducible rfl))))
    exact fin_2 ⟨rfl, (xHJ.trans x2).trans x9⟩
  rw [if_pos hin] at hA
  ((repeat (first | refine yv ?_ | apply yb | refine yc rfl ?_ | ((first | apply yd | apply ye); simp (disch := first | exact yn | omega | (simp only [go_sem]; done) | (simp only [ln, ym]; omega) | (repeat' first | assumption | exact yo _ | refine yp ?_ _)) only [go_sem, dec_t hin]; with_reducible rfl))))
  refine cond_f rfl ?_
  ((repeat (first | refine yv ?_ | apply yb | refine yc rfl ?_ | ((first | apply yd | apply ye); simp (disch := first | exact yn | omega | (simp only [go_sem]; done) | (simp only [ln, ym]; omega) | (repeat' first | assumption | exact yo _ | refine yp ?_ _)) only [go_sem, n1_at d1, load_at c11, markC]; with_reducible rfl))))
  (refine aops_call_to (rtimeAt_c hmJ hok hin.1 hin.2) ?_)
  obtain ⟨hpi, hp1, hp2⟩ := pieceP_ok hok hin.1 hin.2
  obtain ⟨p1, p2, p3, p4, p5, p6⟩ := hok.pieceAt hpi
  have epp : pieceOf l (atPos l x.1 0 (l.length - 2)) = pieceP l x.1 := rfl
  rw [epp] at p1 p2 p3 p4 p5 p6 ⊢
  generalize pieceP l x.1 = p at *
  obtain ⟨d, hd⟩ : ∃ d, p.2.1 - p.1.1 = d := ⟨_, rfl⟩
  have m1 := mul_abs (x := x.2.1) (y := d) (a := 1000000000000) (b := 1000000) ⟨by omega, by omega⟩ ⟨by omega, by omega⟩
  have m2 := mul_abs (x := x.2.2) (y := d) (a := 1000000000000) (b := 1000000) ⟨by omega, by omega⟩ ⟨by omega, by omega⟩
  rw [hd]
  ((repeat (first | refine yv ?_ | apply yb | refine yc rfl ?_ | ((first | apply yd | apply ye); simp (disch := first | exact yn | omega | (simp only [go_sem]; done) | (simp only [ln, ym]; omega) | (repeat' first | assumption | exact yo _ | refine yp ?_ _)) only [go_sem, load_at c11, markC]; with_reducible rfl))))
  (refine aops_call_to (bwithin_c _ _ _) ?_)
  have em : meetsB p x = decide (x.2.1 * d ≤ timN p x.1 ∧ timN p x.1 ≤ x.2.2 * d) := by unfold meetsB; rw [hd]
  rw [em] at hA
  by_cases hmt : x.2.1 * d ≤ timN p x.1 ∧ timN p x.1 ≤ x.2.2 * d
  · rw [if_pos (by rw [decide_eq_true_eq]; exact hmt)] at hA
    have e1 : (j : Int) + 1 = ((j + 1 : Nat) : Int) := by omega
    ((repeat (first | refine yv ?_ | apply yb | refine yc rfl ?_ | ((first | apply yd | apply ye); simp (disch := first | exact yn | omega | (simp only [go_sem]; done) | (simp only [ln, ym]; omega) | (repeat' first | assumption | exact yo _ | refine yp ?_ _)) only [go_sem, dec_t hmt]; with_reducible rfl))))
    refine cond_f rfl ?_
    ((repeat (first | refine yv ?_ | apply yb | refine yc rfl ?_ | ((first | apply yd | apply ye); simp (disch := first | exact yn | omega | (simp only [go_sem]; done) | (simp only [ln, ym]; omega) | (repeat' first | assumption | exact yo _ | refine yp ?_ _)) only [go_sem, e1]; with_reducible rfl))))
    exact ⟨by omega, by simp [forget], x2.trans x9, hA⟩
  · rw [if_neg (by rw [decide_eq_true_eq]; exact hmt)] at hA
    rw [hA]
    ((repeat (first | refine yv ?_ | apply yb | refine yc rfl ?_ | ((first | apply yd | apply ye); simp (disch := first | exact yn | omega | (simp only [go_sem]; done) | (simp only [ln, ym]; omega) | (repeat' first | assumption | exact yo _ | refine yp ?_ _)) only [go_sem, dec_f hmt]; with_reducible rfl))))
    refine cond_t rfl ?_
    ((repeat (first | refine yv ?_ | apply yb | refine yc rfl ?_ | ((first | apply yd | apply ye); simp (disch := first | exact yn | omega | (simp only [go_sem]; done) | (simp only [ln, ym]; omega) | (repeat' first | assumption | exact yo _ | refine yp ?_ _)) only [go_sem]; with_reducible rfl))))
    exact fin_2 ⟨rfl, (xHJ.trans x2).trans x9⟩
end
end Go.Lq

namespace Go.Lq
open Go
open Go.Proofs

theorem accRate_none {L : Int × Int} {l : List (Int × Int)} : ∀ {n i : Nat}, (∀ j, i ≤ j → j < i + n → keepsB L (pieceOf l j) = true) → accRate L l i n = none
  | 0, i, _ => rfl
  | n + 1, i, h => by
    rw [accRate_succ, if_pos (h i (Nat.le_refl _) (by omega))]
    exact accRate_none fun j h1 h2 => h j (by omega) (by omega)
theorem accMark_zero {M : List Mark} {l : List (Int × Int)} : ∀ {n i : Nat}, (∀ j, i ≤ j → j < i + n → ((l.getD 0 (0, 0)).1 ≤ mP M j ∧ mP M j ≤ (l.getD (l.length - 1) (0, 0)).1) ∧ meetsB (pieceP l (mP M j)) (M.getD j (0, 0, 0)) = true) → accMark M l i n = (0, 0)
  | 0, i, _ => rfl
  | n + 1, i, h => by
    have h1 := h i (Nat.le_refl _) (by omega)
    rw [accMark_succ, if_pos h1.1, if_pos h1.2]
    exact accMark_zero fun j h1 h2 => h j (by omega) (by omega)
theorem meets_iff {p : (Int × Int) × (Int × Int)} {x : Mark} : meetsB p x = true ↔ atLeast p x.1 x.2.1 ∧ atMost p x.1 x.2.2 := decide_eq_true_iff
theorem accGo_zero {L : Int × Int} {M : List Mark} {l : List (Int × Int)} (hr : RateOk L l) (hm : ∀ j, j < M.length → ((l.getD 0 (0, 0)).1 ≤ mP M j ∧ mP M j ≤ (l.getD (l.length - 1) (0, 0)).1) ∧ meetsB (pieceP l (mP M j)) (M.getD j (0, 0, 0)) = true) : accGo L M l = (0, 0) := by
  unfold accGo
  rw [accRate_none (fun j _ h2 => decide_eq_true (hr j (by omega)))]
  exact accMark_zero fun j _ h2 => hm j (by omega)
theorem any_acc {L : Int × Int} {M : List Mark} (h : EvOk L M) (hN : NoClash L M) (h2 : 2 ≤ M.length) : accGo L M (anyL L M) = (0, 0) := by
  have hok := any_ok h hN h2
  refine accGo_zero (any_rate h) fun j hj => ?_
  have hj' : j < (anyL L M).length := by rw [anyL_len]; exact hj
  have e1 : (anyL L M).getD j (0, 0) = (mP M j, (encTo L M (mP M j) M.length).1) := anyL_at hj
  have a1 := hok.posLe (Nat.zero_le j) hj'
  have a2 := hok.posLe (show j ≤ (anyL L M).length - 1 by omega) (by omega)
  have hn := (map_node hok hj').1
  rw [e1] at a1 a2 hn
  refine ⟨⟨a1, a2⟩, meets_iff.2 ?_⟩
  obtain ⟨b1, _⟩ := atPos_in (l := anyL L M) (t := mP M j) (k := (anyL L M).length - 2) (i := 0) (by have := hok.lo; omega) a1
  have hp : (pieceP (anyL L M) (mP M j)).1.1 < (pieceP (anyL L M) (mP M j)).2.1 := (hok.piece b1).pos
  have hm := enc_mark h hN hj
  have n1 : timLo (pieceP (anyL L M) (mP M j)) (mP M j) = (encTo L M (mP M j) M.length).1 := hn.1
  have n2 : timHi (pieceP (anyL L M) (mP M j)) (mP M j) = (encTo L M (mP M j) M.length).1 := hn.2
  constructor
  · show atLeast (pieceP (anyL L M) (mP M j)) (mP M j) _
    rw [least_lo hp, n1]; exact hm.1
  · show atMost (pieceP (anyL L M) (mP M j)) (mP M j) _
    rw [most_hi hp, n2]; exact hm.2
section
variable {H : AHeap} {L : Int × Int} {M : List Mark} {v u : Value} {l : List (Int × Int)}
set_option maxHeartbeats 8000000 in
theorem sound_c (hl : Tris H M v) (hez : evErrL L M = 0) (hM : 0 < M.length) (hm : Pairs H l u) (hok : MapOk l) (hll : l.length ≤ 22) (hacc : accGo L M l = (0, 0)) (h0 : (l.getD 0 (0, 0)).1 = (M.getD 0 (0, 0, 0)).1) (hE : (l.getD (l.length - 1) (0, 0)).1 = (M.getD (M.length - 1) (0, 0, 0)).1) :
    ACall Go.Proofs.Try.prog 57 [evV L v, .agg ⟨[u]⟩] H fun w H' => w = .bool true ∧ H' = H := by
  refine ACall.drop (.bool _) ?_
  have hk := evErr_ok hez
  have hlen := hk.len
  have h02 := hok.lo
  have hz : mapErrL l = 0 := hok.err
  (refine a57 ?_; simp only [n57, List.replicate, yq, yr, yt, yu]; first | refine q1 ?_ | refine q2 ?_ | refine q6 ?_ | refine q7 ?_ | refine qh rfl ?_ | skip)
  obtain ⟨G, hG⟩ : ∃ G, G = H ++ [AObj.cells true 0 (evC L v)] ++ [AObj.cells true 0 [u]] := ⟨_, rfl⟩
  have g0 : G[H.length]? = some (.cells true 0 (evC L v)) := by rw [hG]; simp
  have g1 : G[H.length + 1]? = some (.cells true 0 [u]) := by rw [hG]; simp
  have xG : Ext H G := by rw [hG]; exact ((Ext.refl H).app _).app _
  (repeat (first | refine yv ?_ | (apply yd; simp (disch := first | exact yn | omega | (simp only [go_sem]; done) | (simp only [ln, ym]; omega) | (repeat' first | assumption | exact yo _ | refine yp ?_ _)) only [go_sem, box_ev hl.atom, hm.box1]; with_reducible rfl)))
  (simp only [List.length_append, List.length_cons, List.length_nil, Nat.zero_add, Nat.add_assoc, Nat.reduceAdd])
  rw [← hG]
  clear hG
  have k0 := hl.ext xG
  have k1 := hm.ext xG
  ((repeat (first | refine yv ?_ | apply yb | refine yc rfl ?_ | ((first | apply yd | apply ye); simp (disch := first | exact yn | omega | (simp only [go_sem]; done) | (simp only [ln, ym]; omega) | (repeat' first | assumption | exact yo _ | refine yp ?_ _)) only [go_sem, n1_at g1]; with_reducible rfl))))
  (refine aops_call_to (few_c k1) ?_)
  ((repeat (first | refine yv ?_ | apply yb | refine yc rfl ?_ | ((first | apply yd | apply ye); simp (disch := first | exact yn | omega | (simp only [go_sem]; done) | (simp only [ln, ym]; omega) | (repeat' first | assumption | exact yo _ | refine yp ?_ _)) only [go_sem, dec_t hll, n1_at g1]; with_reducible rfl))))
  (refine aops_call_to (rMapErr_c k1 (by omega)) ?_)
  ((repeat (first | refine yv ?_ | apply yb | refine yc rfl ?_ | ((first | apply yd | apply ye); simp (disch := first | exact yn | omega | (simp only [go_sem]; done) | (simp only [ln, ym]; omega) | (repeat' first | assumption | exact yo _ | refine yp ?_ _)) only [go_sem, hz]; with_reducible rfl))))
  refine cond_f rfl ?_
  ((repeat (first | refine yv ?_ | apply yb | refine yc rfl ?_ | ((first | apply yd | apply ye); simp (disch := first | exact yn | omega | (simp only [go_sem]; done) | (simp only [ln, ym]; omega) | (repeat' first | assumption | exact yo _ | refine yp ?_ _)) only [go_sem, load_ev g0, n1_at g1]; with_reducible rfl))))
  (refine aops_call_to (rAccepts_c k0 hk k1 hok) ?_)
  rw [hacc]
  ((repeat (first | refine yv ?_ | apply yb | refine yc rfl ?_ | ((first | apply yd | apply ye); simp (disch := first | exact yn | omega | (simp only [go_sem]; done) | (simp only [ln, ym]; omega) | (repeat' first | assumption | exact yo _ | refine yp ?_ _)) only [go_sem, n1_at g1]; with_reducible rfl))))
  (refine adraw_call (N := []) (firstD (rFirst_c k1 (by omega))) ?_; rw [List.append_nil])
  have f0 := (k0.load (Ext.refl G) (i := 0) hM).2.2.1
  have d0 := (k0.load (Ext.refl G) (i := 0) hM).2.2.2.2.2.2.2.1
  have f1 := (k0.load (Ext.refl G) (i := M.length - 1) (by omega)).2.2.1
  have d1 := (k0.load (Ext.refl G) (i := M.length - 1) (by omega)).2.2.2.2.2.2.2.1
  have ix0 := k0.idx (H' := G) (i := 0) (k := .i64) (by omega) (by omega)
  have ix1 := k0.idx (H' := G) (i := ((M.length - 1 : Nat) : Int)) (k := .i64) (by omega) (by omega)
  have e1 : (M.length : Int) - 1 = ((M.length - 1 : Nat) : Int) := by omega
  rw [Int.toNat_natCast] at ix1
  have e0 : (0 : Int).toNat = 0 := rfl
  rw [e0] at ix0
  rw [Nat.zero_mul] at ix0 f0 d0
  rw [h0]
  ((repeat (first | refine yv ?_ | apply yb | refine yc rfl ?_ | ((first | apply yd | apply ye); simp (disch := first | exact yn | omega | (simp only [go_sem]; done) | (simp only [ln, ym]; omega) | (repeat' first | assumption | exact yo _ | refine yp ?_ _)) only [go_sem, load_at g0, evC, ix0, f0, d0, decide_ne_self, n1_at g1]; with_reducible rfl))))
  (refine adraw_call (N := []) (firstD (rLast_c k1 (by omega) (by omega))) ?_; rw [List.append_nil])
  rw [hE]
  ((repeat (first | refine yv ?_ | apply yb | refine yc rfl ?_ | ((first | apply yd | apply ye); simp (disch := first | exact yn | omega | (simp only [go_sem]; done) | (simp only [ln, ym]; omega) | (repeat' first | assumption | exact yo _ | refine yp ?_ _)) only [go_sem, load_at g0, evC, k0.len, e1, ix1, f1, d1, decide_ne_self]; with_reducible rfl))))
  refine cond_f rfl ?_
  ((repeat (first | refine yv ?_ | apply yb | refine yc rfl ?_ | ((first | apply yd | apply ye); simp (disch := first | exact yn | omega | (simp only [go_sem]; done) | (simp only [ln, ym]; omega) | (repeat' first | assumption | exact yo _ | refine yp ?_ _)) only [go_sem, load_ev g0]; with_reducible rfl))))
  refine adraw_call (copyEv_c k0 (by omega)) ?_
  have hC : Tris (G ++ [.cells true 3 (flat3 M)]) M (.slice (some ⟨G.length, 0, none⟩) M.length M.length) := Tris.last M.length
  have x1 : Ext G (G ++ [AObj.cells true 3 (flat3 M)]) := (Ext.refl G).app _
  obtain ⟨G1, hG1⟩ : ∃ G1, G ++ [AObj.cells true 3 (flat3 M)] = G1 := ⟨_, rfl⟩
  rw [hG1] at hC x1 ⊢
  clear hG1
  ((repeat (first | refine yv ?_ | apply yb | refine yc rfl ?_ | ((first | apply yd | apply ye); simp (disch := first | exact yn | omega | (simp only [go_sem]; done) | (simp only [ln, ym]; omega) | (repeat' first | assumption | exact yo _ | refine yp ?_ _)) only [go_sem, n1_at (x1.cell g1)]; with_reducible rfl))))
  refine adraw_call (copyMap_c (k1.ext x1) (by omega)) ?_
  have hD : Pairs (G1 ++ [.cells true 2 (flatP l)]) l (.slice (some ⟨G1.length, 0, none⟩) l.length l.length) := Pairs.last l.length
  have x2 : Ext G1 (G1 ++ [AObj.cells true 2 (flatP l)]) := (Ext.refl G1).app _
  obtain ⟨G2, hG2⟩ : ∃ G2, G1 ++ [AObj.cells true 2 (flatP l)] = G2 := ⟨_, rfl⟩
  rw [hG2] at hD x2 ⊢
  clear hG2
  ((repeat (first | refine yv ?_ | apply yb | refine yc rfl ?_ | ((first | apply yd | apply ye); simp (disch := first | exact yn | omega | (simp only [go_sem]; done) | (simp only [ln, ym]; omega) | (repeat' first | assumption | exact yo _ | refine yp ?_ _)) only [go_sem]; with_reducible rfl))))
  (refine adraw_call (N := []) (firstD (accepts_c (hC.ext x2) (by omega) hD (by omega))) ?_; rw [List.append_nil])
  have ev : accL L M l = (0, 0) := by
    unfold accL accE
    rw [hez, hz, if_neg (by decide), hacc]
  rw [ev]
  ((repeat (first | refine yv ?_ | apply yb | refine yc rfl ?_ | ((first | apply yd | apply ye); simp (disch := first | exact yn | omega | (simp only [go_sem]; done) | (simp only [ln, ym]; omega) | (repeat' first | assumption | exact yo _ | refine yp ?_ _)) only [go_sem]; with_reducible rfl))))
  exact fin_1 ⟨rfl, xG.trans (x1.trans x2)⟩
end
end Go.Lq

namespace Go.Lq
open Go
open Go.Proofs

theorem d_10_0 : decide ((10 : Int) = 0) = false := by decide
theorem dn_10 : decide ((10 : Int) ≠ 0) = true := by decide
theorem dn_13 : decide ((13 : Int) ≠ 0) = true := by decide
set_option maxRecDepth 100000 in
set_option maxHeartbeats 4000000 in
theorem law11 {H : AHeap} {avs : List Value} (h : RepAll Try.prog H [26] avs) : ACall Try.prog 11 avs H fun v _ => v = .bool true := by
  obtain ⟨a, rfl, h1⟩ := h.one
  obtain ⟨L, M, s, rfl, hl, hlm⟩ := repEv h1
  have e0 : Value.agg ⟨[.int .i64 L.1, .int .i64 L.2, s]⟩ = evV L s := rfl
  rw [e0]
  (refine a11 ?_; simp only [n11, List.replicate, yq, yr, yt, yu]; first | refine q1 ?_ | refine q2 ?_ | refine q6 ?_ | refine q7 ?_ | refine qh rfl ?_ | skip)
  have g0 : (H ++ [AObj.cells true 0 (evC L s)])[H.length]? = some (.cells true 0 (evC L s)) := at_new
  have xG : Ext H (H ++ [AObj.cells true 0 (evC L s)]) := (Ext.refl H).app _
  (repeat (first | refine yv ?_ | (apply yd; simp (disch := first | exact yn | omega | (simp only [go_sem]; done) | (simp only [ln, ym]; omega) | (repeat' first | assumption | exact yo _ | refine yp ?_ _)) only [go_sem, box_ev hl.atom]; with_reducible rfl)))
  generalize (H ++ [AObj.cells true 0 (evC L s)] : AHeap) = G at g0 xG
  have k0 := hl.ext xG
  ((repeat (first | refine yv ?_ | apply yb | refine yc rfl ?_ | ((first | apply yd | apply ye); simp (disch := first | exact yn | omega | (simp only [go_sem]; done) | (simp only [ln, ym]; omega) | (repeat' first | assumption | exact yo _ | refine yp ?_ _)) only [go_sem]; with_reducible rfl))))
  (refine aops_call_to (awake_c) ?_)
  ((repeat (first | refine yv ?_ | apply yb | refine yc rfl ?_ | ((first | apply yd | apply ye); simp (disch := first | exact yn | omega | (simp only [go_sem]; done) | (simp only [ln, ym]; omega) | (repeat' first | assumption | exact yo _ | refine yp ?_ _)) only [go_sem]; with_reducible rfl))))
  refine cond_f rfl ?_
  ((repeat (first | refine yv ?_ | apply yb | refine yc rfl ?_ | ((first | apply yd | apply ye); simp (disch := first | exact yn | omega | (simp only [go_sem]; done) | (simp only [ln, ym]; omega) | (repeat' first | assumption | exact yo _ | refine yp ?_ _)) only [go_sem, load_ev g0]; with_reducible rfl))))
  (refine aops_call_to (fewMarks_c k0) ?_)
  by_cases hf : M.length ≤ 14
  rotate_left 1
  · ((repeat (first | refine yv ?_ | apply yb | refine yc rfl ?_ | ((first | apply yd | apply ye); simp (disch := first | exact yn | omega | (simp only [go_sem]; done) | (simp only [ln, ym]; omega) | (repeat' first | assumption | exact yo _ | refine yp ?_ _)) only [go_sem, dec_f hf]; with_reducible rfl))))
    refine cond_t rfl ?_
    ((repeat (first | refine yv ?_ | apply yb | refine yc rfl ?_ | ((first | apply yd | apply ye); simp (disch := first | exact yn | omega | (simp only [go_sem]; done) | (simp only [ln, ym]; omega) | (repeat' first | assumption | exact yo _ | refine yp ?_ _)) only [go_sem]; with_reducible rfl))))
    exact fin_1 rfl
  ((repeat (first | refine yv ?_ | apply yb | refine yc rfl ?_ | ((first | apply yd | apply ye); simp (disch := first | exact yn | omega | (simp only [go_sem]; done) | (simp only [ln, ym]; omega) | (repeat' first | assumption | exact yo _ | refine yp ?_ _)) only [go_sem, dec_t hf]; with_reducible rfl))))
  refine cond_f rfl ?_
  ((repeat (first | refine yv ?_ | apply yb | refine yc rfl ?_ | ((first | apply yd | apply ye); simp (disch := first | exact yn | omega | (simp only [go_sem]; done) | (simp only [ln, ym]; omega) | (repeat' first | assumption | exact yo _ | refine yp ?_ _)) only [go_sem, load_ev g0]; with_reducible rfl))))
  (refine aops_call_to (copyEv_c k0 (by omega)) ?_)
  have hC : Tris (G ++ [.cells true 3 (flat3 M)]) M (.slice (some ⟨G.length, 0, none⟩) M.length M.length) := Tris.last M.length
  have x1 : Ext G (G ++ [AObj.cells true 3 (flat3 M)]) := (Ext.refl G).app _
  ((repeat (first | refine yv ?_ | apply yb | refine yc rfl ?_ | ((first | apply yd | apply ye); simp (disch := first | exact yn | omega | (simp only [go_sem]; done) | (simp only [ln, ym]; omega) | (repeat' first | assumption | exact yo _ | refine yp ?_ _)) only [go_sem]; with_reducible rfl))))
  generalize (G ++ [AObj.cells true 3 (flat3 M)] : AHeap) = G1 at hC x1
  refine aops_call ((anyMap_c hC (by omega)).mono fun w G2 ⟨x2, r, hw, hr⟩ => ?_)
  subst hw
  have ra : isAtom r = true := Sl.atom hr
  have hst : storeR 1 (.pointer (some ⟨G2.length, 0, none⟩)) (.agg ⟨[r]⟩) (G2 ++ [.cells true 0 [.slice none 0 0]]) = some (undef, G2 ++ [.cells true 0 [r]]) := store_newA ra
  have c3 : (G2 ++ [AObj.cells true 0 [r]])[G2.length]? = some (.cells true 0 [r]) := at_new
  have x3 : Ext G2 (G2 ++ [AObj.cells true 0 [r]]) := (Ext.refl G2).app _
  ((repeat (first | refine yv ?_ | apply yb | refine yc rfl ?_ | ((first | apply yd | apply ye); simp (disch := first | exact yn | omega | (simp only [go_sem]; done) | (simp only [ln, ym]; omega) | (repeat' first | assumption | exact yo _ | refine yp ?_ _)) only [go_sem, hst]; with_reducible rfl))))
  generalize (G2 ++ [AObj.cells true 0 [r]] : AHeap) = G3 at c3 x3
  have x13 := x1.trans (x2.trans x3)
  have g3 := x13.cell g0
  have k3 := k0.ext x13
  have hr3 := hr.ext x3
  ((repeat (first | refine yv ?_ | apply yb | refine yc rfl ?_ | ((first | apply yd | apply ye); simp (disch := first | exact yn | omega | (simp only [go_sem]; done) | (simp only [ln, ym]; omega) | (repeat' first | assumption | exact yo _ | refine yp ?_ _)) only [go_sem, load_ev g3]; with_reducible rfl))))
  (refine aops_call_to (rEvErr_c k3 (by omega)) ?_)
  by_cases hz : evErrL L M = 0
  rotate_left 1
  · have ef : fewE L M = evErrL L M := firstErr_e hz _
    have ea : anyErr L M = evErrL L M := by unfold anyErr; rw [ef, if_pos hz]
    have er : anyRes L M = [] := by unfold anyRes; rw [ea, if_neg hz]
    rw [er] at hr3
    rw [ea]
    ((repeat (first | refine yv ?_ | apply yb | refine yc rfl ?_ | ((first | apply yd | apply ye); simp (disch := first | exact yn | omega | (simp only [go_sem]; done) | (simp only [ln, ym]; omega) | (repeat' first | assumption | exact yo _ | refine yp ?_ _)) only [go_sem, dec_f hz]; with_reducible rfl))))
    refine cond_f rfl ?_
    ((repeat (first | refine yv ?_ | apply yb | refine yc rfl ?_ | ((first | apply yd | apply ye); simp (disch := first | exact yn | omega | (simp only [go_sem]; done) | (simp only [ln, ym]; omega) | (repeat' first | assumption | exact yo _ | refine yp ?_ _)) only [go_sem, dec_f hz]; with_reducible rfl))))
    refine cond_f rfl ?_
    ((repeat (first | refine yv ?_ | apply yb | refine yc rfl ?_ | ((first | apply yd | apply ye); simp (disch := first | exact yn | omega | (simp only [go_sem]; done) | (simp only [ln, ym]; omega) | (repeat' first | assumption | exact yo _ | refine yp ?_ _)) only [go_sem, dec_t (show evErrL L M ≠ 0 from hz)]; with_reducible rfl))))
    refine cond_t rfl ?_
    ((repeat (first | refine yv ?_ | apply yb | refine yc rfl ?_ | ((first | apply yd | apply ye); simp (disch := first | exact yn | omega | (simp only [go_sem]; done) | (simp only [ln, ym]; omega) | (repeat' first | assumption | exact yo _ | refine yp ?_ _)) only [go_sem, hr3.len, hr3.idx, hr3.load, load1 c3, decide_eq_self, List.length_nil]; with_reducible rfl))))
    exact fin_1 rfl
  rw [hz]
  by_cases h2 : (M.length : Int) < 2
  · have ef : fewE L M = 10 := by unfold fewE; rw [hz, firstErr_z, if_neg (by omega), firstErr_e (by decide)]
    have ea : anyErr L M = 10 := by unfold anyErr; rw [ef, if_pos (by decide)]
    have er : anyRes L M = [] := by unfold anyRes; rw [ea, if_neg (by decide)]
    rw [er] at hr3
    rw [ea]
    ((repeat (first | refine yv ?_ | apply yb | refine yc rfl ?_ | ((first | apply yd | apply ye); simp (disch := first | exact yn | omega | (simp only [go_sem]; done) | (simp only [ln, ym]; omega) | (repeat' first | assumption | exact yo _ | refine yp ?_ _)) only [go_sem, k3.len, k3.idx, k3.load, decide_eq_self, load_at g3, evC, dec_t h2]; with_reducible rfl))))
    refine cond_t rfl ?_
    ((repeat (first | refine yv ?_ | apply yb | refine yc rfl ?_ | ((first | apply yd | apply ye); simp (disch := first | exact yn | omega | (simp only [go_sem]; done) | (simp only [ln, ym]; omega) | (repeat' first | assumption | exact yo _ | refine yp ?_ _)) only [go_sem, d_10_0]; with_reducible rfl))))
    refine cond_f rfl ?_
    ((repeat (first | refine yv ?_ | apply yb | refine yc rfl ?_ | ((first | apply yd | apply ye); simp (disch := first | exact yn | omega | (simp only [go_sem]; done) | (simp only [ln, ym]; omega) | (repeat' first | assumption | exact yo _ | refine yp ?_ _)) only [go_sem, dn_10]; with_reducible rfl))))
    refine cond_t rfl ?_
    ((repeat (first | refine yv ?_ | apply yb | refine yc rfl ?_ | ((first | apply yd | apply ye); simp (disch := first | exact yn | omega | (simp only [go_sem]; done) | (simp only [ln, ym]; omega) | (repeat' first | assumption | exact yo _ | refine yp ?_ _)) only [go_sem, hr3.len, hr3.idx, hr3.load, load1 c3, decide_eq_self, List.length_nil]; with_reducible rfl))))
    exact fin_1 rfl
  have hk := evErr_ok hz
  have ef : fewE L M = 0 := by unfold fewE; rw [hz, firstErr_z, if_pos (by omega)]; rfl
  ((repeat (first | refine yv ?_ | apply yb | refine yc rfl ?_ | ((first | apply yd | apply ye); simp (disch := first | exact yn | omega | (simp only [go_sem]; done) | (simp only [ln, ym]; omega) | (repeat' first | assumption | exact yo _ | refine yp ?_ _)) only [go_sem, k3.len, k3.idx, k3.load, decide_eq_self, load_at g3, evC, dec_f h2]; with_reducible rfl))))
  refine cond_f rfl ?_
  ((repeat (first | refine yv ?_ | apply yb | refine yc rfl ?_ | ((first | apply yd | apply ye); simp (disch := first | exact yn | omega | (simp only [go_sem]; done) | (simp only [ln, ym]; omega) | (repeat' first | assumption | exact yo _ | refine yp ?_ _)) only [go_sem, decide_eq_self, load_ev g3]; with_reducible rfl))))
  (refine aops_call_to (rIsPossible_c k3 hk) ?_)
  by_cases hcl : clashL L M = none
  rotate_left 1
  · have ea : anyErr L M = 13 := by unfold anyErr; rw [if_neg (fun h => h ef), if_neg hcl]
    have er : anyRes L M = [] := by unfold anyRes; rw [ea, if_neg (by decide)]
    rw [er] at hr3
    rw [ea]
    ((repeat (first | refine yv ?_ | apply yb | refine yc rfl ?_ | ((first | apply yd | apply ye); simp (disch := first | exact yn | omega | (simp only [go_sem]; done) | (simp only [ln, ym]; omega) | (repeat' first | assumption | exact yo _ | refine yp ?_ _)) only [go_sem, dec_f hcl]; with_reducible rfl))))
    refine cond_t rfl ?_
    ((repeat (first | refine yv ?_ | apply yb | refine yc rfl ?_ | ((first | apply yd | apply ye); simp (disch := first | exact yn | omega | (simp only [go_sem]; done) | (simp only [ln, ym]; omega) | (repeat' first | assumption | exact yo _ | refine yp ?_ _)) only [go_sem, dn_13]; with_reducible rfl))))
    refine cond_t rfl ?_
    ((repeat (first | refine yv ?_ | apply yb | refine yc rfl ?_ | ((first | apply yd | apply ye); simp (disch := first | exact yn | omega | (simp only [go_sem]; done) | (simp only [ln, ym]; omega) | (repeat' first | assumption | exact yo _ | refine yp ?_ _)) only [go_sem, hr3.len, hr3.idx, hr3.load, load1 c3, decide_eq_self, List.length_nil]; with_reducible rfl))))
    exact fin_1 rfl
  have ea : anyErr L M = 0 := by unfold anyErr; rw [if_neg (fun h => h ef), if_pos hcl]
  have er : anyRes L M = anyL L M := by unfold anyRes; rw [ea, if_pos rfl]
  rw [er] at hr3
  rw [ea]
  have hN := clashL_none.1 hcl
  have hok := any_ok hk hN (by omega)
  have hlen := hk.len
  ((repeat (first | refine yv ?_ | apply yb | refine yc rfl ?_ | ((first | apply yd | apply ye); simp (disch := first | exact yn | omega | (simp only [go_sem]; done) | (simp only [ln, ym]; omega) | (repeat' first | assumption | exact yo _ | refine yp ?_ _)) only [go_sem, dec_t hcl]; with_reducible rfl))))
  refine cond_f rfl ?_
  ((repeat (first | refine yv ?_ | apply yb | refine yc rfl ?_ | ((first | apply yd | apply ye); simp (disch := first | exact yn | omega | (simp only [go_sem]; done) | (simp only [ln, ym]; omega) | (repeat' first | assumption | exact yo _ | refine yp ?_ _)) only [go_sem, decide_ne_self]; with_reducible rfl))))
  refine cond_f rfl ?_
  ((repeat (first | refine yv ?_ | apply yb | refine yc rfl ?_ | ((first | apply yd | apply ye); simp (disch := first | exact yn | omega | (simp only [go_sem]; done) | (simp only [ln, ym]; omega) | (repeat' first | assumption | exact yo _ | refine yp ?_ _)) only [go_sem, decide_eq_self, load_ev g3, n1_at c3]; with_reducible rfl))))
  (refine aops_call_to (sound_c k3 hz (by omega) hr3 hok (by rw [anyL_len]; omega) (any_acc hk hN (by omega)) (by rw [anyL_at (by omega)]) (by rw [anyL_len, anyL_at (by omega)])) ?_)
  ((repeat (first | refine yv ?_ | apply yb | refine yc rfl ?_ | ((first | apply yd | apply ye); simp (disch := first | exact yn | omega | (simp only [go_sem]; done) | (simp only [ln, ym]; omega) | (repeat' first | assumption | exact yo _ | refine yp ?_ _)) only [go_sem]; with_reducible rfl))))
  exact fin_1 rfl
end Go.Lq

namespace Go.Lq
open Go Go.ChangeShapes Go.WideShapes Go.ChangeAt Go.RowKit
open Go.Proofs

set_option maxRecDepth 100000 in
theorem lifted11 (os : Os) (started : os.Started) (X : Type) (enc : TypeId × Value → X) :
    ReturnsInHanded {} Try.checked os 11 .any (Yteimgikhanhgiaa.Rows.speedAnySpec.pre6 enc Try.prog Try.f11 [] false) (Yteimgikhanhgiaa.Rows.speedAnySpec.post enc Try.prog Try.f11 false true false false) := by
  refine returnsInHanded_of_plain_shaped (C := Try.checked) own_knob started (by kernel_rfl) Try.func11
    (ChangeSpec.witness6 (enc := enc) (C := Try.checked) false ⟨#[], #[.agg #[.int .i64 0, .int .i64 0, .slice none 0 0]], []⟩ 12 (by kernel_rfl) (by kernel_rfl) (by kernel_rfl) (by kernel_rfl)) ?_
  intro W base args ds gs before hsh hval hW
  have hWw := hW
  obtain ⟨p, q, hA, _⟩ := hW
  refine (calls_of_law (d := 20) (of_shaped hsh) globs glob_at hA (fun j t v h1 h2 => hval j t v (by simpa using h1) (by simpa using h2)) (by kernel_rfl) fun H avs hx h => ?_).mono fun e W' ⟨he, hB⟩ => ?_
  · exact law11 (by rw [show Try.f11.params = #[26] from Try.params11] at h; exact h)
  · subst he
    exact ⟨_, rfl, law_post (bt := 4) laid_out rfl Try.underlying4 (by kernel_rfl) (by kernel_rfl) hWw (fun ds hd => by
      rw [show Try.f11.params = #[26] from Try.params11] at hd
      match ds, hd with
      | [a], _ => rfl) hB⟩
theorem unf11 : Try.prog.unfollowed 11 = true := by kernel_rfl
theorem rec11 : Try.prog.recurses 11 = true := by kernel_rfl
theorem named11 : Try.prog.varsNamed 11 = Yteimgikhanhgiaa.Rows.speedAnyRow.named := by kernel_rfl
theorem facts11 : joinedFacts Try.prog 11 Try.f11 Yteimgikhanhgiaa.Rows.speedAnySpec Yteimgikhanhgiaa.Rows.speedAnyRow = true := by
  unfold joinedFacts
  rw [may_enter, stops_heard, maps_rowed, laid_out, lifts_final, make_is, unf11, rec11, named11]
  kernel_rfl
theorem holds11 : Yteimgikhanhgiaa.Rows.SpeedAnySaid :=
  OpenClaim.holds_of_wide 11 Try.f11 rfl rfl rfl rfl rfl rfl rfl ⟨rfl, rfl, rfl, rfl, rfl⟩ rfl rfl rfl rfl rfl (by kernel_rfl) Try.func11 facts11
    (of_decide_eq_true (by kernel_rfl)) (by unfold Func.isWrapper; first | (rw [if_pos (by decide +kernel)]; kernel_rfl) | (rw [if_neg (by decide +kernel)]; exact ⟨rfl, rfl⟩))
    (fun os started H enc _ => lifted11 os started H enc)
end Go.Lq
namespace Go.Proofs.Yteimgikhanhgiaa
open Go Go.Lq
theorem speedAny_proved : Rows.SpeedAnySaid := holds11
end Go.Proofs.Yteimgikhanhgiaa
