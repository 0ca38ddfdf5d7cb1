/- SpeedAccepts is proved: for every input that can be read the law returns true, and each argument reads afterwards as it read before; nothing is asked of package variables. -/
import Derived.Test.YteimgikhanhgiaaV93
set_option linter.unusedSimpArgs false
set_option linter.unnecessarySimpa false
set_option linter.unusedVariables false
set_option linter.unusedSectionVars false
set_option maxRecDepth 100000
namespace Go.Lq
open Go
open Go.Proofs

theorem wraps_ev {L : Int × Int} : Wraps fun s => evV L s := fun s n a b h => .agg rfl fun i u u' h1 h2 => by
  match i with
  | 0 => simp at h1 h2; subst h1; subst h2; exact .int _ _
  | 1 => simp at h1 h2; subst h1; subst h2; exact .int _ _
  | 2 => simp at h1 h2; subst h1; subst h2; exact h
  | i + 3 => simp at h1
theorem Tris.mark {H H' : AHeap} {M : List Mark} {v : Value} (h : Tris H M v) (hx : Ext H H') {i : Nat} (hi : i < M.length) : loadNR 3 (addrOf v (i * 3)) H' = some (markV (M.getD i (0, 0, 0)), H') := (h.load hx hi).1
section
variable {H : AHeap} {L : Int × Int} {M : List Mark} {v : Value}
theorem fewMarks_c (hl : Tris H M v) : ACall Go.Proofs.Try.prog 18 [evV L v] H fun w H' => w = .bool (decide (M.length ≤ 14)) ∧ H' = H := by
  refine ACall.drop (.bool _) ?_
  (refine a18 ?_; simp only [n18, List.replicate, yq, yr, yt, yu]; first | refine q1 ?_ | refine q2 ?_ | refine q6 ?_ | refine q7 ?_ | refine qh rfl ?_ | skip)
  have g0 : (H ++ [AObj.cells true 0 (evC L v)])[H.length]? = some (.cells true 0 (evC L v)) := at_new
  have xG : Ext H (H ++ [AObj.cells true 0 (evC L v)]) := (Ext.refl H).app _
  (repeat (first | refine ya (by (with_reducible constructor) <;> first | rfl | decide) ?_ | (apply yd; simp (disch := first | exact yn | omega | (simp only [go_sem]; done) | (simp only [ln, ym]; omega) | (repeat' first | assumption | exact yo _ | refine yp ?_ _)) only [go_sem, box_ev hl.atom]; with_reducible rfl)))
  generalize (H ++ [AObj.cells true 0 (evC L v)] : AHeap) = G at g0 xG
  have hl1 := hl.ext xG
  ((repeat (first | refine ya (by (with_reducible constructor) <;> first | rfl | decide) ?_ | apply yb | refine yc rfl ?_ | ((first | apply yd | apply ye); simp (disch := first | exact yn | omega | (simp only [go_sem]; done) | (simp only [ln, ym]; omega) | (repeat' first | assumption | exact yo _ | refine yp ?_ _)) only [go_sem, hl1.len, hl1.idx, hl1.load, load_at g0, evC]; with_reducible rfl))))
  have e1 : decide ((M.length : Int) ≤ 14) = decide (M.length ≤ 14) := by simp; omega
  exact fin_1 ⟨by rw [← e1]; rfl, xG⟩
theorem copyEv_c (hl : Tris H M v) (hb : M.length ≤ 1000000) : ACall Go.Proofs.Try.prog 20 [evV L v] H fun w H' =>
    w = evV L (.slice (some ⟨H.length, 0, none⟩) M.length M.length) ∧ H' = H ++ [.cells true 3 (flat3 M)] := by
  refine ACall.tidyE (f := fun s => evV L s) (n := M.length) (sz := 3) wraps_ev (closed_flat3 M) ?_
  (refine a20 ?_; simp only [n20, List.replicate, yq, yr, yt, yu]; first | refine q1 ?_ | refine q2 ?_ | refine q6 ?_ | refine q7 ?_ | refine qh rfl ?_ | skip)
  obtain ⟨G, hG⟩ : ∃ G, G = H ++ [AObj.cells true 0 (evC L v)] ++ [AObj.cells true 0 [.int .i64 0, .int .i64 0, .slice none 0 0]] := ⟨_, rfl⟩
  have g0 : G[H.length]? = some (.cells true 0 (evC L v)) := by rw [hG]; simp
  have g1 : G[H.length + 1]? = some (.cells true 0 [.int .i64 0, .int .i64 0, .slice none 0 0]) := by rw [hG]; simp
  have xG : Ext H G := by rw [hG]; exact ((Ext.refl H).app _).app _
  have lG : G.length = H.length + 2 := by rw [hG]; simp
  (repeat (first | refine ya (by (with_reducible constructor) <;> first | rfl | decide) ?_ | (apply yd; simp (disch := first | exact yn | omega | (simp only [go_sem]; done) | (simp only [ln, ym]; omega) | (repeat' first | assumption | exact yo _ | refine yp ?_ _)) only [go_sem, box_ev hl.atom]; with_reducible rfl)))
  (simp only [List.length_append, List.length_cons, List.length_nil, Nat.zero_add, Nat.add_assoc, Nat.reduceAdd])
  rw [← hG]
  clear hG
  obtain ⟨s, H2, ha, hx2, id, rfl, hid, hc2⟩ := append_copy (bytes := 24) (hl.ext xG) (isAtom_flat3 M) (roomOk_of (by omega) (by omega))
  have h1 := hx2.cell g1
  have hms : mkSliceL 3 0 (some []) G = some (.slice (some ⟨G.length, 0, none⟩) 0 0, G ++ [.cells true 3 []]) := rfl
  have k0 := at_app (N := [AObj.cells true 3 []]) g0
  have hf : fillA [.int .i64 0, .int .i64 0, .slice none 0 0] [(0, 2, .agg ⟨[.int .i64 L.1, .int .i64 L.2]⟩), (2, 1, .slice (some ⟨id, 0, none⟩) M.length M.length)] = some (evC L (.slice (some ⟨id, 0, none⟩) M.length M.length)) := rfl
  have hst : storeR 3 (.pointer (some ⟨H.length + 1, 0, none⟩)) (.agg ⟨[.int .i64 L.1, .int .i64 L.2, .slice (some ⟨id, 0, none⟩) M.length M.length]⟩) H2 = some (undef, H2.set (H.length + 1) (.cells true 0 (evC L (.slice (some ⟨id, 0, none⟩) M.length M.length)))) := store_all (n := 3) (us := evC L (.slice (some ⟨id, 0, none⟩) M.length M.length)) h1 rfl rfl rfl
  ((repeat (first | refine ya (by (with_reducible constructor) <;> first | rfl | decide) ?_ | apply yb | refine yc rfl ?_ | ((first | apply yd | apply ye); simp (disch := first | exact yn | omega | (simp only [go_sem]; done) | (simp only [ln, ym]; omega) | (repeat' first | assumption | exact yo _ | refine yp ?_ _)) only [go_sem, load_lim g0, hms, load_at k0, evC, ha, hf, hst]; with_reducible rfl))))
  refine fin_l1 (m := 3) (u := evV L (.slice (some ⟨id, 0, none⟩) M.length M.length)) (load_ev (L := L) (v := .slice (some ⟨id, 0, none⟩) M.length M.length) (get_set_self h1)) ?_
  refine ⟨_, id, rfl, (xG.trans hx2).set (by omega) _, rfl, by omega, ?_⟩
  rw [List.getElem?_set_ne (by omega)]; exact hc2
theorem rMarkErr_c (x : Mark) : ACall Go.Proofs.Try.prog 83 [markV x] H fun v H' => v = .int .i64 (markE x) ∧ H' = H := by
  refine ACall.drop (.int _ _) ?_
  (refine a83 ?_; simp only [n83, List.replicate, yq, yr, yt, yu]; first | refine q1 ?_ | refine q2 ?_ | refine q6 ?_ | refine q7 ?_ | refine qh rfl ?_ | skip)
  have g0 : (H ++ [AObj.cells true 0 (markC x)])[H.length]? = some (.cells true 0 (markC x)) := at_new
  have xG : Ext H (H ++ [AObj.cells true 0 (markC x)]) := (Ext.refl H).app _
  (repeat (first | refine ya (by (with_reducible constructor) <;> first | rfl | decide) ?_ | (apply yd; simp (disch := first | exact yn | omega | (simp only [go_sem]; done) | (simp only [ln, ym]; omega) | (repeat' first | assumption | exact yo _ | refine yp ?_ _)) only [go_sem, box_mark]; with_reducible rfl)))
  generalize (H ++ [AObj.cells true 0 (markC x)] : AHeap) = G at g0 xG
  have bad : ¬ ((0 ≤ x.1 ∧ x.1 ≤ 1000000) ∧ (0 ≤ x.2.1 ∧ x.2.1 ≤ 1000000000000) ∧ (0 ≤ x.2.2 ∧ x.2.2 ≤ 1000000000000)) → markE x = 2 := fun h => by
    unfold markE; rw [if_neg h, firstErr_e (by decide)]
  ((repeat (first | refine ya (by (with_reducible constructor) <;> first | rfl | decide) ?_ | apply yb | refine yc rfl ?_ | ((first | apply yd | apply ye); simp (disch := first | exact yn | omega | (simp only [go_sem]; done) | (simp only [ln, ym]; omega) | (repeat' first | assumption | exact yo _ | refine yp ?_ _)) only [go_sem, load_at g0, markC]; with_reducible rfl))))
  (refine aops_call_to (rIsPosition_c _) ?_)
  by_cases h1 : 0 ≤ x.1 ∧ x.1 ≤ 1000000
  rotate_left 1
  · rw [bad (fun h => h1 h.1)]
    ((repeat (first | refine ya (by (with_reducible constructor) <;> first | rfl | decide) ?_ | apply yb | refine yc rfl ?_ | ((first | apply yd | apply ye); simp (disch := first | exact yn | omega | (simp only [go_sem]; done) | (simp only [ln, ym]; omega) | (repeat' first | assumption | exact yo _ | refine yp ?_ _)) only [go_sem, dec_f h1]; with_reducible rfl))))
    refine cond_t rfl ?_
    ((repeat (first | refine ya (by (with_reducible constructor) <;> first | rfl | decide) ?_ | apply yb | refine yc rfl ?_ | ((first | apply yd | apply ye); simp (disch := first | exact yn | omega | (simp only [go_sem]; done) | (simp only [ln, ym]; omega) | (repeat' first | assumption | exact yo _ | refine yp ?_ _)) only [go_sem]; with_reducible rfl))))
    exact fin_1 ⟨rfl, xG⟩
  ((repeat (first | refine ya (by (with_reducible constructor) <;> first | rfl | decide) ?_ | apply yb | refine yc rfl ?_ | ((first | apply yd | apply ye); simp (disch := first | exact yn | omega | (simp only [go_sem]; done) | (simp only [ln, ym]; omega) | (repeat' first | assumption | exact yo _ | refine yp ?_ _)) only [go_sem, dec_t h1, load_at g0, markC]; with_reducible rfl))))
  (refine aops_call_to (rIsTick_c _) ?_)
  by_cases h2 : 0 ≤ x.2.1 ∧ x.2.1 ≤ 1000000000000
  rotate_left 1
  · rw [bad (fun h => h2 h.2.1)]
    ((repeat (first | refine ya (by (with_reducible constructor) <;> first | rfl | decide) ?_ | apply yb | refine yc rfl ?_ | ((first | apply yd | apply ye); simp (disch := first | exact yn | omega | (simp only [go_sem]; done) | (simp only [ln, ym]; omega) | (repeat' first | assumption | exact yo _ | refine yp ?_ _)) only [go_sem, dec_f h2]; with_reducible rfl))))
    refine cond_t rfl ?_
    ((repeat (first | refine ya (by (with_reducible constructor) <;> first | rfl | decide) ?_ | apply yb | refine yc rfl ?_ | ((first | apply yd | apply ye); simp (disch := first | exact yn | omega | (simp only [go_sem]; done) | (simp only [ln, ym]; omega) | (repeat' first | assumption | exact yo _ | refine yp ?_ _)) only [go_sem]; with_reducible rfl))))
    exact fin_1 ⟨rfl, xG⟩
  ((repeat (first | refine ya (by (with_reducible constructor) <;> first | rfl | decide) ?_ | apply yb | refine yc rfl ?_ | ((first | apply yd | apply ye); simp (disch := first | exact yn | omega | (simp only [go_sem]; done) | (simp only [ln, ym]; omega) | (repeat' first | assumption | exact yo _ | refine yp ?_ _)) only [go_sem, dec_t h2, load_at g0, markC]; with_reducible rfl))))
  (refine aops_call_to (rIsTick_c _) ?_)
  by_cases h3 : 0 ≤ x.2.2 ∧ x.2.2 ≤ 1000000000000
  rotate_left 1
  · rw [bad (fun h => h3 h.2.2)]
    ((repeat (first | refine ya (by (with_reducible constructor) <;> first | rfl | decide) ?_ | apply yb | refine yc rfl ?_ | ((first | apply yd | apply ye); simp (disch := first | exact yn | omega | (simp only [go_sem]; done) | (simp only [ln, ym]; omega) | (repeat' first | assumption | exact yo _ | refine yp ?_ _)) only [go_sem, dec_f h3]; with_reducible rfl))))
    refine cond_t rfl ?_
    ((repeat (first | refine ya (by (with_reducible constructor) <;> first | rfl | decide) ?_ | apply yb | refine yc rfl ?_ | ((first | apply yd | apply ye); simp (disch := first | exact yn | omega | (simp only [go_sem]; done) | (simp only [ln, ym]; omega) | (repeat' first | assumption | exact yo _ | refine yp ?_ _)) only [go_sem]; with_reducible rfl))))
    exact fin_1 ⟨rfl, xG⟩
  have em : markE x = if x.2.1 ≤ x.2.2 then 0 else 9 := by
    unfold markE
    rw [if_pos ⟨h1, h2, h3⟩, firstErr_z]
    by_cases h : x.2.1 ≤ x.2.2
    · rw [if_pos h]; rfl
    · rw [if_neg h]; rfl
  rw [em]
  ((repeat (first | refine ya (by (with_reducible constructor) <;> first | rfl | decide) ?_ | apply yb | refine yc rfl ?_ | ((first | apply yd | apply ye); simp (disch := first | exact yn | omega | (simp only [go_sem]; done) | (simp only [ln, ym]; omega) | (repeat' first | assumption | exact yo _ | refine yp ?_ _)) only [go_sem, dec_t h3]; with_reducible rfl))))
  refine cond_f rfl ?_
  by_cases h4 : x.2.1 ≤ x.2.2
  · ((repeat (first | refine ya (by (with_reducible constructor) <;> first | rfl | decide) ?_ | apply yb | refine yc rfl ?_ | ((first | apply yd | apply ye); simp (disch := first | exact yn | omega | (simp only [go_sem]; done) | (simp only [ln, ym]; omega) | (repeat' first | assumption | exact yo _ | refine yp ?_ _)) only [go_sem, load_at g0, markC, dec_f (show ¬ x.2.2 < x.2.1 by omega)]; with_reducible rfl))))
    refine cond_f rfl ?_
    ((repeat (first | refine ya (by (with_reducible constructor) <;> first | rfl | decide) ?_ | apply yb | refine yc rfl ?_ | ((first | apply yd | apply ye); simp (disch := first | exact yn | omega | (simp only [go_sem]; done) | (simp only [ln, ym]; omega) | (repeat' first | assumption | exact yo _ | refine yp ?_ _)) only [go_sem]; with_reducible rfl))))
    exact fin_1 ⟨by rw [if_pos h4]; rfl, xG⟩
  · ((repeat (first | refine ya (by (with_reducible constructor) <;> first | rfl | decide) ?_ | apply yb | refine yc rfl ?_ | ((first | apply yd | apply ye); simp (disch := first | exact yn | omega | (simp only [go_sem]; done) | (simp only [ln, ym]; omega) | (repeat' first | assumption | exact yo _ | refine yp ?_ _)) only [go_sem, load_at g0, markC, dec_t (show x.2.2 < x.2.1 by omega)]; with_reducible rfl))))
    refine cond_t rfl ?_
    ((repeat (first | refine ya (by (with_reducible constructor) <;> first | rfl | decide) ?_ | apply yb | refine yc rfl ?_ | ((first | apply yd | apply ye); simp (disch := first | exact yn | omega | (simp only [go_sem]; done) | (simp only [ln, ym]; omega) | (repeat' first | assumption | exact yo _ | refine yp ?_ _)) only [go_sem]; with_reducible rfl))))
    exact fin_1 ⟨by rw [if_neg h4]; rfl, xG⟩
theorem limE_cases (L : Int × Int) (n : Nat) : limE L n = if ¬ ((1 ≤ L.1 ∧ L.1 ≤ 100000) ∧ (1 ≤ L.2 ∧ L.2 ≤ 100000)) then 2 else if L.2 < L.1 then 9 else if (12 : Int) < (n : Int) then 8 else 0 := by
  unfold limE
  by_cases h1 : (1 ≤ L.1 ∧ L.1 ≤ 100000) ∧ (1 ≤ L.2 ∧ L.2 ≤ 100000)
  · rw [if_pos h1, if_neg (show ¬ ¬ ((1 ≤ L.1 ∧ L.1 ≤ 100000) ∧ (1 ≤ L.2 ∧ L.2 ≤ 100000)) from fun h => h h1), firstErr_z]
    by_cases h2 : L.1 ≤ L.2
    · rw [if_pos h2, if_neg (show ¬ L.2 < L.1 by omega), firstErr_z]
      by_cases h3 : (n : Int) ≤ 12
      · rw [if_pos h3, if_neg (show ¬ (12 : Int) < (n : Int) by omega)]; rfl
      · rw [if_neg h3, if_pos (show (12 : Int) < (n : Int) by omega)]; rfl
    · rw [if_neg h2, if_pos (show L.2 < L.1 by omega), firstErr_e (by decide)]
  · rw [if_neg h1, if_pos h1, firstErr_e (by decide)]
theorem markO_cases (M : List Mark) (i : Nat) (h0 : ∀ j, j < M.length → 0 ≤ (M.getD j (0, 0, 0)).1 ∨ markE (M.getD j (0, 0, 0)) ≠ 0) (hi : i < M.length) : markO (lastAt M i) (M.getD i (0, 0, 0)) = if markE (M.getD i (0, 0, 0)) ≠ 0 then markE (M.getD i (0, 0, 0)) else if 0 < i ∧ (M.getD i (0, 0, 0)).1 ≤ lastAt M i then 9 else 0 := by
  unfold markO
  by_cases h1 : markE (M.getD i (0, 0, 0)) = 0
  · have hp := (h0 i hi).resolve_right (fun h => h h1)
    rw [h1, firstErr_z, if_neg (show ¬ (0 : Int) ≠ 0 from fun h => h rfl)]
    by_cases h2 : lastAt M i < (M.getD i (0, 0, 0)).1
    · rw [if_pos h2, if_neg (show ¬ (0 < i ∧ (M.getD i (0, 0, 0)).1 ≤ lastAt M i) by omega)]; rfl
    · rw [if_neg h2, if_pos (show 0 < i ∧ (M.getD i (0, 0, 0)).1 ≤ lastAt M i from ?_)]
      · rfl
      · refine ⟨?_, by omega⟩
        rcases Nat.eq_zero_or_pos i with rfl | h
        · have e : lastAt M 0 = -1 := rfl
          omega
        · exact h
  · rw [if_pos h1, firstErr_e h1]
theorem markE_pos (x : Mark) : 0 ≤ x.1 ∨ markE x ≠ 0 := by
  by_cases h : (0 ≤ x.1 ∧ x.1 ≤ 1000000) ∧ (0 ≤ x.2.1 ∧ x.2.1 ≤ 1000000000000) ∧ (0 ≤ x.2.2 ∧ x.2.2 ≤ 1000000000000)
  · exact .inl h.1.1
  · right
    unfold markE; rw [if_neg h, firstErr_e (by decide)]; decide
set_option maxHeartbeats 4000000 in
theorem rCheckEv_c (hl : Tris H M v) (hb : M.length ≤ 1000000000) : ACall Go.Proofs.Try.prog 22 [evV L v] H fun w H' => w = .tuple #[.int .i64 (ckEv L M).1, .int .i64 (ckEv L M).2] ∧ H' = H := by
  refine ACall.drop (closed_two _ _) ?_
  (refine a22 ?_; simp only [n22, List.replicate, yq, yr, yt, yu]; first | refine q1 ?_ | refine q2 ?_ | refine q6 ?_ | refine q7 ?_ | refine qh rfl ?_ | skip)
  have g0 : (H ++ [AObj.cells true 0 (evC L v)])[H.length]? = some (.cells true 0 (evC L v)) := at_new
  have xG : Ext H (H ++ [AObj.cells true 0 (evC L v)]) := (Ext.refl H).app _
  (repeat (first | refine ya (by (with_reducible constructor) <;> first | rfl | decide) ?_ | (apply yd; simp (disch := first | exact yn | omega | (simp only [go_sem]; done) | (simp only [ln, ym]; omega) | (repeat' first | assumption | exact yo _ | refine yp ?_ _)) only [go_sem, box_ev hl.atom]; with_reducible rfl)))
  generalize (H ++ [AObj.cells true 0 (evC L v)] : AHeap) = G at g0 xG
  have hl1 := hl.ext xG
  have hlim := limE_cases L M.length
  have bad : ∀ e : Int, e ≠ 0 → limE L M.length = e → ckEv L M = (0, e) := fun e h0 h => by unfold ckEv; rw [h, if_pos h0]
  ((repeat (first | refine ya (by (with_reducible constructor) <;> first | rfl | decide) ?_ | apply yb | refine yc rfl ?_ | ((first | apply yd | apply ye); simp (disch := first | exact yn | omega | (simp only [go_sem]; done) | (simp only [ln, ym]; omega) | (repeat' first | assumption | exact yo _ | refine yp ?_ _)) only [go_sem, load_at g0, evC]; with_reducible rfl))))
  (refine aops_call_to (bwithin_c _ _ _) ?_)
  by_cases h1 : 1 ≤ L.1 ∧ L.1 ≤ 100000
  rotate_left 1
  · rw [bad 2 (by decide) (by rw [hlim, if_pos (fun h => h1 h.1)])]
    ((repeat (first | refine ya (by (with_reducible constructor) <;> first | rfl | decide) ?_ | apply yb | refine yc rfl ?_ | ((first | apply yd | apply ye); simp (disch := first | exact yn | omega | (simp only [go_sem]; done) | (simp only [ln, ym]; omega) | (repeat' first | assumption | exact yo _ | refine yp ?_ _)) only [go_sem, dec_f h1]; with_reducible rfl))))
    refine cond_t rfl ?_
    ((repeat (first | refine ya (by (with_reducible constructor) <;> first | rfl | decide) ?_ | apply yb | refine yc rfl ?_ | ((first | apply yd | apply ye); simp (disch := first | exact yn | omega | (simp only [go_sem]; done) | (simp only [ln, ym]; omega) | (repeat' first | assumption | exact yo _ | refine yp ?_ _)) only [go_sem]; with_reducible rfl))))
    exact fin_2 ⟨rfl, xG⟩
  ((repeat (first | refine ya (by (with_reducible constructor) <;> first | rfl | decide) ?_ | apply yb | refine yc rfl ?_ | ((first | apply yd | apply ye); simp (disch := first | exact yn | omega | (simp only [go_sem]; done) | (simp only [ln, ym]; omega) | (repeat' first | assumption | exact yo _ | refine yp ?_ _)) only [go_sem, dec_t h1, load_at g0, evC]; with_reducible rfl))))
  (refine aops_call_to (bwithin_c _ _ _) ?_)
  by_cases h2 : 1 ≤ L.2 ∧ L.2 ≤ 100000
  rotate_left 1
  · rw [bad 2 (by decide) (by rw [hlim, if_pos (fun h => h2 h.2)])]
    ((repeat (first | refine ya (by (with_reducible constructor) <;> first | rfl | decide) ?_ | apply yb | refine yc rfl ?_ | ((first | apply yd | apply ye); simp (disch := first | exact yn | omega | (simp only [go_sem]; done) | (simp only [ln, ym]; omega) | (repeat' first | assumption | exact yo _ | refine yp ?_ _)) only [go_sem, dec_f h2]; with_reducible rfl))))
    refine cond_t rfl ?_
    ((repeat (first | refine ya (by (with_reducible constructor) <;> first | rfl | decide) ?_ | apply yb | refine yc rfl ?_ | ((first | apply yd | apply ye); simp (disch := first | exact yn | omega | (simp only [go_sem]; done) | (simp only [ln, ym]; omega) | (repeat' first | assumption | exact yo _ | refine yp ?_ _)) only [go_sem]; with_reducible rfl))))
    exact fin_2 ⟨rfl, xG⟩
  rw [if_neg (fun h => h ⟨h1, h2⟩)] at hlim
  ((repeat (first | refine ya (by (with_reducible constructor) <;> first | rfl | decide) ?_ | apply yb | refine yc rfl ?_ | ((first | apply yd | apply ye); simp (disch := first | exact yn | omega | (simp only [go_sem]; done) | (simp only [ln, ym]; omega) | (repeat' first | assumption | exact yo _ | refine yp ?_ _)) only [go_sem, dec_t h2]; with_reducible rfl))))
  refine cond_f rfl ?_
  ((repeat (first | refine ya (by (with_reducible constructor) <;> first | rfl | decide) ?_ | apply yb | refine yc rfl ?_ | ((first | apply yd | apply ye); simp (disch := first | exact yn | omega | (simp only [go_sem]; done) | (simp only [ln, ym]; omega) | (repeat' first | assumption | exact yo _ | refine yp ?_ _)) only [go_sem, load_at g0, evC]; with_reducible rfl))))
  refine cond_p (p := L.2 < L.1) rfl (fun h3 => ?_) (fun h3 => ?_)
  · rw [bad 9 (by decide) (by rw [hlim, if_pos h3])]
    ((repeat (first | refine ya (by (with_reducible constructor) <;> first | rfl | decide) ?_ | apply yb | refine yc rfl ?_ | ((first | apply yd | apply ye); simp (disch := first | exact yn | omega | (simp only [go_sem]; done) | (simp only [ln, ym]; omega) | (repeat' first | assumption | exact yo _ | refine yp ?_ _)) only [go_sem]; with_reducible rfl))))
    exact fin_2 ⟨rfl, xG⟩
  rw [if_neg h3] at hlim
  ((repeat (first | refine ya (by (with_reducible constructor) <;> first | rfl | decide) ?_ | apply yb | refine yc rfl ?_ | ((first | apply yd | apply ye); simp (disch := first | exact yn | omega | (simp only [go_sem]; done) | (simp only [ln, ym]; omega) | (repeat' first | assumption | exact yo _ | refine yp ?_ _)) only [go_sem, hl1.len, hl1.idx, hl1.load, load_at g0, evC]; with_reducible rfl))))
  refine cond_p (p := (12 : Int) < (M.length : Int)) rfl (fun h4 => ?_) (fun h4 => ?_)
  · rw [bad 8 (by decide) (by rw [hlim, if_pos h4])]
    ((repeat (first | refine ya (by (with_reducible constructor) <;> first | rfl | decide) ?_ | apply yb | refine yc rfl ?_ | ((first | apply yd | apply ye); simp (disch := first | exact yn | omega | (simp only [go_sem]; done) | (simp only [ln, ym]; omega) | (repeat' first | assumption | exact yo _ | refine yp ?_ _)) only [go_sem]; with_reducible rfl))))
    exact fin_2 ⟨rfl, xG⟩
  rw [if_neg h4] at hlim
  have ec : ckEv L M = ckMarks (-1) 0 M := by unfold ckEv; rw [hlim, if_neg (by decide)]
  rw [ec]
  ((repeat (first | refine ya (by (with_reducible constructor) <;> first | rfl | decide) ?_ | apply yb | refine yc rfl ?_ | ((first | apply yd | apply ye); simp (disch := first | exact yn | omega | (simp only [go_sem]; done) | (simp only [ln, ym]; omega) | (repeat' first | assumption | exact yo _ | refine yp ?_ _)) only [go_sem]; with_reducible rfl))))
  refine awp_loop_n [false, true, false, false, true, false, false, false, false, false, false, false, false, false, false, false, false, false, false, false, false, false, false, false, false, false, false, false, false, false, false, false, false, false, false, false, false, false, false, false, false, false, false, false, false, false, false, false, false, false, false, false, false, false, false, false, false, false, false, false, false, false, false, false, false] M.length (fun i e H' => e = [junk, .pointer (some ⟨H.length, 0, none⟩), junk, junk, .int .i64 i, junk, junk, junk, junk, junk, junk, junk, junk, junk, junk, junk, junk, junk, junk, junk, junk, junk, junk, junk, junk, junk, junk, junk, junk, junk, junk, junk, junk, junk, junk, junk, junk, junk, junk, junk, junk, junk, junk, junk, junk, junk, junk, junk, junk, junk, junk, junk, junk, junk, junk, junk, junk, junk, junk, junk, junk, junk, junk, junk, junk] ∧ Ext G H' ∧ ckMarks (-1) 0 M = ckMarks (lastAt M i) i (M.drop i)) ?_ ?_
  · exact ⟨by simp [forget], Ext.refl _, rfl⟩
  rintro i e H' hi ⟨rfl, x3, hj⟩
  have hll := hl1.ext x3
  have k0 := x3.cell g0
  ((repeat (first | refine ya (by (with_reducible constructor) <;> first | rfl | decide) ?_ | apply yb | refine yc rfl ?_ | ((first | apply yd | apply ye); simp (disch := first | exact yn | omega | (simp only [go_sem]; done) | (simp only [ln, ym]; omega) | (repeat' first | assumption | exact yo _ | refine yp ?_ _)) only [go_sem, hll.len, hll.idx, hll.load, load_at k0, evC]; with_reducible rfl))))
  refine cond_p rfl (fun hlt => ?_) (fun hge => ?_)
  rotate_left 1
  · obtain rfl : i = M.length := by omega
    rw [ckMarks_end (i := M.length)] at hj
    ((repeat (first | refine ya (by (with_reducible constructor) <;> first | rfl | decide) ?_ | apply yb | refine yc rfl ?_ | ((first | apply yd | apply ye); simp (disch := first | exact yn | omega | (simp only [go_sem]; done) | (simp only [ln, ym]; omega) | (repeat' first | assumption | exact yo _ | refine yp ?_ _)) only [go_sem]; with_reducible rfl))))
    exact fin_2 ⟨by rw [hj]; rfl, xG.trans x3⟩
  have hi' : i < M.length := by omega
  rw [ckMarks_at hi', markO_cases M i (fun j _ => markE_pos _) hi'] at hj
  have hmk := hll.mark (Ext.refl H') hi'
  have hld := (hll.load (Ext.refl H') hi').2.2.2.2.2.2.2.1
  have hfd := (hll.load (Ext.refl H') hi').2.2.1
  have hix := hll.idx (H' := H') (i := (i : Int)) (k := .i64) (by omega) (by omega)
  rw [Int.toNat_natCast] at hix
  obtain ⟨x, hx⟩ : ∃ x, M.getD i (0, 0, 0) = x := ⟨_, rfl⟩
  rw [hx] at hj hmk hld
  ((repeat (first | refine ya (by (with_reducible constructor) <;> first | rfl | decide) ?_ | apply yb | refine yc rfl ?_ | ((first | apply yd | apply ye); simp (disch := first | exact yn | omega | (simp only [go_sem]; done) | (simp only [ln, ym]; omega) | (repeat' first | assumption | exact yo _ | refine yp ?_ _)) only [go_sem, load_at k0, evC, hix, hmk]; with_reducible rfl))))
  (refine aops_call_to (rMarkErr_c x) ?_)
  ((repeat (first | refine ya (by (with_reducible constructor) <;> first | rfl | decide) ?_ | apply yb | refine yc rfl ?_ | ((first | apply yd | apply ye); simp (disch := first | exact yn | omega | (simp only [go_sem]; done) | (simp only [ln, ym]; omega) | (repeat' first | assumption | exact yo _ | refine yp ?_ _)) only [go_sem]; with_reducible rfl))))
  refine cond_p rfl (fun hne => ?_) (fun heq => ?_)
  · rw [if_pos hne, if_pos hne] at hj
    ((repeat (first | refine ya (by (with_reducible constructor) <;> first | rfl | decide) ?_ | apply yb | refine yc rfl ?_ | ((first | apply yd | apply ye); simp (disch := first | exact yn | omega | (simp only [go_sem]; done) | (simp only [ln, ym]; omega) | (repeat' first | assumption | exact yo _ | refine yp ?_ _)) only [go_sem]; with_reducible rfl))))
    exact fin_2 ⟨by rw [hj]; rfl, xG.trans x3⟩
  rw [if_neg heq] at hj
  rcases Nat.eq_zero_or_pos i with hi0 | hi0
  · rw [if_neg (show ¬ (0 < i ∧ x.1 ≤ lastAt M i) by omega), if_neg (show ¬ (0 : Int) ≠ 0 from fun h => h rfl)] at hj
    ((repeat (first | refine ya (by (with_reducible constructor) <;> first | rfl | decide) ?_ | apply yb | refine yc rfl ?_ | ((first | apply yd | apply ye); simp (disch := first | exact yn | omega | (simp only [go_sem]; done) | (simp only [ln, ym]; omega) | (repeat' first | assumption | exact yo _ | refine yp ?_ _)) only [go_sem, dec_f (show ¬ (0 : Int) < (i : Int) by omega)]; with_reducible rfl))))
    refine cond_f rfl ?_
    ((repeat (first | refine ya (by (with_reducible constructor) <;> first | rfl | decide) ?_ | apply yb | refine yc rfl ?_ | ((first | apply yd | apply ye); simp (disch := first | exact yn | omega | (simp only [go_sem]; done) | (simp only [ln, ym]; omega) | (repeat' first | assumption | exact yo _ | refine yp ?_ _)) only [go_sem]; with_reducible rfl))))
    exact ⟨by omega, by simp [forget], x3, hj⟩
  · obtain ⟨p, rfl⟩ : ∃ p, i = p + 1 := ⟨i - 1, by omega⟩
    have ep : (((p + 1 : Nat) : Int)) - 1 = (p : Int) := by omega
    have hld2 := (hll.load (Ext.refl H') (i := p) (by omega)).2.2.2.2.2.2.2.1
    have hfd2 := (hll.load (Ext.refl H') (i := p) (by omega)).2.2.1
    have hix2 := hll.idx (H' := H') (i := (p : Int)) (k := .i64) (by omega) (by omega)
    rw [Int.toNat_natCast] at hix2
    have els : lastAt M (p + 1) = (M.getD p (0, 0, 0)).1 := lastAt_succ
    rw [els] at hj
    have e2 : ((p + 1 : Nat) : Int) + 1 = ((p + 1 + 1 : Nat) : Int) := by omega
    by_cases h9 : x.1 ≤ (M.getD p (0, 0, 0)).1
    · rw [if_pos (show 0 < p + 1 ∧ x.1 ≤ (M.getD p (0, 0, 0)).1 from ⟨hi0, h9⟩), if_pos (show (9 : Int) ≠ 0 by decide)] at hj
      ((repeat (first | refine ya (by (with_reducible constructor) <;> first | rfl | decide) ?_ | apply yb | refine yc rfl ?_ | ((first | apply yd | apply ye); simp (disch := first | exact yn | omega | (simp only [go_sem]; done) | (simp only [ln, ym]; omega) | (repeat' first | assumption | exact yo _ | refine yp ?_ _)) only [go_sem, dec_t (show (0 : Int) < ((p + 1 : Nat) : Int) by omega), load_at k0, evC, hix, hfd, hld, ep, hix2, hfd2, hld2, dec_t h9]; with_reducible rfl))))
      refine cond_t rfl ?_
      ((repeat (first | refine ya (by (with_reducible constructor) <;> first | rfl | decide) ?_ | apply yb | refine yc rfl ?_ | ((first | apply yd | apply ye); simp (disch := first | exact yn | omega | (simp only [go_sem]; done) | (simp only [ln, ym]; omega) | (repeat' first | assumption | exact yo _ | refine yp ?_ _)) only [go_sem]; with_reducible rfl))))
      exact fin_2 ⟨by rw [hj]; rfl, xG.trans x3⟩
    · rw [if_neg (show ¬ (0 < p + 1 ∧ x.1 ≤ (M.getD p (0, 0, 0)).1) from fun h => h9 h.2), if_neg (show ¬ (0 : Int) ≠ 0 from fun h => h rfl)] at hj
      ((repeat (first | refine ya (by (with_reducible constructor) <;> first | rfl | decide) ?_ | apply yb | refine yc rfl ?_ | ((first | apply yd | apply ye); simp (disch := first | exact yn | omega | (simp only [go_sem]; done) | (simp only [ln, ym]; omega) | (repeat' first | assumption | exact yo _ | refine yp ?_ _)) only [go_sem, dec_t (show (0 : Int) < ((p + 1 : Nat) : Int) by omega), load_at k0, evC, hix, hfd, hld, ep, hix2, hfd2, hld2, dec_f h9]; with_reducible rfl))))
      refine cond_f rfl ?_
      ((repeat (first | refine ya (by (with_reducible constructor) <;> first | rfl | decide) ?_ | apply yb | refine yc rfl ?_ | ((first | apply yd | apply ye); simp (disch := first | exact yn | omega | (simp only [go_sem]; done) | (simp only [ln, ym]; omega) | (repeat' first | assumption | exact yo _ | refine yp ?_ _)) only [go_sem, e2]; with_reducible rfl))))
      exact ⟨by omega, by simp [forget], x3, hj⟩
theorem rEvErr_c (hl : Tris H M v) (hb : M.length ≤ 1000000000) : ACall Go.Proofs.Try.prog 38 [evV L v] H fun w H' => w = .int .i64 (evErrL L M) ∧ H' = H := by
  refine ACall.drop (.int _ _) ?_
  (refine a38 ?_; simp only [n38, List.replicate, yq, yr, yt, yu]; first | refine q1 ?_ | refine q2 ?_ | refine q6 ?_ | refine q7 ?_ | refine qh rfl ?_ | skip)
  have g0 : (H ++ [AObj.cells true 0 (evC L v)])[H.length]? = some (.cells true 0 (evC L v)) := at_new
  have xG : Ext H (H ++ [AObj.cells true 0 (evC L v)]) := (Ext.refl H).app _
  (repeat (first | refine ya (by (with_reducible constructor) <;> first | rfl | decide) ?_ | (apply yd; simp (disch := first | exact yn | omega | (simp only [go_sem]; done) | (simp only [ln, ym]; omega) | (repeat' first | assumption | exact yo _ | refine yp ?_ _)) only [go_sem, box_ev hl.atom]; with_reducible rfl)))
  generalize (H ++ [AObj.cells true 0 (evC L v)] : AHeap) = G at g0 xG
  ((repeat (first | refine ya (by (with_reducible constructor) <;> first | rfl | decide) ?_ | apply yb | refine yc rfl ?_ | ((first | apply yd | apply ye); simp (disch := first | exact yn | omega | (simp only [go_sem]; done) | (simp only [ln, ym]; omega) | (repeat' first | assumption | exact yo _ | refine yp ?_ _)) only [go_sem, load_ev g0]; with_reducible rfl))))
  (refine aops_call_to (rCheckEv_c (hl.ext xG) hb) ?_)
  ((repeat (first | refine ya (by (with_reducible constructor) <;> first | rfl | decide) ?_ | apply yb | refine yc rfl ?_ | ((first | apply yd | apply ye); simp (disch := first | exact yn | omega | (simp only [go_sem]; done) | (simp only [ln, ym]; omega) | (repeat' first | assumption | exact yo _ | refine yp ?_ _)) only [go_sem]; with_reducible rfl))))
  exact fin_1 ⟨rfl, xG⟩
end
end Go.Lq





namespace Go.Lq
open Go
open Go.Proofs

theorem fin_2l {c : RCode} {n a b : Nat} {R : Value → AHeap → Prop} {e : Env} {H : AHeap} {u w : Value} (h1 : loadR (e.getD a undef) H = some (u, H)) (h2 : loadR (e.getD b undef) H = some (w, H)) (h : R (.tuple #[u, w]) H) :
    Fin ⟨c, n, [.load a, .load b]⟩ R .ret e H := by
  refine ⟨.inr rfl, _, ?_, h⟩
  unfold loadR at h1 h2
  split at h1
  · rename_i id off hp
    simp only [Option.map_eq_some_iff, Prod.mk.injEq, and_true] at h1
    obtain ⟨us, h3, rfl⟩ := h1
    split at h2
    · rename_i id' off' hp'
      simp only [Option.map_eq_some_iff, Prod.mk.injEq, and_true] at h2
      obtain ⟨us', h4, rfl⟩ := h2
      simp only [resultA, List.mapM_cons, resA, hp, h3, hp', h4, Option.map_some, List.mapM_nil]
      rfl
    · cases h2
  · cases h1

section
variable {H : AHeap} {kind deg num den step : Int} {l : List (Int × Int)} {v : Value}
end
end Go.Lq


namespace Go.Lq
open Go
open Go.Proofs

section
variable {H : AHeap} {kind deg num den step : Int} {l : List (Int × Int)} {v : Value}
theorem rFirst_c (hl : Pairs H l v) (h0 : 0 < l.length) : ACall Go.Proofs.Try.prog 34 [.agg ⟨[v]⟩] H fun w H' => w = .agg ⟨[.int .i64 (l.getD 0 (0, 0)).1, .int .i64 (l.getD 0 (0, 0)).2]⟩ ∧ H' = H := by
  refine ACall.drop (closed_frac ((l.getD 0 (0, 0)).1, (l.getD 0 (0, 0)).2)) ?_
  (refine a34 ?_; simp only [n34, List.replicate, yq, yr, yt, yu]; first | refine q1 ?_ | refine q2 ?_ | refine q6 ?_ | refine q7 ?_ | refine qh rfl ?_ | skip)
  obtain ⟨G, hG⟩ : ∃ G, G = H ++ [AObj.cells true 0 [v]] ++ [AObj.cells true 0 [.int .i64 0, .int .i64 0]] := ⟨_, rfl⟩
  have g0 : G[H.length]? = some (.cells true 0 [v]) := by rw [hG]; simp
  have g2 : G[H.length + 1]? = some (.cells true 0 [.int .i64 0, .int .i64 0]) := by rw [hG]; simp
  have xG : Ext H G := by rw [hG]; exact ((Ext.refl H).app _).app _
  (repeat (first | refine ya (by (with_reducible constructor) <;> first | rfl | decide) ?_ | (apply yd; simp (disch := first | exact yn | omega | (simp only [go_sem]; done) | (simp only [ln, ym]; omega) | (repeat' first | assumption | exact yo _ | refine yp ?_ _)) only [go_sem, hl.box1]; with_reducible rfl)))
  (simp only [List.length_append, List.length_cons, List.length_nil, Nat.zero_add, Nat.add_assoc, Nat.reduceAdd])
  rw [← hG]
  clear hG
  have hl1 := hl.ext xG
  have e0 : (0 : Int) = ((0 : Nat) : Int) := rfl
  ((repeat (first | refine ya (by (with_reducible constructor) <;> first | rfl | decide) ?_ | apply yb | refine yc rfl ?_ | ((first | apply yd | apply ye); simp (disch := first | exact yn | omega | (simp only [go_sem]; done) | (simp only [ln, ym]; omega) | (repeat' first | assumption | exact yo _ | refine yp ?_ _)) only [go_sem, hl1.len, hl1.idx, hl1.load, load_at g0, store_b2 g2]; with_reducible rfl))))
  refine fin_l1 (u := .agg ⟨[.int .i64 (l.getD 0 (0, 0)).1, .int .i64 (l.getD 0 (0, 0)).2]⟩) (loadN_at (k := 0) (get_set_self g2) (by simp)) ⟨rfl, xG.set (by omega) _⟩
theorem rLast_c (hl : Pairs H l v) (h0 : 0 < l.length) (hb : l.length ≤ 1000000) : ACall Go.Proofs.Try.prog 35 [.agg ⟨[v]⟩] H fun w H' => w = .agg ⟨[.int .i64 (l.getD (l.length - 1) (0, 0)).1, .int .i64 (l.getD (l.length - 1) (0, 0)).2]⟩ ∧ H' = H := by
  refine ACall.drop (closed_frac ((l.getD (l.length - 1) (0, 0)).1, (l.getD (l.length - 1) (0, 0)).2)) ?_
  (refine a35 ?_; simp only [n35, List.replicate, yq, yr, yt, yu]; first | refine q1 ?_ | refine q2 ?_ | refine q6 ?_ | refine q7 ?_ | refine qh rfl ?_ | skip)
  obtain ⟨G, hG⟩ : ∃ G, G = H ++ [AObj.cells true 0 [v]] ++ [AObj.cells true 0 [.int .i64 0, .int .i64 0]] := ⟨_, rfl⟩
  have g0 : G[H.length]? = some (.cells true 0 [v]) := by rw [hG]; simp
  have g2 : G[H.length + 1]? = some (.cells true 0 [.int .i64 0, .int .i64 0]) := by rw [hG]; simp
  have xG : Ext H G := by rw [hG]; exact ((Ext.refl H).app _).app _
  (repeat (first | refine ya (by (with_reducible constructor) <;> first | rfl | decide) ?_ | (apply yd; simp (disch := first | exact yn | omega | (simp only [go_sem]; done) | (simp only [ln, ym]; omega) | (repeat' first | assumption | exact yo _ | refine yp ?_ _)) only [go_sem, hl.box1]; with_reducible rfl)))
  (simp only [List.length_append, List.length_cons, List.length_nil, Nat.zero_add, Nat.add_assoc, Nat.reduceAdd])
  rw [← hG]
  clear hG
  have hl1 := hl.ext xG
  have el : (l.length : Int) - 1 = ((l.length - 1 : Nat) : Int) := by omega
  ((repeat (first | refine ya (by (with_reducible constructor) <;> first | rfl | decide) ?_ | apply yb | refine yc rfl ?_ | ((first | apply yd | apply ye); simp (disch := first | exact yn | omega | (simp only [go_sem]; done) | (simp only [ln, ym]; omega) | (repeat' first | assumption | exact yo _ | refine yp ?_ _)) only [go_sem, hl1.len, hl1.idx, hl1.load, load_at g0, el, store_b2 g2]; with_reducible rfl))))
  refine fin_l1 (u := .agg ⟨[.int .i64 (l.getD (l.length - 1) (0, 0)).1, .int .i64 (l.getD (l.length - 1) (0, 0)).2]⟩) (loadN_at (k := 0) (get_set_self g2) (by simp)) ⟨rfl, xG.set (by omega) _⟩

end
end Go.Lq

namespace Go.Lq
open Go
open Go.Proofs

def accRate (L : Int × Int) (l : List (Int × Int)) (i : Nat) : Nat → Option Nat
  | 0 => none
  | n + 1 => if keepsB L (pieceOf l i) = true then accRate L l (i + 1) n else some i
theorem accRate_succ {L : Int × Int} {l : List (Int × Int)} {i n : Nat} : accRate L l i (n + 1) = if keepsB L (pieceOf l i) = true then accRate L l (i + 1) n else some i := rfl
def accMark (M : List Mark) (l : List (Int × Int)) (i : Nat) : Nat → Int × Int
  | 0 => (0, 0)
  | n + 1 => if (l.getD 0 (0, 0)).1 ≤ (M.getD i (0, 0, 0)).1 ∧ (M.getD i (0, 0, 0)).1 ≤ (l.getD (l.length - 1) (0, 0)).1 then
      (if meetsB (pieceP l (M.getD i (0, 0, 0)).1) (M.getD i (0, 0, 0)) = true then accMark M l (i + 1) n else ((i : Int), 13)) else ((i : Int), 14)
theorem accMark_succ {M : List Mark} {l : List (Int × Int)} {i n : Nat} : accMark M l i (n + 1) = if (l.getD 0 (0, 0)).1 ≤ (M.getD i (0, 0, 0)).1 ∧ (M.getD i (0, 0, 0)).1 ≤ (l.getD (l.length - 1) (0, 0)).1 then
      (if meetsB (pieceP l (M.getD i (0, 0, 0)).1) (M.getD i (0, 0, 0)) = true then accMark M l (i + 1) n else ((i : Int), 13)) else ((i : Int), 14) := rfl
def accGo (L : Int × Int) (M : List Mark) (l : List (Int × Int)) : Int × Int := match accRate L l 0 (l.length - 1) with | some i => ((i : Int), 23) | none => accMark M l 0 M.length
def accE (L : Int × Int) (M : List Mark) (l : List (Int × Int)) : Int := firstErr [evErrL L M, mapErrL l]
def accL (L : Int × Int) (M : List Mark) (l : List (Int × Int)) : Int × Int := if accE L M l ≠ 0 then (0, accE L M l) else accGo L M l
theorem accE_ok {L : Int × Int} {M : List Mark} {l : List (Int × Int)} (h : accE L M l = 0) : evErrL L M = 0 ∧ mapErrL l = 0 := by
  unfold accE at h
  by_cases h1 : evErrL L M = 0
  · refine ⟨h1, ?_⟩
    by_cases h2 : mapErrL l = 0
    · exact h2
    · rw [h1, firstErr_z, firstErr_e h2] at h; exact absurd h h2
  · rw [firstErr_e h1] at h; exact absurd h h1
theorem MapOk.pieceAt {l : List (Int × Int)} (h : MapOk l) {i : Nat} (hi : i + 1 < l.length) : (0 ≤ (pieceOf l i).1.1 ∧ (pieceOf l i).1.1 ≤ 1000000) ∧ (0 ≤ (pieceOf l i).2.1 ∧ (pieceOf l i).2.1 ≤ 1000000) ∧ (0 ≤ (pieceOf l i).1.2 ∧ (pieceOf l i).1.2 ≤ 1000000000000) ∧ (0 ≤ (pieceOf l i).2.2 ∧ (pieceOf l i).2.2 ≤ 1000000000000) ∧
    (pieceOf l i).1.1 < (pieceOf l i).2.1 ∧ (pieceOf l i).1.2 < (pieceOf l i).2.2 :=
  ⟨h.pos i (by omega), h.pos (i + 1) hi, h.time i (by omega), h.time (i + 1) hi, h.posUp i hi, h.timeUp i hi⟩
theorem pieceP_ok {l : List (Int × Int)} (h : MapOk l) {n : Int} (h0 : (l.getD 0 (0, 0)).1 ≤ n) (h1 : n ≤ (l.getD (l.length - 1) (0, 0)).1) : atPos l n 0 (l.length - 2) + 1 < l.length ∧ (pieceP l n).1.1 ≤ n ∧ n ≤ (pieceP l n).2.1 := by
  have h2 := h.lo
  obtain ⟨a1, a2⟩ := atPos_in (l := l) (t := n) (k := l.length - 2) (i := 0) (by omega) h0
  have a3 := atPos_up (l := l) (t := n) (k := l.length - 2) (i := 0) (by omega) h1
  exact ⟨a1, a2, a3⟩
section
variable {H : AHeap} {L : Int × Int} {M : List Mark} {v u : Value} {l : List (Int × Int)}
set_option maxHeartbeats 8000000 in
theorem accepts_c (hl : Tris H M v) (hb : M.length ≤ 1000000000) (hm : Pairs H l u) (hmb : l.length ≤ 1000000000) : ACall Go.Proofs.Try.prog 40 [evV L v, .agg ⟨[u]⟩] H fun w H' =>
    w = .tuple #[.int .i64 (accL L M l).1, .int .i64 (accL L M l).2] ∧ H' = H := by
  refine ACall.drop (closed_two _ _) ?_
  (refine a40 ?_; simp only [n40, List.replicate, yq, yr, yt, yu]; first | refine q1 ?_ | refine q2 ?_ | refine q6 ?_ | refine q7 ?_ | refine qh rfl ?_ | skip)
  obtain ⟨G, hG⟩ : ∃ G, G = H ++ [AObj.cells true 0 (evC L v)] ++ [AObj.cells true 0 [u]] ++ [AObj.cells true 0 [.int .i64 0]] ++ [AObj.cells true 0 [.int .i64 0]] := ⟨_, rfl⟩
  have g0 : G[H.length]? = some (.cells true 0 (evC L v)) := by rw [hG]; simp
  have g1 : G[H.length + 1]? = some (.cells true 0 [u]) := by rw [hG]; simp
  have g2 : G[H.length + 2]? = some (.cells true 0 [.int .i64 0]) := by rw [hG]; simp
  have g3 : G[H.length + 3]? = some (.cells true 0 [.int .i64 0]) := by rw [hG]; simp
  have xG : Ext H G := by rw [hG]; exact ((((Ext.refl H).app _).app _).app _).app _
  have lG : G.length = H.length + 4 := by rw [hG]; simp
  have hf1 : fillA [.slice none 0 0] [(0, 1, .agg ⟨[u]⟩)] = some [u] := fill1v hm.atom
  have hms : ∀ J : AHeap, mkSliceL 1 1 (some [u]) J = some (.slice (some ⟨J.length, 0, none⟩) 1 1, J ++ [.cells true 1 [u]]) := fun J => mkSliceL_some (by simp [hm.atom])
  (repeat (first | refine ya (by (with_reducible constructor) <;> first | rfl | decide) ?_ | (apply yd; simp (disch := first | exact yn | omega | (simp only [go_sem]; done) | (simp only [ln, ym]; omega) | (repeat' first | assumption | exact yo _ | refine yp ?_ _)) only [go_sem, box_ev hl.atom, hm.box1]; with_reducible rfl)))
  (simp only [List.length_append, List.length_cons, List.length_nil, Nat.zero_add, Nat.add_assoc, Nat.reduceAdd])
  rw [← hG]
  clear hG
  ((repeat (first | refine ya (by (with_reducible constructor) <;> first | rfl | decide) ?_ | apply yb | refine yc rfl ?_ | ((first | apply yd | apply ye); simp (disch := first | exact yn | omega | (simp only [go_sem]; done) | (simp only [ln, ym]; omega) | (repeat' first | assumption | exact yo _ | refine yp ?_ _)) only [go_sem, load_ev g0]; with_reducible rfl))))
  refine aops_call ((open_c (hl.ext xG) hb).mono fun w G2 ⟨hw, x2⟩ => ?_)
  subst hw
  have hst : storeR 3 (.pointer (some ⟨G2.length, 0, none⟩)) (evV L v) (G2 ++ [.cells true 0 [.int .i64 0, .int .i64 0, .slice none 0 0]]) = some (undef, G2 ++ [.cells true 0 (evC L v)]) := store_newN (by simp [hl.atom, isAtom_int]) rfl rfl
  have x3 := x2.app [AObj.cells true 0 (evC L v)]
  obtain ⟨G3, hG3⟩ : ∃ G3, G2 ++ [AObj.cells true 0 (evC L v)] = G3 := ⟨_, rfl⟩
  rw [hG3] at x3 hst
  ((repeat (first | refine ya (by (with_reducible constructor) <;> first | rfl | decide) ?_ | apply yb | refine yc rfl ?_ | ((first | apply yd | apply ye); simp (disch := first | exact yn | omega | (simp only [go_sem]; done) | (simp only [ln, ym]; omega) | (repeat' first | assumption | exact yo _ | refine yp ?_ _)) only [go_sem, hst, n1_at (x3.cell g1), hf1, hms]; with_reducible rfl))))
  have hS : Sl (G3 ++ [AObj.cells true 1 [u]]) 1 1 [u] (.slice (some ⟨G3.length, 0, none⟩) 1 1) := Sl.last rfl 1
  have x4 := x3.app [AObj.cells true 1 [u]]
  generalize (G3 ++ [AObj.cells true 1 [u]] : AHeap) = G4 at hS x4
  (refine aops_call_to (spMapErr_c hS (hm.ext (xG.trans x4)) hmb) ?_)
  ((repeat (first | refine ya (by (with_reducible constructor) <;> first | rfl | decide) ?_ | apply yb | refine yc rfl ?_ | ((first | apply yd | apply ye); simp (disch := first | exact yn | omega | (simp only [go_sem]; done) | (simp only [ln, ym]; omega) | (repeat' first | assumption | exact yo _ | refine yp ?_ _)) only [go_sem]; with_reducible rfl))))
  (refine aops_call_to (sfirst_c (l := [_, _]) (Ints.last (l := [_, _]) 2) (by simp)) ?_)
  have e1 : firstErr [evErrL L M, mapErrL l] = accE L M l := rfl
  rw [e1]
  have x5 := x4.app [AObj.cells true 1 [.int .i64 (evErrL L M), .int .i64 (mapErrL l)]]
  generalize (G4 ++ [AObj.cells true 1 [.int .i64 (evErrL L M), .int .i64 (mapErrL l)]] : AHeap) = G5 at x5
  clear hst hG3 hS
  have k0 := x5.cell g0
  have k1 := x5.cell g1
  have k2 := x5.cell g2
  have k3 := x5.cell g3
  have k3' : ∀ c, (G5.set (H.length + 2) c)[H.length + 3]? = some (.cells true 0 [.int .i64 0]) := fun c => by rw [List.getElem?_set_ne (by omega)]; exact k3
  have xH5 := xG.trans x5
  ((repeat (first | refine ya (by (with_reducible constructor) <;> first | rfl | decide) ?_ | apply yb | refine yc rfl ?_ | ((first | apply yd | apply ye); simp (disch := first | exact yn | omega | (simp only [go_sem]; done) | (simp only [ln, ym]; omega) | (repeat' first | assumption | exact yo _ | refine yp ?_ _)) only [go_sem]; with_reducible rfl))))
  refine cond_p (p := accE L M l ≠ 0) rfl (fun hne => ?_) (fun heq => ?_)
  · have ev : accL L M l = (0, accE L M l) := by unfold accL; rw [if_pos hne]
    rw [ev]
    ((repeat (first | refine ya (by (with_reducible constructor) <;> first | rfl | decide) ?_ | apply yb | refine yc rfl ?_ | ((first | apply yd | apply ye); simp (disch := first | exact yn | omega | (simp only [go_sem]; done) | (simp only [ln, ym]; omega) | (repeat' first | assumption | exact yo _ | refine yp ?_ _)) only [go_sem, store_b1 (y := .int .i64 0) k2 rfl rfl, store_b1 (y := .int .i64 (accE L M l)) (k3' _) rfl rfl]; with_reducible rfl))))
    refine fin_2l (u := .int .i64 0) (w := .int .i64 (accE L M l)) (load1 (by rw [List.getElem?_set_ne (by omega)]; exact get_set_self k2)) (load1 (get_set_self (k3' _))) ⟨rfl, (xH5.set (by omega) _).set (by omega) _⟩
  obtain ⟨z1, z2⟩ := accE_ok (Decidable.not_not.1 heq)
  have hk := evErr_ok z1
  have hok := mapErr_ok z2
  have hlen := hk.len
  have h20 := hok.hi
  have h02 := hok.lo
  have hL := And.intro hk.lo hk.hi
  have ev : accL L M l = accGo L M l := by unfold accL; rw [if_neg heq]
  rw [ev]
  have hm5 := hm.ext xH5
  ((repeat (first | refine ya (by (with_reducible constructor) <;> first | rfl | decide) ?_ | apply yb | refine yc rfl ?_ | ((first | apply yd | apply ye); simp (disch := first | exact yn | omega | (simp only [go_sem]; done) | (simp only [ln, ym]; omega) | (repeat' first | assumption | exact yo _ | refine yp ?_ _)) only [go_sem, n1_at k1]; with_reducible rfl))))
  refine aops_call ((pieces_c hm5).mono fun v1 G6 ⟨hw, hG6⟩ => ?_)
  subst hw
  have x6 : Ext G5 G6 := ⟨_, hG6⟩
  have c6 : G6[G5.length]? = some (.cells true 0 [u]) := by rw [hG6]; exact at_new
  clear hG6
  have l5 : H.length + 4 ≤ G5.length := by have := x5.len; omega
  have l6 : G5.length < G6.length := (List.getElem?_eq_some_iff.1 c6).1
  have xH6 := xH5.trans x6
  have k0 := x6.cell k0
  have k1 := x6.cell k1
  have k2 := x6.cell k2
  have k3 := x6.cell k3
  obtain ⟨n, hn⟩ : ∃ n, l.length - 1 = n := ⟨_, rfl⟩
  (repeat (first | refine ya (by (with_reducible constructor) <;> first | rfl | decide) ?_ | apply yb | refine yc rfl ?_))
  refine awp_rangeA mo rfl (fun l h => by cases h) (pieces1_c (idt := G5.length) (l := l) (v := u) (by omega) (by omega))
    (fun rest H' => ∃ i, rest = piecesI l i (n - i) ∧ i ≤ n ∧ accRate L l 0 n = accRate L l i (n - i) ∧ Ext G6 H')
    (fun x H' => x = .ret ∧ ∃ i, accRate L l 0 n = some i ∧ H'[H.length + 2]? = some (.cells true 0 [.int .i64 (i : Int)]) ∧ H'[H.length + 3]? = some (.cells true 0 [.int .i64 23]) ∧ Ext H H') ?_ ?_ ?_ ?_ ?_ ?_ ?_
  · rintro rest H' c' ⟨i, h1, h2, h3, h4⟩
    exact ⟨i, h1, h2, h3, h4.set (Nat.le_refl _) _⟩
  · rintro x H' c' ⟨h1, i, h2, h3, h4, h5⟩
    refine ⟨h1, i, h2, ?_, ?_, h5.set (by omega) _⟩
    · rw [List.getElem?_set_ne (by omega)]; exact h3
    · rw [List.getElem?_set_ne (by omega)]; exact h4
  · rintro rest H' ⟨i, h1, h2, h3, h4⟩
    exact ⟨h4.cell c6, hm.ext (xH6.trans h4)⟩
  · intro N
    exact ⟨0, by rw [hn]; rfl, Nat.zero_le _, rfl, (Ext.refl _).app N⟩
  · rintro a rest H1 ⟨i, h1, hin, h3, h4⟩ hlt
    obtain ⟨k, hkk⟩ : ∃ k, n - i = k := ⟨_, rfl⟩
    rw [hkk] at h1 h3
    match k, h1 with
    | k + 1, h1 =>
    obtain ⟨rfl, rfl⟩ := List.cons.inj h1
    have hi : i < n := by omega
    have hki : k = n - (i + 1) := by omega
    rw [accRate_succ] at h3
    obtain ⟨p1, p2, p3, p4, p5, p6⟩ := hok.pieceAt (i := i) (by omega)
    refine ⟨rfl, fun R Rb _ hR => ?_⟩
    simp only [assignParams, List.zip_cons_cons, List.zip_nil_left, List.foldl_cons, List.foldl_nil]
    have hst : storeR 4 (.pointer (some ⟨H1.length, 0, none⟩)) (pieceV (pieceOf l i)) (H1 ++ [.cells true 0 [.int .i64 0, .int .i64 0, .int .i64 0, .int .i64 0]]) = some (undef, H1 ++ [.cells true 0 (pieceC (pieceOf l i))]) := store_new4 rfl
    ((repeat (first | refine ya (by (with_reducible constructor) <;> first | rfl | decide) ?_ | apply yb | refine yc rfl ?_ | ((first | apply yd | apply ye); simp (disch := first | exact yn | omega | (simp only [go_sem]; done) | (simp only [ln, ym]; omega) | (repeat' first | assumption | exact yo _ | refine yp ?_ _)) only [go_sem, hst]; with_reducible rfl))))
    refine ⟨rfl, at_app hR, ?_⟩
    have hlR := (List.getElem?_eq_some_iff.1 hR).1
    have hx5 : Ext G6 ((H1 ++ [AObj.cells true 0 (pieceC (pieceOf l i))]).set G6.length Rb) := (h4.app _).set (Nat.le_refl _) _
    have hRb : ((H1 ++ [AObj.cells true 0 (pieceC (pieceOf l i))]).set G6.length Rb)[G6.length]? = some Rb := get_set_self (at_app hR)
    have b7 : ((H1 ++ [AObj.cells true 0 (pieceC (pieceOf l i))]).set G6.length Rb)[H1.length]? = some (.cells true 0 (pieceC (pieceOf l i))) := by
      rw [List.getElem?_set_ne (by omega)]; exact at_new
    generalize ((H1 ++ [AObj.cells true 0 (pieceC (pieceOf l i))]).set G6.length Rb : AHeap) = Hb at hx5 hRb b7
    have b0 := hx5.cell k0
    have b2 := hx5.cell k2
    have b3 : ∀ c, (Hb.set (H.length + 2) c)[H.length + 3]? = some (.cells true 0 [.int .i64 0]) := fun c => by rw [List.getElem?_set_ne (by omega)]; exact hx5.cell k3
    ((repeat (first | refine ya (by (with_reducible constructor) <;> first | rfl | decide) ?_ | apply yb | refine yc rfl ?_ | ((first | apply yd | apply ye); simp (disch := first | exact yn | omega | (simp only [go_sem]; done) | (simp only [ln, ym]; omega) | (repeat' first | assumption | exact yo _ | refine yp ?_ _)) only [go_sem, load_piece b7, load_lim b0]; with_reducible rfl))))
    (refine aops_call_to (keeps_c hL p1 p2 p3 p4) ?_)
    cases hkp : keepsB L (pieceOf l i) with
    | false =>
      rw [hkp, if_neg (by simp)] at h3
      ((repeat (first | refine ya (by (with_reducible constructor) <;> first | rfl | decide) ?_ | apply yb | refine yc rfl ?_ | ((first | apply yd | apply ye); simp (disch := first | exact yn | omega | (simp only [go_sem]; done) | (simp only [ln, ym]; omega) | (repeat' first | assumption | exact yo _ | refine yp ?_ _)) only [go_sem]; with_reducible rfl))))
      refine cond_t rfl ?_
      ((repeat (first | refine ya (by (with_reducible constructor) <;> first | rfl | decide) ?_ | apply yb | refine yc rfl ?_ | ((first | apply yd | apply ye); simp (disch := first | exact yn | omega | (simp only [go_sem]; done) | (simp only [ln, ym]; omega) | (repeat' first | assumption | exact yo _ | refine yp ?_ _)) only [go_sem, store_b1 (y := .int .i64 (i : Int)) b2 rfl rfl, store_b1 (y := .int .i64 23) (b3 _) rfl rfl]; with_reducible rfl))))
      refine rounded_r ?_ ⟨rfl, i, h3, ?_, get_set_self (b3 _), ((xH6.trans hx5).set (by omega) _).set (by omega) _⟩
      · rw [List.getElem?_set_ne (by omega), List.getElem?_set_ne (by omega)]; exact hRb
      · rw [List.getElem?_set_ne (by omega)]; exact get_set_self b2
    | true =>
      rw [hkp, if_pos rfl] at h3
      ((repeat (first | refine ya (by (with_reducible constructor) <;> first | rfl | decide) ?_ | apply yb | refine yc rfl ?_ | ((first | apply yd | apply ye); simp (disch := first | exact yn | omega | (simp only [go_sem]; done) | (simp only [ln, ym]; omega) | (repeat' first | assumption | exact yo _ | refine yp ?_ _)) only [go_sem]; with_reducible rfl))))
      refine cond_f rfl ?_
      ((repeat (first | refine ya (by (with_reducible constructor) <;> first | rfl | decide) ?_ | apply yb | refine yc rfl ?_ | ((first | apply yd | apply ye); simp (disch := first | exact yn | omega | (simp only [go_sem]; done) | (simp only [ln, ym]; omega) | (repeat' first | assumption | exact yo _ | refine yp ?_ _)) only [go_sem]; with_reducible rfl))))
      exact rounded_n hRb ⟨i + 1, by rw [← hki], by omega, by rw [← hki]; exact h3, hx5⟩
  · rintro H' ⟨i, h1, hin, h3, h4⟩
    obtain ⟨k, hkk⟩ : ∃ k, n - i = k := ⟨_, rfl⟩
    rw [hkk] at h1 h3
    match k, h1 with
    | 0, _ =>
    have h3 : accRate L l 0 n = none := h3
    have eg : accGo L M l = accMark M l 0 M.length := by unfold accGo; rw [hn, h3]
    rw [eg]
    have b0 := h4.cell k0
    have xH7 := xH6.trans h4
    have hl7 := hl.ext xH7
    ((repeat (first | refine ya (by (with_reducible constructor) <;> first | rfl | decide) ?_ | apply yb | refine yc rfl ?_ | ((first | apply yd | apply ye); simp (disch := first | exact yn | omega | (simp only [go_sem]; done) | (simp only [ln, ym]; omega) | (repeat' first | assumption | exact yo _ | refine yp ?_ _)) only [go_sem, hl7.len, hl7.idx, hl7.load, load_at b0, evC]; with_reducible rfl))))
    refine awp_loop_n [false, false, true, true, true, true, false, false, false, false, false, false, false, false, false, false, false, false, false, false, false, false, false, false, false, false, false, false, false, false, false, false, false, false, false, false, false, false, false, true, true, true, false, false, false, false, false, false, false, false, false, false, false, false, false, false, false, false, false, false, false, false] M.length (fun j e J => e = [junk, junk, .pointer (some ⟨H.length, 0, none⟩), .pointer (some ⟨H.length + 1, 0, none⟩), .pointer (some ⟨H.length + 2, 0, none⟩), .pointer (some ⟨H.length + 3, 0, none⟩), junk, junk, junk, junk, junk, junk, junk, junk, junk, junk, junk, junk, junk, junk, junk, junk, junk, junk, junk, junk, junk, junk, junk, junk, junk, junk, junk, junk, junk, junk, junk, junk, junk, v, .int .i64 (M.length : Nat), .int .i64 j, junk, junk, junk, junk, junk, junk, junk, junk, junk, junk, junk, junk, junk, junk, junk, junk, junk, junk, junk, junk] ∧ Ext H' J ∧ accMark M l 0 M.length = accMark M l j (M.length - j)) ?_ ?_
    · exact ⟨by simp [forget], Ext.refl _, rfl⟩
    rintro j e J hj ⟨rfl, x8, hA⟩
    have hl8 := hl7.ext x8
    have x68 := h4.trans x8
    have b1 := x68.cell k1
    have b2 := x68.cell k2
    have b3 : ∀ c, (J.set (H.length + 2) c)[H.length + 3]? = some (.cells true 0 [.int .i64 0]) := fun c => by rw [List.getElem?_set_ne (by omega)]; exact x68.cell k3
    have xHJ := xH6.trans x68
    ((repeat (first | refine ya (by (with_reducible constructor) <;> first | rfl | decide) ?_ | apply yb | refine yc rfl ?_ | ((first | apply yd | apply ye); simp (disch := first | exact yn | omega | (simp only [go_sem]; done) | (simp only [ln, ym]; omega) | (repeat' first | assumption | exact yo _ | refine yp ?_ _)) only [go_sem]; with_reducible rfl))))
    refine cond_p rfl (fun hlt => ?_) (fun hge => ?_)
    rotate_left 1
    · obtain rfl : j = M.length := by omega
      rw [Nat.sub_self] at hA
      have hA : accMark M l 0 M.length = (0, 0) := hA
      rw [hA]
      ((repeat (first | refine ya (by (with_reducible constructor) <;> first | rfl | decide) ?_ | apply yb | refine yc rfl ?_ | ((first | apply yd | apply ye); simp (disch := first | exact yn | omega | (simp only [go_sem]; done) | (simp only [ln, ym]; omega) | (repeat' first | assumption | exact yo _ | refine yp ?_ _)) only [go_sem, store_b1 (y := .int .i64 0) b2 rfl rfl, store_b1 (y := .int .i64 0) (b3 _) rfl rfl]; with_reducible rfl))))
      refine fin_2l (u := .int .i64 0) (w := .int .i64 0) (load1 (by rw [List.getElem?_set_ne (by omega)]; exact get_set_self b2)) (load1 (get_set_self (b3 _))) ⟨rfl, (xHJ.set (by omega) _).set (by omega) _⟩
    have hj' : j < M.length := by omega
    rw [show M.length - j = M.length - (j + 1) + 1 by omega, accMark_succ] at hA
    have x1 := hk.t1 j hj'
    have x2' := hk.t2 j hj'
    (repeat (first | refine ya (by (with_reducible constructor) <;> first | rfl | decide) ?_ | (apply yd; simp (disch := first | exact yn | omega | (simp only [go_sem]; done) | (simp only [ln, ym]; omega) | (repeat' first | assumption | exact yo _ | refine yp ?_ _)) only [go_sem, hl8.len, hl8.idx, hl8.load, store_new3]; with_reducible rfl)))
    obtain ⟨x, hx⟩ : ∃ x, M.getD j (0, 0, 0) = x := ⟨_, rfl⟩
    rw [hx] at hA x1 x2' ⊢
    rw [new_mark x]
    have c11 : (J ++ [AObj.cells true 0 (markC x)])[J.length]? = some (.cells true 0 (markC x)) := at_new
    have x9 : Ext J (J ++ [AObj.cells true 0 (markC x)]) := (Ext.refl J).app _
    generalize (J ++ [AObj.cells true 0 (markC x)] : AHeap) = J2 at c11 x9
    ((repeat (first | refine ya (by (with_reducible constructor) <;> first | rfl | decide) ?_ | apply yb | refine yc rfl ?_ | ((first | apply yd | apply ye); simp (disch := first | exact yn | omega | (simp only [go_sem]; done) | (simp only [ln, ym]; omega) | (repeat' first | assumption | exact yo _ | refine yp ?_ _)) only [go_sem, n1_at (x9.cell b1), load_at c11, markC]; with_reducible rfl))))
    refine aops_call_to (pieceAt_c (hm.ext (xHJ.trans x9)) (by omega) (by omega)) ?_
    by_cases hin : (l.getD 0 (0, 0)).1 ≤ x.1 ∧ x.1 ≤ (l.getD (l.length - 1) (0, 0)).1
    · rw [if_pos hin] at hA
      obtain ⟨hpi, hp1, hp2⟩ := pieceP_ok hok hin.1 hin.2
      rw [hok.posOne hin.1 (k := l.length - 1) (i := 0) (by omega) (fun m hm => by omega) hin.2, if_neg (by omega), Nat.sub_sub]
      obtain ⟨p1, p2, p3, p4, p5, p6⟩ := hok.pieceAt hpi
      have ef : findR (some (atPos l x.1 0 (l.length - 2))) l = (pieceP l x.1, true) := rfl
      have epp : pieceOf l (atPos l x.1 0 (l.length - 2)) = pieceP l x.1 := rfl
      rw [epp] at p1 p2 p3 p4 p5 p6
      have e11 : l.length - (1 + 1) = l.length - 2 := rfl
      rw [e11, ef]
      generalize pieceP l x.1 = p at *
      have hst : storeR 4 (.pointer (some ⟨J2.length, 0, none⟩)) (pieceV p) (J2 ++ [.cells true 0 [.int .i64 0, .int .i64 0, .int .i64 0, .int .i64 0]]) = some (undef, J2 ++ [.cells true 0 (pieceC p)]) := store_new4 rfl
      have c12 : (J2 ++ [AObj.cells true 0 (pieceC p)])[J2.length]? = some (.cells true 0 (pieceC p)) := at_new
      have x10 : Ext J2 (J2 ++ [AObj.cells true 0 (pieceC p)]) := (Ext.refl J2).app _
      ((repeat (first | refine ya (by (with_reducible constructor) <;> first | rfl | decide) ?_ | apply yb | refine yc rfl ?_ | ((first | apply yd | apply ye); simp (disch := first | exact yn | omega | (simp only [go_sem]; done) | (simp only [ln, ym]; omega) | (repeat' first | assumption | exact yo _ | refine yp ?_ _)) only [go_sem, hst]; with_reducible rfl))))
      refine cond_f rfl ?_
      generalize (J2 ++ [AObj.cells true 0 (pieceC p)] : AHeap) = J3 at c12 x10
      ((repeat (first | refine ya (by (with_reducible constructor) <;> first | rfl | decide) ?_ | apply yb | refine yc rfl ?_ | ((first | apply yd | apply ye); simp (disch := first | exact yn | omega | (simp only [go_sem]; done) | (simp only [ln, ym]; omega) | (repeat' first | assumption | exact yo _ | refine yp ?_ _)) only [go_sem, load_piece c12, load_mark (x10.cell c11)]; with_reducible rfl))))
      (refine aops_call_to (meets_c p1 p2 p3 p4 p5 p6 hp1 hp2 x1 x2') ?_)
      have x11 := x9.trans x10
      have b2 := x11.cell b2
      have b3 : ∀ c, (J3.set (H.length + 2) c)[H.length + 3]? = some (.cells true 0 [.int .i64 0]) := fun c => by rw [List.getElem?_set_ne (by omega)]; exact x11.cell (x68.cell k3)
      cases hmt : meetsB p x with
      | true =>
        rw [hmt, if_pos rfl] at hA
        ((repeat (first | refine ya (by (with_reducible constructor) <;> first | rfl | decide) ?_ | apply yb | refine yc rfl ?_ | ((first | apply yd | apply ye); simp (disch := first | exact yn | omega | (simp only [go_sem]; done) | (simp only [ln, ym]; omega) | (repeat' first | assumption | exact yo _ | refine yp ?_ _)) only [go_sem]; with_reducible rfl))))
        refine cond_f rfl ?_
        ((repeat (first | refine ya (by (with_reducible constructor) <;> first | rfl | decide) ?_ | apply yb | refine yc rfl ?_ | ((first | apply yd | apply ye); simp (disch := first | exact yn | omega | (simp only [go_sem]; done) | (simp only [ln, ym]; omega) | (repeat' first | assumption | exact yo _ | refine yp ?_ _)) only [go_sem]; with_reducible rfl))))
        exact ⟨by omega, by simp [forget], x8.trans x11, hA⟩
      | false =>
        rw [hmt, if_neg (by simp)] at hA
        rw [hA]
        ((repeat (first | refine ya (by (with_reducible constructor) <;> first | rfl | decide) ?_ | apply yb | refine yc rfl ?_ | ((first | apply yd | apply ye); simp (disch := first | exact yn | omega | (simp only [go_sem]; done) | (simp only [ln, ym]; omega) | (repeat' first | assumption | exact yo _ | refine yp ?_ _)) only [go_sem]; with_reducible rfl))))
        refine cond_t rfl ?_
        ((repeat (first | refine ya (by (with_reducible constructor) <;> first | rfl | decide) ?_ | apply yb | refine yc rfl ?_ | ((first | apply yd | apply ye); simp (disch := first | exact yn | omega | (simp only [go_sem]; done) | (simp only [ln, ym]; omega) | (repeat' first | assumption | exact yo _ | refine yp ?_ _)) only [go_sem, store_b1 (y := .int .i64 (j : Int)) b2 rfl rfl, store_b1 (y := .int .i64 13) (b3 _) rfl rfl]; with_reducible rfl))))
        refine fin_2l (u := .int .i64 (j : Int)) (w := .int .i64 13) (load1 (by rw [List.getElem?_set_ne (by omega)]; exact get_set_self b2)) (load1 (get_set_self (b3 _))) ⟨rfl, ((xHJ.trans x11).set (by omega) _).set (by omega) _⟩
    · rw [if_neg hin] at hA
      rw [hA, hok.outP hin]
      have hst : storeR 4 (.pointer (some ⟨J2.length, 0, none⟩)) (pieceV zeroP) (J2 ++ [.cells true 0 [.int .i64 0, .int .i64 0, .int .i64 0, .int .i64 0]]) = some (undef, J2 ++ [.cells true 0 (pieceC zeroP)]) := store_new4 rfl
      ((repeat (first | refine ya (by (with_reducible constructor) <;> first | rfl | decide) ?_ | apply yb | refine yc rfl ?_ | ((first | apply yd | apply ye); simp (disch := first | exact yn | omega | (simp only [go_sem]; done) | (simp only [ln, ym]; omega) | (repeat' first | assumption | exact yo _ | refine yp ?_ _)) only [go_sem, findR, hst]; with_reducible rfl))))
      refine cond_t rfl ?_
      have x11 := x9.app [AObj.cells true 0 (pieceC zeroP)]
      have b2 := x11.cell b2
      have b3 : ∀ c, ((J2 ++ [AObj.cells true 0 (pieceC zeroP)]).set (H.length + 2) c)[H.length + 3]? = some (.cells true 0 [.int .i64 0]) := fun c => by rw [List.getElem?_set_ne (by omega)]; exact x11.cell (x68.cell k3)
      ((repeat (first | refine ya (by (with_reducible constructor) <;> first | rfl | decide) ?_ | apply yb | refine yc rfl ?_ | ((first | apply yd | apply ye); simp (disch := first | exact yn | omega | (simp only [go_sem]; done) | (simp only [ln, ym]; omega) | (repeat' first | assumption | exact yo _ | refine yp ?_ _)) only [go_sem, store_b1 (y := .int .i64 (j : Int)) b2 rfl rfl, store_b1 (y := .int .i64 14) (b3 _) rfl rfl]; with_reducible rfl))))
      refine fin_2l (u := .int .i64 (j : Int)) (w := .int .i64 14) (load1 (by rw [List.getElem?_set_ne (by omega)]; exact get_set_self b2)) (load1 (get_set_self (b3 _))) ⟨rfl, ((xHJ.trans x11).set (by omega) _).set (by omega) _⟩
  · rintro x H' hx ⟨rfl, i, h1, h2, h3, h4⟩
    have eg : accGo L M l = ((i : Int), 23) := by unfold accGo; rw [hn, h1]
    rw [eg]
    ((repeat (first | refine ya (by (with_reducible constructor) <;> first | rfl | decide) ?_ | apply yb | refine yc rfl ?_ | ((first | apply yd | apply ye); simp (disch := first | exact yn | omega | (simp only [go_sem]; done) | (simp only [ln, ym]; omega) | (repeat' first | assumption | exact yo _ | refine yp ?_ _)) only [go_sem]; with_reducible rfl))))
    refine fin_2l (u := .int .i64 (i : Int)) (w := .int .i64 23) (load1 h2) (load1 h3) ⟨rfl, h4⟩
end
end Go.Lq

namespace Go.Lq
open Go
open Go.Proofs
section
variable {H : AHeap} {L : Int × Int} {M : List Mark} {v u : Value} {l : List (Int × Int)}
set_option maxHeartbeats 8000000 in
theorem rAccepts_c (hl : Tris H M v) (hk : EvOk L M) (hm : Pairs H l u) (hok : MapOk l) : ACall Go.Proofs.Try.prog 39 [evV L v, .agg ⟨[u]⟩] H fun w H' =>
    w = .tuple #[.int .i64 (accGo L M l).1, .int .i64 (accGo L M l).2] ∧ H' = H := by
  refine ACall.drop (closed_two _ _) ?_
  have hlen := hk.len
  have h20 := hok.hi
  have h02 := hok.lo
  have hL1 := hk.lo
  have hL2 := hk.hi
  (refine a39 ?_; simp only [n39, List.replicate, yq, yr, yt, yu]; first | refine q1 ?_ | refine q2 ?_ | refine q6 ?_ | refine q7 ?_ | refine qh rfl ?_ | skip)
  obtain ⟨G, hG⟩ : ∃ G, G = H ++ [AObj.cells true 0 (evC L v)] ++ [AObj.cells true 0 [u]] := ⟨_, rfl⟩
  have g0 : G[H.length]? = some (.cells true 0 (evC L v)) := by rw [hG]; simp
  have g1 : G[H.length + 1]? = some (.cells true 0 [u]) := by rw [hG]; simp
  have xG : Ext H G := by rw [hG]; exact ((Ext.refl H).app _).app _
  (repeat (first | refine ya (by (with_reducible constructor) <;> first | rfl | decide) ?_ | (apply yd; simp (disch := first | exact yn | omega | (simp only [go_sem]; done) | (simp only [ln, ym]; omega) | (repeat' first | assumption | exact yo _ | refine yp ?_ _)) only [go_sem, box_ev hl.atom, hm.box1]; with_reducible rfl)))
  (simp only [List.length_append, List.length_cons, List.length_nil, Nat.zero_add, Nat.add_assoc, Nat.reduceAdd])
  rw [← hG]
  clear hG
  have hm1 := hm.ext xG
  have hl1 := hl.ext xG
  obtain ⟨n, hn⟩ : ∃ n, l.length - 1 = n := ⟨_, rfl⟩
  ((repeat (first | refine ya (by (with_reducible constructor) <;> first | rfl | decide) ?_ | apply yb | refine yc rfl ?_ | ((first | apply yd | apply ye); simp (disch := first | exact yn | omega | (simp only [go_sem]; done) | (simp only [ln, ym]; omega) | (repeat' first | assumption | exact yo _ | refine yp ?_ _)) only [go_sem]; with_reducible rfl))))
  refine awp_loop_n [false, false, true, true, true, true, true, false, false, false, false, false, false, false, false, false, false, false, false, false, false, false, false, false, false, false, false, false, false, false, false, false, false, false, false, false, false, false, false, false, false, false, false, false, false, false, false, false, false, false, false, false, false, false, false, false, false, false, false, false, false, false, false, false, false, false, false, false, false, false, false, false, false, false, false, false, false, false, false, false, false, false, false, false, false, false, false, false, false, false, false, false, false, false, false, false, false, false, false, false, false, false, false, false, false] n (fun i e J => e = [junk, junk, .pointer (some ⟨H.length, 0, none⟩), .pointer (some ⟨H.length + 1, 0, none⟩), .int .i64 0, .int .i64 0, .int .i64 i, junk, junk, junk, junk, junk, junk, junk, junk, junk, junk, junk, junk, junk, junk, junk, junk, junk, junk, junk, junk, junk, junk, junk, junk, junk, junk, junk, junk, junk, junk, junk, junk, junk, junk, junk, junk, junk, junk, junk, junk, junk, junk, junk, junk, junk, junk, junk, junk, junk, junk, junk, junk, junk, junk, junk, junk, junk, junk, junk, junk, junk, junk, junk, junk, junk, junk, junk, junk, junk, junk, junk, junk, junk, junk, junk, junk, junk, junk, junk, junk, junk, junk, junk, junk, junk, junk, junk, junk, junk, junk, junk, junk, junk, junk, junk, junk, junk, junk] ∧ Ext G J ∧ accRate L l 0 n = accRate L l i (n - i)) ?_ ?_
  · exact ⟨by simp [forget], Ext.refl _, rfl⟩
  rintro i e J hi ⟨rfl, x1, hA⟩
  have b0 := x1.cell g0
  have b1 := x1.cell g1
  have hmJ := hm1.ext x1
  have e1 : (i : Int) + 1 = ((i + 1 : Nat) : Int) := by omega
  ((repeat (first | refine ya (by (with_reducible constructor) <;> first | rfl | decide) ?_ | apply yb | refine yc rfl ?_ | ((first | apply yd | apply ye); simp (disch := first | exact yn | omega | (simp only [go_sem]; done) | (simp only [ln, ym]; omega) | (repeat' first | assumption | exact yo _ | refine yp ?_ _)) only [go_sem, hmJ.len, hmJ.idx, hmJ.load, load_at b1, e1]; with_reducible rfl))))
  refine cond_p rfl (fun hlt => ?_) (fun hge => ?_)
  · have hi' : i < n := by omega
    obtain ⟨p1, p2, p3, p4, p5, p6⟩ := hok.pieceAt (i := i) (by omega)
    rw [show n - i = n - (i + 1) + 1 by omega, accRate_succ] at hA
    have a1 := (hmJ.load (Ext.refl J) (i := i) (by omega)).1
    have a2 := (hmJ.load (Ext.refl J) (i := i + 1) (by omega)).1
    have ix1 := hmJ.idx (H' := J) (i := (i : Int)) (k := .i64) (by omega) (by omega)
    have ix2 := hmJ.idx (H' := J) (i := ((i + 1 : Nat) : Int)) (k := .i64) (by omega) (by omega)
    rw [Int.toNat_natCast] at ix1 ix2
    have ek : keepsB L (pieceOf l i) = decide (L.1 * ((l.getD (i + 1) (0, 0)).1 - (l.getD i (0, 0)).1) ≤ (l.getD (i + 1) (0, 0)).2 - (l.getD i (0, 0)).2 ∧ (l.getD (i + 1) (0, 0)).2 - (l.getD i (0, 0)).2 ≤ L.2 * ((l.getD (i + 1) (0, 0)).1 - (l.getD i (0, 0)).1)) := rfl
    rw [ek] at hA
    have p1 : 0 ≤ (l.getD i (0, 0)).1 ∧ (l.getD i (0, 0)).1 ≤ 1000000 := p1
    have p2 : 0 ≤ (l.getD (i + 1) (0, 0)).1 ∧ (l.getD (i + 1) (0, 0)).1 ≤ 1000000 := p2
    have p3 : 0 ≤ (l.getD i (0, 0)).2 ∧ (l.getD i (0, 0)).2 ≤ 1000000000000 := p3
    have p4 : 0 ≤ (l.getD (i + 1) (0, 0)).2 ∧ (l.getD (i + 1) (0, 0)).2 ≤ 1000000000000 := p4
    clear ek p5 p6
    generalize l.getD i (0, 0) = x at *
    generalize l.getD (i + 1) (0, 0) = y at *
    obtain ⟨P, hP⟩ : ∃ P, y.1 - x.1 = P := ⟨_, rfl⟩
    obtain ⟨T, hT⟩ : ∃ T, y.2 - x.2 = T := ⟨_, rfl⟩
    rw [hP, hT] at hA
    have m1 := mul_abs (x := L.1) (y := P) (a := 100000) (b := 1000000) ⟨by omega, by omega⟩ ⟨by omega, by omega⟩
    have m2 := mul_abs (x := L.2) (y := P) (a := 100000) (b := 1000000) ⟨by omega, by omega⟩ ⟨by omega, by omega⟩
    (repeat (first | refine ya (by (with_reducible constructor) <;> first | rfl | decide) ?_ | apply yb | refine yc rfl ?_))
    (repeat (first | refine ya (by (with_reducible constructor) <;> first | rfl | decide) ?_ | (apply ye; simp (disch := first | exact yn | omega | (simp only [go_sem]; done) | (simp only [ln, ym]; omega) | (repeat' first | assumption | exact yo _ | refine yp ?_ _)) only [go_sem, load_at b1, ix1, e1, ix2, a1, a2]; with_reducible rfl)))
    (simp only [List.length_append, List.length_cons, List.length_nil, Nat.zero_add, Nat.add_assoc, Nat.reduceAdd])
    obtain ⟨J2, hJ2⟩ : ∃ J2, J2 = J ++ ([AObj.cells true 0 [.int .i64 x.1, .int .i64 x.2]] ++ [AObj.cells true 0 [.int .i64 y.1, .int .i64 y.2]]) := ⟨_, rfl⟩
    have c6 : J2[J.length]? = some (.cells true 0 [.int .i64 x.1, .int .i64 x.2]) := by rw [hJ2]; simp
    have c7 : J2[J.length + 1]? = some (.cells true 0 [.int .i64 y.1, .int .i64 y.2]) := by rw [hJ2]; simp
    have x2 : Ext J J2 := ⟨_, hJ2⟩
    try simp only [List.append_assoc]
    rw [← hJ2]
    clear hJ2
    have d0 := x2.cell b0
    by_cases h1 : T < L.1 * P
    · rw [if_neg (by rw [decide_eq_true_eq]; omega)] at hA
      have eg : accGo L M l = ((i : Int), 23) := by unfold accGo; rw [hn, hA]
      rw [eg]
      ((repeat (first | refine ya (by (with_reducible constructor) <;> first | rfl | decide) ?_ | apply yb | refine yc rfl ?_ | ((first | apply yd | apply ye); simp (disch := first | exact yn | omega | (simp only [go_sem]; done) | (simp only [ln, ym]; omega) | (repeat' first | assumption | exact yo _ | refine yp ?_ _)) only [go_sem, load_at c6, load_at c7, hP, hT, load_at d0, evC, dec_t h1]; with_reducible rfl))))
      refine cond_t rfl ?_
      ((repeat (first | refine ya (by (with_reducible constructor) <;> first | rfl | decide) ?_ | apply yb | refine yc rfl ?_ | ((first | apply yd | apply ye); simp (disch := first | exact yn | omega | (simp only [go_sem]; done) | (simp only [ln, ym]; omega) | (repeat' first | assumption | exact yo _ | refine yp ?_ _)) only [go_sem]; with_reducible rfl))))
      exact fin_2 ⟨rfl, (xG.trans x1).trans x2⟩
    · by_cases h2 : T > L.2 * P
      · rw [if_neg (by rw [decide_eq_true_eq]; omega)] at hA
        have eg : accGo L M l = ((i : Int), 23) := by unfold accGo; rw [hn, hA]
        rw [eg]
        ((repeat (first | refine ya (by (with_reducible constructor) <;> first | rfl | decide) ?_ | apply yb | refine yc rfl ?_ | ((first | apply yd | apply ye); simp (disch := first | exact yn | omega | (simp only [go_sem]; done) | (simp only [ln, ym]; omega) | (repeat' first | assumption | exact yo _ | refine yp ?_ _)) only [go_sem, load_at c6, load_at c7, hP, hT, load_at d0, evC, dec_f h1, dec_t h2]; with_reducible rfl))))
        refine cond_t rfl ?_
        ((repeat (first | refine ya (by (with_reducible constructor) <;> first | rfl | decide) ?_ | apply yb | refine yc rfl ?_ | ((first | apply yd | apply ye); simp (disch := first | exact yn | omega | (simp only [go_sem]; done) | (simp only [ln, ym]; omega) | (repeat' first | assumption | exact yo _ | refine yp ?_ _)) only [go_sem]; with_reducible rfl))))
        exact fin_2 ⟨rfl, (xG.trans x1).trans x2⟩
      · rw [if_pos (by rw [decide_eq_true_eq]; omega)] at hA
        ((repeat (first | refine ya (by (with_reducible constructor) <;> first | rfl | decide) ?_ | apply yb | refine yc rfl ?_ | ((first | apply yd | apply ye); simp (disch := first | exact yn | omega | (simp only [go_sem]; done) | (simp only [ln, ym]; omega) | (repeat' first | assumption | exact yo _ | refine yp ?_ _)) only [go_sem, load_at c6, load_at c7, hP, hT, load_at d0, evC, dec_f h1, dec_f h2]; with_reducible rfl))))
        refine cond_f rfl ?_
        ((repeat (first | refine ya (by (with_reducible constructor) <;> first | rfl | decide) ?_ | apply yb | refine yc rfl ?_ | ((first | apply yd | apply ye); simp (disch := first | exact yn | omega | (simp only [go_sem]; done) | (simp only [ln, ym]; omega) | (repeat' first | assumption | exact yo _ | refine yp ?_ _)) only [go_sem, e1]; with_reducible rfl))))
        exact ⟨by omega, by simp [forget], x1.trans x2, hA⟩
  obtain rfl : i = n := by omega
  rw [Nat.sub_self] at hA
  have hA : accRate L l 0 i = none := hA
  have eg : accGo L M l = accMark M l 0 M.length := by unfold accGo; rw [hn, hA]
  rw [eg]
  clear eg hA
  have hlJ := hl1.ext x1
  have xHJ := xG.trans x1
  ((repeat (first | refine ya (by (with_reducible constructor) <;> first | rfl | decide) ?_ | apply yb | refine yc rfl ?_ | ((first | apply yd | apply ye); simp (disch := first | exact yn | omega | (simp only [go_sem]; done) | (simp only [ln, ym]; omega) | (repeat' first | assumption | exact yo _ | refine yp ?_ _)) only [go_sem]; with_reducible rfl))))
  refine awp_loop_n [false, false, true, true, true, true, false, false, false, false, false, true, false, false, false, false, false, false, false, false, false, false, false, false, false, false, false, false, false, false, false, false, false, false, false, false, false, false, false, false, false, false, false, false, false, false, false, false, false, false, false, false, false, false, false, false, false, false, false, false, false, false, false, false, false, false, false, false, false, false, false, false, false, false, false, false, false, false, false, false, false, false, false, false, false, false, false, false, false, false, false, false, false, false, false, false, false, false, false, false, false, false, false, false, false] M.length (fun j e J2 => e = [junk, junk, .pointer (some ⟨H.length, 0, none⟩), .pointer (some ⟨H.length + 1, 0, none⟩), .int .i64 0, .int .i64 0, junk, junk, junk, junk, junk, .int .i64 j, junk, junk, junk, junk, junk, junk, junk, junk, junk, junk, junk, junk, junk, junk, junk, junk, junk, junk, junk, junk, junk, junk, junk, junk, junk, junk, junk, junk, junk, junk, junk, junk, junk, junk, junk, junk, junk, junk, junk, junk, junk, junk, junk, junk, junk, junk, junk, junk, junk, junk, junk, junk, junk, junk, junk, junk, junk, junk, junk, junk, junk, junk, junk, junk, junk, junk, junk, junk, junk, junk, junk, junk, junk, junk, junk, junk, junk, junk, junk, junk, junk, junk, junk, junk, junk, junk, junk, junk, junk, junk, junk, junk, junk] ∧ Ext J J2 ∧ accMark M l 0 M.length = accMark M l j (M.length - j)) ?_ ?_
  · exact ⟨by simp [forget], Ext.refl _, rfl⟩
  rintro j e J2 hj ⟨rfl, x2, hA⟩
  have b0 := x2.cell b0
  have b1 := x2.cell b1
  have hlJ := hlJ.ext x2
  have hmJ := hmJ.ext x2
  ((repeat (first | refine ya (by (with_reducible constructor) <;> first | rfl | decide) ?_ | apply yb | refine yc rfl ?_ | ((first | apply yd | apply ye); simp (disch := first | exact yn | omega | (simp only [go_sem]; done) | (simp only [ln, ym]; omega) | (repeat' first | assumption | exact yo _ | refine yp ?_ _)) only [go_sem, hlJ.len, hlJ.idx, hlJ.load, load_at b0, evC]; with_reducible rfl))))
  refine cond_p rfl (fun hlt => ?_) (fun hge => ?_)
  rotate_left 1
  · obtain rfl : j = M.length := by omega
    rw [Nat.sub_self] at hA
    have hA : accMark M l 0 M.length = (0, 0) := hA
    rw [hA]
    ((repeat (first | refine ya (by (with_reducible constructor) <;> first | rfl | decide) ?_ | apply yb | refine yc rfl ?_ | ((first | apply yd | apply ye); simp (disch := first | exact yn | omega | (simp only [go_sem]; done) | (simp only [ln, ym]; omega) | (repeat' first | assumption | exact yo _ | refine yp ?_ _)) only [go_sem]; with_reducible rfl))))
    exact fin_2 ⟨rfl, xHJ.trans x2⟩
  have hj' : j < M.length := by omega
  rw [show M.length - j = M.length - (j + 1) + 1 by omega, accMark_succ] at hA
  have x1' := hk.t1 j hj'
  have x2' := hk.t2 j hj'
  (repeat (first | refine ya (by (with_reducible constructor) <;> first | rfl | decide) ?_ | (apply yd; simp (disch := first | exact yn | omega | (simp only [go_sem]; done) | (simp only [ln, ym]; omega) | (repeat' first | assumption | exact yo _ | refine yp ?_ _)) only [go_sem, hlJ.len, hlJ.idx, hlJ.load, load_at b0, evC, store_new3]; with_reducible rfl)))
  obtain ⟨x, hx⟩ : ∃ x, M.getD j (0, 0, 0) = x := ⟨_, rfl⟩
  rw [hx] at hA x1' x2' ⊢
  rw [new_mark x]
  have c11 : (J2 ++ [AObj.cells true 0 (markC x)])[J2.length]? = some (.cells true 0 (markC x)) := at_new
  have x9 : Ext J2 (J2 ++ [AObj.cells true 0 (markC x)]) := (Ext.refl J2).app _
  generalize (J2 ++ [AObj.cells true 0 (markC x)] : AHeap) = J3 at c11 x9
  have d1 := x9.cell b1
  have hmJ := hmJ.ext x9
  ((repeat (first | refine ya (by (with_reducible constructor) <;> first | rfl | decide) ?_ | apply yb | refine yc rfl ?_ | ((first | apply yd | apply ye); simp (disch := first | exact yn | omega | (simp only [go_sem]; done) | (simp only [ln, ym]; omega) | (repeat' first | assumption | exact yo _ | refine yp ?_ _)) only [go_sem, n1_at d1, load_at c11, markC]; with_reducible rfl))))
  (refine adraw_call (N := []) (firstD (rFirst_c hmJ (by omega))) ?_; rw [List.append_nil])
  ((repeat (first | refine ya (by (with_reducible constructor) <;> first | rfl | decide) ?_ | apply yb | refine yc rfl ?_ | ((first | apply yd | apply ye); simp (disch := first | exact yn | omega | (simp only [go_sem]; done) | (simp only [ln, ym]; omega) | (repeat' first | assumption | exact yo _ | refine yp ?_ _)) only [go_sem, n1_at d1]; with_reducible rfl))))
  (refine adraw_call (N := []) (firstD (rLast_c hmJ (by omega) (by omega))) ?_; rw [List.append_nil])
  ((repeat (first | refine ya (by (with_reducible constructor) <;> first | rfl | decide) ?_ | apply yb | refine yc rfl ?_ | ((first | apply yd | apply ye); simp (disch := first | exact yn | omega | (simp only [go_sem]; done) | (simp only [ln, ym]; omega) | (repeat' first | assumption | exact yo _ | refine yp ?_ _)) only [go_sem, load_at c11, markC]; with_reducible rfl))))
  (refine adraw_call (N := []) (firstD (bwithin_c _ _ _)) ?_; rw [List.append_nil])
  by_cases hin : (l.getD 0 (0, 0)).1 ≤ x.1 ∧ x.1 ≤ (l.getD (l.length - 1) (0, 0)).1
  rotate_left 1
  · rw [if_neg hin] at hA
    rw [hA]
    ((repeat (first | refine ya (by (with_reducible constructor) <;> first | rfl | decide) ?_ | apply yb | refine yc rfl ?_ | ((first | apply yd | apply ye); simp (disch := first | exact yn | omega | (simp only [go_sem]; done) | (simp only [ln, ym]; omega) | (repeat' first | assumption | exact yo _ | refine yp ?_ _)) only [go_sem, dec_f hin]; with_reducible rfl))))
    refine cond_t rfl ?_
    ((repeat (first | refine ya (by (with_reducible constructor) <;> first | rfl | decide) ?_ | apply yb | refine yc rfl ?_ | ((first | apply yd | apply ye); simp (disch := first | exact yn | omega | (simp only [go_sem]; done) | (simp only [ln, ym]; omega) | (repeat' first | assumption | exact yo _ | refine yp ?_ _)) only [go_sem]; with_reducible rfl))))
    exact fin_2 ⟨rfl, (xHJ.trans x2).trans x9⟩
  rw [if_pos hin] at hA
  ((repeat (first | refine ya (by (with_reducible constructor) <;> first | rfl | decide) ?_ | apply yb | refine yc rfl ?_ | ((first | apply yd | apply ye); simp (disch := first | exact yn | omega | (simp only [go_sem]; done) | (simp only [ln, ym]; omega) | (repeat' first | assumption | exact yo _ | refine yp ?_ _)) only [go_sem, dec_t hin]; with_reducible rfl))))
  refine cond_f rfl ?_
  ((repeat (first | refine ya (by (with_reducible constructor) <;> first | rfl | decide) ?_ | apply yb | refine yc rfl ?_ | ((first | apply yd | apply ye); simp (disch := first | exact yn | omega | (simp only [go_sem]; done) | (simp only [ln, ym]; omega) | (repeat' first | assumption | exact yo _ | refine yp ?_ _)) only [go_sem, n1_at d1, load_at c11, markC]; with_reducible rfl))))
  (refine aops_call_to (rtimeAt_c hmJ hok hin.1 hin.2) ?_)
  obtain ⟨hpi, hp1, hp2⟩ := pieceP_ok hok hin.1 hin.2
  obtain ⟨p1, p2, p3, p4, p5, p6⟩ := hok.pieceAt hpi
  have epp : pieceOf l (atPos l x.1 0 (l.length - 2)) = pieceP l x.1 := rfl
  rw [epp] at p1 p2 p3 p4 p5 p6 ⊢
  generalize pieceP l x.1 = p at *
  obtain ⟨d, hd⟩ : ∃ d, p.2.1 - p.1.1 = d := ⟨_, rfl⟩
  have m1 := mul_abs (x := x.2.1) (y := d) (a := 1000000000000) (b := 1000000) ⟨by omega, by omega⟩ ⟨by omega, by omega⟩
  have m2 := mul_abs (x := x.2.2) (y := d) (a := 1000000000000) (b := 1000000) ⟨by omega, by omega⟩ ⟨by omega, by omega⟩
  rw [hd]
  ((repeat (first | refine ya (by (with_reducible constructor) <;> first | rfl | decide) ?_ | apply yb | refine yc rfl ?_ | ((first | apply yd | apply ye); simp (disch := first | exact yn | omega | (simp only [go_sem]; done) | (simp only [ln, ym]; omega) | (repeat' first | assumption | exact yo _ | refine yp ?_ _)) only [go_sem, load_at c11, markC]; with_reducible rfl))))
  (refine aops_call_to (bwithin_c _ _ _) ?_)
  have em : meetsB p x = decide (x.2.1 * d ≤ timN p x.1 ∧ timN p x.1 ≤ x.2.2 * d) := by unfold meetsB; rw [hd]
  rw [em] at hA
  by_cases hmt : x.2.1 * d ≤ timN p x.1 ∧ timN p x.1 ≤ x.2.2 * d
  · rw [if_pos (by rw [decide_eq_true_eq]; exact hmt)] at hA
    have e1 : (j : Int) + 1 = ((j + 1 : Nat) : Int) := by omega
    ((repeat (first | refine ya (by (with_reducible constructor) <;> first | rfl | decide) ?_ | apply yb | refine yc rfl ?_ | ((first | apply yd | apply ye); simp (disch := first | exact yn | omega | (simp only [go_sem]; done) | (simp only [ln, ym]; omega) | (repeat' first | assumption | exact yo _ | refine yp ?_ _)) only [go_sem, dec_t hmt]; with_reducible rfl))))
    refine cond_f rfl ?_
    ((repeat (first | refine ya (by (with_reducible constructor) <;> first | rfl | decide) ?_ | apply yb | refine yc rfl ?_ | ((first | apply yd | apply ye); simp (disch := first | exact yn | omega | (simp only [go_sem]; done) | (simp only [ln, ym]; omega) | (repeat' first | assumption | exact yo _ | refine yp ?_ _)) only [go_sem, e1]; with_reducible rfl))))
    exact ⟨by omega, by simp [forget], x2.trans x9, hA⟩
  · rw [if_neg (by rw [decide_eq_true_eq]; exact hmt)] at hA
    rw [hA]
    ((repeat (first | refine ya (by (with_reducible constructor) <;> first | rfl | decide) ?_ | apply yb | refine yc rfl ?_ | ((first | apply yd | apply ye); simp (disch := first | exact yn | omega | (simp only [go_sem]; done) | (simp only [ln, ym]; omega) | (repeat' first | assumption | exact yo _ | refine yp ?_ _)) only [go_sem, dec_f hmt]; with_reducible rfl))))
    refine cond_t rfl ?_
    ((repeat (first | refine ya (by (with_reducible constructor) <;> first | rfl | decide) ?_ | apply yb | refine yc rfl ?_ | ((first | apply yd | apply ye); simp (disch := first | exact yn | omega | (simp only [go_sem]; done) | (simp only [ln, ym]; omega) | (repeat' first | assumption | exact yo _ | refine yp ?_ _)) only [go_sem]; with_reducible rfl))))
    exact fin_2 ⟨rfl, (xHJ.trans x2).trans x9⟩
end
end Go.Lq

namespace Go.Lq
open Go
open Go.Proofs

theorem zn0 {n : Int} (h : n ≠ 0) : decide (n = 0) = false := decide_eq_false h
set_option maxRecDepth 100000 in
set_option maxHeartbeats 4000000 in
theorem law9 {H : AHeap} {avs : List Value} (h : RepAll Try.prog H [26, 42] avs) : ACall Try.prog 9 avs H fun v _ => v = .bool true := by
  obtain ⟨a, b, rfl, h1, h2⟩ := h.two
  obtain ⟨L, M, s, rfl, hl, hlm⟩ := repEv h1
  obtain ⟨l, u, rfl, hm, hmm⟩ := repMapA h2
  have e0 : Value.agg ⟨[.int .i64 L.1, .int .i64 L.2, s]⟩ = evV L s := rfl
  rw [e0]
  (refine a9 ?_; simp only [n9, List.replicate, yq, yr, yt, yu]; first | refine q1 ?_ | refine q2 ?_ | refine q6 ?_ | refine q7 ?_ | refine qh rfl ?_ | skip)
  obtain ⟨G, hG⟩ : ∃ G, G = H ++ [AObj.cells true 0 (evC L s)] ++ [AObj.cells true 0 [u]] := ⟨_, rfl⟩
  have g0 : G[H.length]? = some (.cells true 0 (evC L s)) := by rw [hG]; simp
  have g1 : G[H.length + 1]? = some (.cells true 0 [u]) := by rw [hG]; simp
  have xG : Ext H G := by rw [hG]; exact ((Ext.refl H).app _).app _
  (repeat (first | refine ya (by (with_reducible constructor) <;> first | rfl | decide) ?_ | (apply yd; simp (disch := first | exact yn | omega | (simp only [go_sem]; done) | (simp only [ln, ym]; omega) | (repeat' first | assumption | exact yo _ | refine yp ?_ _)) only [go_sem, box_ev hl.atom, hm.box1]; with_reducible rfl)))
  (simp only [List.length_append, List.length_cons, List.length_nil, Nat.zero_add, Nat.add_assoc, Nat.reduceAdd])
  rw [← hG]
  clear hG
  have k0 := hl.ext xG
  have k1 := hm.ext xG
  ((repeat (first | refine ya (by (with_reducible constructor) <;> first | rfl | decide) ?_ | apply yb | refine yc rfl ?_ | ((first | apply yd | apply ye); simp (disch := first | exact yn | omega | (simp only [go_sem]; done) | (simp only [ln, ym]; omega) | (repeat' first | assumption | exact yo _ | refine yp ?_ _)) only [go_sem]; with_reducible rfl))))
  (refine aops_call_to (awake_c) ?_)
  ((repeat (first | refine ya (by (with_reducible constructor) <;> first | rfl | decide) ?_ | apply yb | refine yc rfl ?_ | ((first | apply yd | apply ye); simp (disch := first | exact yn | omega | (simp only [go_sem]; done) | (simp only [ln, ym]; omega) | (repeat' first | assumption | exact yo _ | refine yp ?_ _)) only [go_sem]; with_reducible rfl))))
  refine cond_f rfl ?_
  ((repeat (first | refine ya (by (with_reducible constructor) <;> first | rfl | decide) ?_ | apply yb | refine yc rfl ?_ | ((first | apply yd | apply ye); simp (disch := first | exact yn | omega | (simp only [go_sem]; done) | (simp only [ln, ym]; omega) | (repeat' first | assumption | exact yo _ | refine yp ?_ _)) only [go_sem, n1_at g1]; with_reducible rfl))))
  (refine aops_call_to (few_c k1) ?_)
  by_cases hf : l.length ≤ 22
  rotate_left 1
  · ((repeat (first | refine ya (by (with_reducible constructor) <;> first | rfl | decide) ?_ | apply yb | refine yc rfl ?_ | ((first | apply yd | apply ye); simp (disch := first | exact yn | omega | (simp only [go_sem]; done) | (simp only [ln, ym]; omega) | (repeat' first | assumption | exact yo _ | refine yp ?_ _)) only [go_sem, dec_f hf]; with_reducible rfl))))
    refine cond_t rfl ?_
    ((repeat (first | refine ya (by (with_reducible constructor) <;> first | rfl | decide) ?_ | apply yb | refine yc rfl ?_ | ((first | apply yd | apply ye); simp (disch := first | exact yn | omega | (simp only [go_sem]; done) | (simp only [ln, ym]; omega) | (repeat' first | assumption | exact yo _ | refine yp ?_ _)) only [go_sem]; with_reducible rfl))))
    exact fin_1 rfl
  ((repeat (first | refine ya (by (with_reducible constructor) <;> first | rfl | decide) ?_ | apply yb | refine yc rfl ?_ | ((first | apply yd | apply ye); simp (disch := first | exact yn | omega | (simp only [go_sem]; done) | (simp only [ln, ym]; omega) | (repeat' first | assumption | exact yo _ | refine yp ?_ _)) only [go_sem, dec_t hf, load_ev g0]; with_reducible rfl))))
  (refine aops_call_to (fewMarks_c k0) ?_)
  by_cases hf2 : M.length ≤ 14
  rotate_left 1
  · ((repeat (first | refine ya (by (with_reducible constructor) <;> first | rfl | decide) ?_ | apply yb | refine yc rfl ?_ | ((first | apply yd | apply ye); simp (disch := first | exact yn | omega | (simp only [go_sem]; done) | (simp only [ln, ym]; omega) | (repeat' first | assumption | exact yo _ | refine yp ?_ _)) only [go_sem, dec_f hf2]; with_reducible rfl))))
    refine cond_t rfl ?_
    ((repeat (first | refine ya (by (with_reducible constructor) <;> first | rfl | decide) ?_ | apply yb | refine yc rfl ?_ | ((first | apply yd | apply ye); simp (disch := first | exact yn | omega | (simp only [go_sem]; done) | (simp only [ln, ym]; omega) | (repeat' first | assumption | exact yo _ | refine yp ?_ _)) only [go_sem]; with_reducible rfl))))
    exact fin_1 rfl
  ((repeat (first | refine ya (by (with_reducible constructor) <;> first | rfl | decide) ?_ | apply yb | refine yc rfl ?_ | ((first | apply yd | apply ye); simp (disch := first | exact yn | omega | (simp only [go_sem]; done) | (simp only [ln, ym]; omega) | (repeat' first | assumption | exact yo _ | refine yp ?_ _)) only [go_sem, dec_t hf2]; with_reducible rfl))))
  refine cond_f rfl ?_
  ((repeat (first | refine ya (by (with_reducible constructor) <;> first | rfl | decide) ?_ | apply yb | refine yc rfl ?_ | ((first | apply yd | apply ye); simp (disch := first | exact yn | omega | (simp only [go_sem]; done) | (simp only [ln, ym]; omega) | (repeat' first | assumption | exact yo _ | refine yp ?_ _)) only [go_sem, load_ev g0]; with_reducible rfl))))
  refine adraw_call (copyEv_c k0 (by omega)) ?_
  have hC : Tris (G ++ [.cells true 3 (flat3 M)]) M (.slice (some ⟨G.length, 0, none⟩) M.length M.length) := Tris.last M.length
  have x1 : Ext G (G ++ [AObj.cells true 3 (flat3 M)]) := (Ext.refl G).app _
  obtain ⟨G1, hG1⟩ : ∃ G1, G ++ [AObj.cells true 3 (flat3 M)] = G1 := ⟨_, rfl⟩
  rw [hG1] at hC x1 ⊢
  clear hG1
  ((repeat (first | refine ya (by (with_reducible constructor) <;> first | rfl | decide) ?_ | apply yb | refine yc rfl ?_ | ((first | apply yd | apply ye); simp (disch := first | exact yn | omega | (simp only [go_sem]; done) | (simp only [ln, ym]; omega) | (repeat' first | assumption | exact yo _ | refine yp ?_ _)) only [go_sem, n1_at (x1.cell g1)]; with_reducible rfl))))
  refine adraw_call (copyMap_c (k1.ext x1) (by omega)) ?_
  have hD : Pairs (G1 ++ [.cells true 2 (flatP l)]) l (.slice (some ⟨G1.length, 0, none⟩) l.length l.length) := Pairs.last l.length
  have x2 : Ext G1 (G1 ++ [AObj.cells true 2 (flatP l)]) := (Ext.refl G1).app _
  obtain ⟨G2, hG2⟩ : ∃ G2, G1 ++ [AObj.cells true 2 (flatP l)] = G2 := ⟨_, rfl⟩
  rw [hG2] at hD x2 ⊢
  clear hG2
  have x12 := x1.trans x2
  have g0 := x12.cell g0
  have g1 := x12.cell g1
  have k0 := k0.ext x12
  have k1 := k1.ext x12
  ((repeat (first | refine ya (by (with_reducible constructor) <;> first | rfl | decide) ?_ | apply yb | refine yc rfl ?_ | ((first | apply yd | apply ye); simp (disch := first | exact yn | omega | (simp only [go_sem]; done) | (simp only [ln, ym]; omega) | (repeat' first | assumption | exact yo _ | refine yp ?_ _)) only [go_sem]; with_reducible rfl))))
  (refine adraw_call (N := []) (firstD (accepts_c (hC.ext x2) (by omega) hD (by omega))) ?_; rw [List.append_nil])
  obtain ⟨r, hr⟩ : ∃ r, accL L M l = r := ⟨_, rfl⟩
  rw [hr]
  ((repeat (first | refine ya (by (with_reducible constructor) <;> first | rfl | decide) ?_ | apply yb | refine yc rfl ?_ | ((first | apply yd | apply ye); simp (disch := first | exact yn | omega | (simp only [go_sem]; done) | (simp only [ln, ym]; omega) | (repeat' first | assumption | exact yo _ | refine yp ?_ _)) only [go_sem, load_ev g0]; with_reducible rfl))))
  (refine aops_call_to (rEvErr_c k0 (by omega)) ?_)
  ((repeat (first | refine ya (by (with_reducible constructor) <;> first | rfl | decide) ?_ | apply yb | refine yc rfl ?_ | ((first | apply yd | apply ye); simp (disch := first | exact yn | omega | (simp only [go_sem]; done) | (simp only [ln, ym]; omega) | (repeat' first | assumption | exact yo _ | refine yp ?_ _)) only [go_sem]; with_reducible rfl))))
  refine cond_p rfl (fun hz => ?_) (fun hz => ?_)
  rotate_left 1
  · have ev : accL L M l = (0, evErrL L M) := by
      have : accE L M l = evErrL L M := firstErr_e hz _
      unfold accL; rw [this, if_pos hz]
    rw [ev] at hr
    subst hr
    ((repeat (first | refine ya (by (with_reducible constructor) <;> first | rfl | decide) ?_ | apply yb | refine yc rfl ?_ | ((first | apply yd | apply ye); simp (disch := first | exact yn | omega | (simp only [go_sem]; done) | (simp only [ln, ym]; omega) | (repeat' first | assumption | exact yo _ | refine yp ?_ _)) only [go_sem, zn0 hz]; with_reducible rfl))))
    refine cond_f rfl ?_
    ((repeat (first | refine ya (by (with_reducible constructor) <;> first | rfl | decide) ?_ | apply yb | refine yc rfl ?_ | ((first | apply yd | apply ye); simp (disch := first | exact yn | omega | (simp only [go_sem]; done) | (simp only [ln, ym]; omega) | (repeat' first | assumption | exact yo _ | refine yp ?_ _)) only [go_sem]; with_reducible rfl))))
    exact fin_1 rfl
  have e1 : accE L M l = mapErrL l := by unfold accE; rw [hz, firstErr_z]; by_cases hm : mapErrL l = 0
                                         · rw [hm]; rfl
                                         · exact firstErr_e hm _
  ((repeat (first | refine ya (by (with_reducible constructor) <;> first | rfl | decide) ?_ | apply yb | refine yc rfl ?_ | ((first | apply yd | apply ye); simp (disch := first | exact yn | omega | (simp only [go_sem]; done) | (simp only [ln, ym]; omega) | (repeat' first | assumption | exact yo _ | refine yp ?_ _)) only [go_sem, n1_at g1]; with_reducible rfl))))
  (refine aops_call_to (rMapErr_c k1 (by omega)) ?_)
  ((repeat (first | refine ya (by (with_reducible constructor) <;> first | rfl | decide) ?_ | apply yb | refine yc rfl ?_ | ((first | apply yd | apply ye); simp (disch := first | exact yn | omega | (simp only [go_sem]; done) | (simp only [ln, ym]; omega) | (repeat' first | assumption | exact yo _ | refine yp ?_ _)) only [go_sem]; with_reducible rfl))))
  refine cond_p rfl (fun hz2 => ?_) (fun hz2 => ?_)
  rotate_left 1
  · have ev : accL L M l = (0, mapErrL l) := by unfold accL; rw [e1, if_pos hz2]
    rw [ev] at hr
    subst hr
    ((repeat (first | refine ya (by (with_reducible constructor) <;> first | rfl | decide) ?_ | apply yb | refine yc rfl ?_ | ((first | apply yd | apply ye); simp (disch := first | exact yn | omega | (simp only [go_sem]; done) | (simp only [ln, ym]; omega) | (repeat' first | assumption | exact yo _ | refine yp ?_ _)) only [go_sem]; with_reducible rfl))))
    exact fin_1 rfl
  have ev : accL L M l = accGo L M l := by unfold accL; rw [e1, if_neg (fun h => h hz2)]
  rw [ev] at hr
  ((repeat (first | refine ya (by (with_reducible constructor) <;> first | rfl | decide) ?_ | apply yb | refine yc rfl ?_ | ((first | apply yd | apply ye); simp (disch := first | exact yn | omega | (simp only [go_sem]; done) | (simp only [ln, ym]; omega) | (repeat' first | assumption | exact yo _ | refine yp ?_ _)) only [go_sem, load_ev g0, n1_at g1]; with_reducible rfl))))
  (refine aops_call_to (rAccepts_c k0 (evErr_ok hz) k1 (mapErr_ok hz2)) ?_)
  rw [hr]
  ((repeat (first | refine ya (by (with_reducible constructor) <;> first | rfl | decide) ?_ | apply yb | refine yc rfl ?_ | ((first | apply yd | apply ye); simp (disch := first | exact yn | omega | (simp only [go_sem]; done) | (simp only [ln, ym]; omega) | (repeat' first | assumption | exact yo _ | refine yp ?_ _)) only [go_sem]; with_reducible rfl))))
  exact fin_1 rfl
end Go.Lq

namespace Go.Lq
open Go Go.ChangeShapes Go.WideShapes Go.ChangeAt Go.RowKit
open Go.Proofs

set_option maxRecDepth 100000 in
theorem lifted9 (os : Os) (started : os.Started) (X : Type) (enc : TypeId × Value → X) :
    ReturnsInHanded {} Try.checked os 9 .any (Yteimgikhanhgiaa.Rows.speedAcceptsSpec.pre6 enc Try.prog Try.f9 [] false) (Yteimgikhanhgiaa.Rows.speedAcceptsSpec.post enc Try.prog Try.f9 false true false false) := by
  refine returnsInHanded_of_plain_shaped (C := Try.checked) own_knob started (by kernel_rfl) Try.func9
    (ChangeSpec.witness6 (enc := enc) (C := Try.checked) false ⟨#[], #[.agg #[.int .i64 0, .int .i64 0, .slice none 0 0], .agg #[.slice none 0 0]], []⟩ 12 (by kernel_rfl) (by kernel_rfl) (by kernel_rfl) (by kernel_rfl)) ?_
  intro W base args ds gs before hsh hval hW
  have hWw := hW
  obtain ⟨p, q, hA, _⟩ := hW
  refine (calls_of_law (d := 20) (of_shaped hsh) globs glob_at hA (fun j t v h1 h2 => hval j t v (by simpa using h1) (by simpa using h2)) (by kernel_rfl) fun H avs hx h => ?_).mono fun e W' ⟨he, hB⟩ => ?_
  · exact law9 (by rw [show Try.f9.params = #[26, 42] from Try.params9] at h; exact h)
  · subst he
    exact ⟨_, rfl, law_post (bt := 4) laid_out rfl Try.underlying4 (by kernel_rfl) (by kernel_rfl) hWw (fun ds hd => by
      rw [show Try.f9.params = #[26, 42] from Try.params9] at hd
      match ds, hd with
      | [a, b], _ => rfl) hB⟩
theorem unf9 : Try.prog.unfollowed 9 = true := by kernel_rfl
theorem rec9 : Try.prog.recurses 9 = true := by kernel_rfl
theorem named9 : Try.prog.varsNamed 9 = Yteimgikhanhgiaa.Rows.speedAcceptsRow.named := by kernel_rfl
theorem facts9 : joinedFacts Try.prog 9 Try.f9 Yteimgikhanhgiaa.Rows.speedAcceptsSpec Yteimgikhanhgiaa.Rows.speedAcceptsRow = true := by
  unfold joinedFacts
  rw [may_enter, stops_heard, maps_rowed, laid_out, lifts_final, make_is, unf9, rec9, named9]
  kernel_rfl
theorem holds9 : Yteimgikhanhgiaa.Rows.SpeedAcceptsSaid :=
  OpenClaim.holds_of_wide 9 Try.f9 rfl rfl rfl rfl rfl rfl rfl ⟨rfl, rfl, rfl, rfl, rfl⟩ rfl rfl rfl rfl rfl (by kernel_rfl) Try.func9 facts9
    (of_decide_eq_true (by kernel_rfl)) (by unfold Func.isWrapper; first | (rw [if_pos (by decide +kernel)]; kernel_rfl) | (rw [if_neg (by decide +kernel)]; exact ⟨rfl, rfl⟩))
    (fun os started H enc _ => lifted9 os started H enc)
end Go.Lq
namespace Go.Proofs.Yteimgikhanhgiaa
open Go Go.Lq
theorem speedAccepts_proved : Rows.SpeedAcceptsSaid := holds9
end Go.Proofs.Yteimgikhanhgiaa
