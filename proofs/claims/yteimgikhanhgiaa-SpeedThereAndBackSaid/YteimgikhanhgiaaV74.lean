/- SpeedThereAndBack is proved: for every input that can be read the law returns true, and each argument reads afterwards as it read before; nothing is asked of package variables. -/
import Derived.Test.YteimgikhanhgiaaV73
set_option linter.unusedSimpArgs false
set_option linter.unnecessarySimpa false
set_option linter.unusedVariables false
set_option linter.unusedSectionVars false
set_option maxRecDepth 100000
namespace Go.Lq
open Go
open Go.Proofs

theorem cellsTwo : Try.prog.cellsOf 70 = 2 := by kernel_rfl
set_option maxRecDepth 100000 in
theorem repTwo {H : AHeap} {v : Value} (h : RepA Try.prog H 70 v) : ∃ a b, v = .agg ⟨[.int .i64 a, .int .i64 b]⟩ ∧ InI64 a ∧ InI64 b := by
  obtain ⟨acs, rfl, hr⟩ := h.array Try.underlying70
  obtain ⟨hl, hf⟩ := hr.array_inv Try.underlying70
  rw [cellsTwo] at hl
  rw [cells3] at hf
  match acs, hl with
  | [x, y], _ =>
    obtain ⟨a, ea, wa⟩ := (hf 0 (by omega)).int_inv Try.underlying3
    obtain ⟨b, eb, wb⟩ := (hf 1 (by omega)).int_inv Try.underlying3
    have ea' : [x] = [.int .i64 a] := ea
    have eb' : [y] = [.int .i64 b] := eb
    cases ea'; cases eb'
    exact ⟨a, b, rfl, wf_i64 wa, wf_i64 wb⟩
theorem idxA20 {id : Nat} {J : AHeap} : idxAR 2 1 (.pointer (some ⟨id, 0, none⟩)) (.int .i64 0) J = some (.pointer (some ⟨id, 0, none⟩), J) := rfl
theorem idxA21 {id : Nat} {J : AHeap} : idxAR 2 1 (.pointer (some ⟨id, 0, none⟩)) (.int .i64 1) J = some (.pointer (some ⟨id, 1, none⟩), J) := rfl
attribute [go_sem] r_idxA idxA20 idxA21

set_option maxRecDepth 100000 in
set_option maxHeartbeats 16000000 in
theorem law7 {H : AHeap} {avs : List Value} (h : RepAll Try.prog H [42, 70] avs) : ACall Try.prog 7 avs H fun v _ => v = .bool true := by
  obtain ⟨a, b, rfl, h1, h2⟩ := h.two
  obtain ⟨l, s, rfl, hl, hlm⟩ := repMapA h1
  obtain ⟨x0, x1, rfl, -, -⟩ := repTwo h2
  (refine a7 ?_; simp only [n7, List.replicate, yq, yr, yt, yu]; first | refine Go.Lq.q1 ?_ | refine Go.Lq.q2 ?_ | refine Go.Lq.q6 ?_ | refine Go.Lq.q7 ?_ | refine Go.Lq.qh rfl ?_ | skip)
  obtain ⟨G, hG⟩ : ∃ G, G = H ++ [AObj.cells true 0 [s]] ++ [AObj.cells true 0 [.int .i64 x0, .int .i64 x1]] := ⟨_, rfl⟩
  have g0 : G[H.length]? = some (.cells true 0 [s]) := by rw [hG]; simp
  have g1 : G[H.length + 1]? = some (.cells true 0 [.int .i64 x0, .int .i64 x1]) := by rw [hG]; simp
  have xG : Ext H G := by rw [hG]; exact ((Ext.refl H).app _).app _
  (repeat (first | refine ya (by (with_reducible constructor) <;> first | rfl | decide) ?_ | (apply yd; simp (disch := first | exact yn | omega | (simp only [go_sem]; done) | (simp only [ln, ym]; omega) | (repeat' first | assumption | exact yo _ | refine yp ?_ _)) only [go_sem, hl.box1]; with_reducible rfl)))
  (simp only [List.length_append, List.length_cons, List.length_nil, Nat.zero_add, Nat.add_assoc, Nat.reduceAdd])
  rw [← hG]
  clear hG
  have k0 := hl.ext xG
  ((repeat (first | refine ya (by (with_reducible constructor) <;> first | rfl | decide) ?_ | apply yb | refine yc rfl ?_ | ((first | apply yd | apply ye); simp (disch := first | exact yn | omega | (simp only [go_sem]; done) | (simp only [ln, ym]; omega) | (repeat' first | assumption | exact yo _ | refine yp ?_ _)) only [go_sem]; with_reducible rfl))))
  (refine aops_call_to (awake_c) ?_)
  ((repeat (first | refine ya (by (with_reducible constructor) <;> first | rfl | decide) ?_ | apply yb | refine yc rfl ?_ | ((first | apply yd | apply ye); simp (disch := first | exact yn | omega | (simp only [go_sem]; done) | (simp only [ln, ym]; omega) | (repeat' first | assumption | exact yo _ | refine yp ?_ _)) only [go_sem]; with_reducible rfl))))
  refine cond_f rfl ?_
  ((repeat (first | refine ya (by (with_reducible constructor) <;> first | rfl | decide) ?_ | apply yb | refine yc rfl ?_ | ((first | apply yd | apply ye); simp (disch := first | exact yn | omega | (simp only [go_sem]; done) | (simp only [ln, ym]; omega) | (repeat' first | assumption | exact yo _ | refine yp ?_ _)) only [go_sem, n1_at g0]; with_reducible rfl))))
  (refine aops_call_to (few_c k0) ?_)
  by_cases hf : l.length ≤ 22
  rotate_left 1
  · ((repeat (first | refine ya (by (with_reducible constructor) <;> first | rfl | decide) ?_ | apply yb | refine yc rfl ?_ | ((first | apply yd | apply ye); simp (disch := first | exact yn | omega | (simp only [go_sem]; done) | (simp only [ln, ym]; omega) | (repeat' first | assumption | exact yo _ | refine yp ?_ _)) only [go_sem, dec_f hf]; with_reducible rfl))))
    refine cond_t rfl ?_
    ((repeat (first | refine ya (by (with_reducible constructor) <;> first | rfl | decide) ?_ | apply yb | refine yc rfl ?_ | ((first | apply yd | apply ye); simp (disch := first | exact yn | omega | (simp only [go_sem]; done) | (simp only [ln, ym]; omega) | (repeat' first | assumption | exact yo _ | refine yp ?_ _)) only [go_sem]; with_reducible rfl))))
    exact fin_1 rfl
  ((repeat (first | refine ya (by (with_reducible constructor) <;> first | rfl | decide) ?_ | apply yb | refine yc rfl ?_ | ((first | apply yd | apply ye); simp (disch := first | exact yn | omega | (simp only [go_sem]; done) | (simp only [ln, ym]; omega) | (repeat' first | assumption | exact yo _ | refine yp ?_ _)) only [go_sem, dec_t hf, n1_at g0]; with_reducible rfl))))
  (refine aops_call_to (rMapErr_c k0 (by omega)) ?_)
  ((repeat (first | refine ya (by (with_reducible constructor) <;> first | rfl | decide) ?_ | apply yb | refine yc rfl ?_ | ((first | apply yd | apply ye); simp (disch := first | exact yn | omega | (simp only [go_sem]; done) | (simp only [ln, ym]; omega) | (repeat' first | assumption | exact yo _ | refine yp ?_ _)) only [go_sem]; with_reducible rfl))))
  refine cond_p (p := mapErrL l ≠ 0) rfl (fun he => ?_) (fun he => ?_)
  · ((repeat (first | refine ya (by (with_reducible constructor) <;> first | rfl | decide) ?_ | apply yb | refine yc rfl ?_ | ((first | apply yd | apply ye); simp (disch := first | exact yn | omega | (simp only [go_sem]; done) | (simp only [ln, ym]; omega) | (repeat' first | assumption | exact yo _ | refine yp ?_ _)) only [go_sem]; with_reducible rfl))))
    exact fin_1 rfl
  have hok := mapErr_ok (Decidable.not_not.1 he)
  have h02 := hok.lo
  have h20 := hok.hi
  obtain ⟨A, hA⟩ : ∃ A, l.getD 0 (0, 0) = A := ⟨_, rfl⟩
  obtain ⟨Z, hZ⟩ : ∃ Z, l.getD (l.length - 1) (0, 0) = Z := ⟨_, rfl⟩
  have pA := hok.pos 0 (by omega)
  have pZ := hok.pos (l.length - 1) (by omega)
  have AZ := hok.posLe (i := 0) (j := l.length - 1) (by omega) (by omega)
  have tA := hok.time 0 (by omega)
  have tZ := hok.time (l.length - 1) (by omega)
  rw [hA] at pA tA AZ
  rw [hZ] at pZ tZ AZ
  have hfi := fun (J : AHeap) (hx : Ext G J) => rFirst_c (k0.ext hx) (by omega)
  have hla := fun (J : AHeap) (hx : Ext G J) => rLast_c (k0.ext hx) (by omega) (by omega)
  rw [hA] at hfi
  rw [hZ] at hla
  ((repeat (first | refine ya (by (with_reducible constructor) <;> first | rfl | decide) ?_ | apply yb | refine yc rfl ?_ | ((first | apply yd | apply ye); simp (disch := first | exact yn | omega | (simp only [go_sem]; done) | (simp only [ln, ym]; omega) | (repeat' first | assumption | exact yo _ | refine yp ?_ _)) only [go_sem, n1_at g0]; with_reducible rfl))))
  (refine adraw_call (N := []) (firstD (hfi G (Ext.refl G))) ?_; rw [List.append_nil])
  ((repeat (first | refine ya (by (with_reducible constructor) <;> first | rfl | decide) ?_ | apply yb | refine yc rfl ?_ | ((first | apply yd | apply ye); simp (disch := first | exact yn | omega | (simp only [go_sem]; done) | (simp only [ln, ym]; omega) | (repeat' first | assumption | exact yo _ | refine yp ?_ _)) only [go_sem, n1_at g0]; with_reducible rfl))))
  (refine adraw_call (N := []) (firstD (hla G (Ext.refl G))) ?_; rw [List.append_nil])
  (repeat (first | refine ya (by (with_reducible constructor) <;> first | rfl | decide) ?_ | (apply ye; simp (disch := first | exact yn | omega | (simp only [go_sem]; done) | (simp only [ln, ym]; omega) | (repeat' first | assumption | exact yo _ | refine yp ?_ _)) only [go_sem]; with_reducible rfl)))
  (simp only [List.length_append, List.length_cons, List.length_nil, Nat.zero_add, Nat.add_assoc, Nat.reduceAdd])
  obtain ⟨G2, hG2⟩ : ∃ G2, G2 = G ++ [AObj.cells true 0 [.int .i64 A.1, .int .i64 A.2]] ++ [AObj.cells true 0 [.int .i64 Z.1, .int .i64 Z.2]] := ⟨_, rfl⟩
  have c5 : G2[G.length]? = some (.cells true 0 [.int .i64 A.1, .int .i64 A.2]) := by rw [hG2]; simp
  have c6 : G2[G.length + 1]? = some (.cells true 0 [.int .i64 Z.1, .int .i64 Z.2]) := by rw [hG2]; simp
  have x2 : Ext G G2 := by rw [hG2]; exact ((Ext.refl G).app _).app _
  rw [← hG2]
  clear hG2
  have g0 := x2.cell g0
  have g1 := x2.cell g1
  have k2 := k0.ext x2
  obtain ⟨d, hd⟩ : ∃ d, Z.1 - A.1 + 1 = d := ⟨_, rfl⟩
  have m0 := Int.emod_nonneg x0 (show d ≠ 0 by omega)
  have m0' := Int.emod_lt_of_pos x0 (show 0 < d by omega)
  have m1 := Int.emod_nonneg x1 (show d ≠ 0 by omega)
  have m1' := Int.emod_lt_of_pos x1 (show 0 < d by omega)
  ((repeat (first | refine ya (by (with_reducible constructor) <;> first | rfl | decide) ?_ | apply yb | refine yc rfl ?_ | ((first | apply yd | apply ye); simp (disch := first | exact yn | omega | (simp only [go_sem]; done) | (simp only [ln, ym]; omega) | (repeat' first | assumption | exact yo _ | refine yp ?_ _)) only [go_sem, load_at c5, load_at c6, load_at g1, hd]; with_reducible rfl))))
  (refine adraw_call (N := []) (firstD (bmodW_c x0 d (by omega))) ?_; rw [List.append_nil])
  obtain ⟨p, hp⟩ : ∃ p, A.1 + x0 % d = p := ⟨_, rfl⟩
  obtain ⟨q, hq⟩ : ∃ q, A.1 + x1 % d = q := ⟨_, rfl⟩
  ((repeat (first | refine ya (by (with_reducible constructor) <;> first | rfl | decide) ?_ | apply yb | refine yc rfl ?_ | ((first | apply yd | apply ye); simp (disch := first | exact yn | omega | (simp only [go_sem]; done) | (simp only [ln, ym]; omega) | (repeat' first | assumption | exact yo _ | refine yp ?_ _)) only [go_sem, load_at c5, load_at c6, load_at g1, hd, hp]; with_reducible rfl))))
  (refine adraw_call (N := []) (firstD (bmodW_c x1 d (by omega))) ?_; rw [List.append_nil])
  ((repeat (first | refine ya (by (with_reducible constructor) <;> first | rfl | decide) ?_ | apply yb | refine yc rfl ?_ | ((first | apply yd | apply ye); simp (disch := first | exact yn | omega | (simp only [go_sem]; done) | (simp only [ln, ym]; omega) | (repeat' first | assumption | exact yo _ | refine yp ?_ _)) only [go_sem, hq, n1_at g0]; with_reducible rfl))))
  (refine aops_call_to (copyMap_c k2 (by omega)) ?_)
  have hC : Pairs (G2 ++ [.cells true 2 (flatP l)]) l (.slice (some ⟨G2.length, 0, none⟩) l.length l.length) := Pairs.last l.length
  have x3 : Ext G2 (G2 ++ [AObj.cells true 2 (flatP l)]) := (Ext.refl G2).app _
  ((repeat (first | refine ya (by (with_reducible constructor) <;> first | rfl | decide) ?_ | apply yb | refine yc rfl ?_ | ((first | apply yd | apply ye); simp (disch := first | exact yn | omega | (simp only [go_sem]; done) | (simp only [ln, ym]; omega) | (repeat' first | assumption | exact yo _ | refine yp ?_ _)) only [go_sem]; with_reducible rfl))))
  generalize (G2 ++ [AObj.cells true 2 (flatP l)] : AHeap) = G3 at hC x3
  have ip : (l.getD 0 (0, 0)).1 ≤ p ∧ p ≤ (l.getD (l.length - 1) (0, 0)).1 := by rw [hA, hZ]; omega
  have iq : (l.getD 0 (0, 0)).1 ≤ q ∧ q ≤ (l.getD (l.length - 1) (0, 0)).1 := by rw [hA, hZ]; omega
  have hTp := fun (J : AHeap) (w : Value) (hw : Pairs J l w) => sTimeAtF_c (n := p) hw (by omega)
  have hTq := fun (J : AHeap) (w : Value) (hw : Pairs J l w) => sTimeAtF_c (n := q) hw (by omega)
  simp only [timeAt_in hok ip.1 ip.2] at hTp
  simp only [timeAt_in hok iq.1 iq.2] at hTq
  (refine aops_call_to (hTp _ _ hC) ?_)
  have g0 := x3.cell g0
  have c5 := x3.cell c5
  have c6 := x3.cell c6
  have k3 := k2.ext x3
  obtain ⟨⟨b1, b2, b3, b4⟩, b5, b6⟩ := map_back hok ip.1 ip.2
  obtain ⟨⟨e1, e2, e3, e4⟩, -, -⟩ := map_back hok iq.1 iq.2
  rw [hA] at b1 e1
  rw [hZ] at b4 e4
  have up1 := fun hpq : p ≤ q => mapTimLo_up hok ip.1 hpq iq.2
  have up2 := fun hpq : p ≤ q => mapTimHi_up hok ip.1 hpq iq.2
  have j1 : (l.getD 0 (0, 0)).2 ≤ mapTimLo l p ∧ mapTimLo l p ≤ (l.getD (l.length - 1) (0, 0)).2 := by rw [hA, hZ]; omega
  have j2 : (l.getD 0 (0, 0)).2 ≤ mapTimHi l p ∧ mapTimHi l p ≤ (l.getD (l.length - 1) (0, 0)).2 := by rw [hA, hZ]; omega
  have u1 := mapPosLo_up hok j1.1 b2 j2.2
  have u2 := mapPosHi_up hok j1.1 b2 j2.2
  have nd0 := (map_node hok (i := 0) (by omega)).2
  have ndE := (map_node hok (i := l.length - 1) (by omega)).2
  have v1 := mapPosLo_up hok (Int.le_refl _) j1.1 j1.2
  have v2 := mapPosHi_up hok j2.1 j2.2 (Int.le_refl _)
  rw [nd0.1, hA] at v1
  rw [ndE.2, hZ] at v2
  have v3 := fun t : Int => posLo_hi (p := pieceT l t) (t := t)
  have hPlo := fun (J : AHeap) (w : Value) (hw : Pairs J l w) => positionAt_c (t := mapTimLo l p) hw (by omega)
  have hPhi := fun (J : AHeap) (w : Value) (hw : Pairs J l w) => positionAt_c (t := mapTimHi l p) hw (by omega)
  simp only [psAt_in hok j1.1 j1.2] at hPlo
  simp only [psAt_in hok j2.1 j2.2] at hPhi
  have w1 : mapPosLo l (mapTimLo l p) ≤ mapPosHi l (mapTimLo l p) := (v3 _).1
  have w2 : mapPosLo l (mapTimHi l p) ≤ mapPosHi l (mapTimHi l p) := (v3 _).1
  clear v3 nd0 ndE
  generalize mapPosLo l (mapTimLo l p) = pa at *
  generalize mapPosHi l (mapTimLo l p) = pb at *
  generalize mapPosLo l (mapTimHi l p) = pc at *
  generalize mapPosHi l (mapTimHi l p) = pd at *
  generalize mapTimLo l p = tl at *
  generalize mapTimHi l p = th at *
  generalize mapTimLo l q = ul at *
  generalize mapTimHi l q = uh at *
  ((repeat (first | refine ya (by (with_reducible constructor) <;> first | rfl | decide) ?_ | apply yb | refine yc rfl ?_ | ((first | apply yd | apply ye); simp (disch := first | exact yn | omega | (simp only [go_sem]; done) | (simp only [ln, ym]; omega) | (repeat' first | assumption | exact yo _ | refine yp ?_ _)) only [go_sem, store_newF]; with_reducible rfl))))
  have c9 : (G3 ++ [AObj.cells true 0 [.int .i64 tl, .int .i64 th]])[G3.length]? = some (.cells true 0 [.int .i64 tl, .int .i64 th]) := at_new
  have x4 : Ext G3 (G3 ++ [AObj.cells true 0 [.int .i64 tl, .int .i64 th]]) := (Ext.refl G3).app _
  generalize (G3 ++ [AObj.cells true 0 [.int .i64 tl, .int .i64 th]] : AHeap) = G4 at c9 x4
  have g0 := x4.cell g0
  have c5 := x4.cell c5
  have c6 := x4.cell c6
  have k4 := k3.ext x4
  ((repeat (first | refine ya (by (with_reducible constructor) <;> first | rfl | decide) ?_ | apply yb | refine yc rfl ?_ | ((first | apply yd | apply ye); simp (disch := first | exact yn | omega | (simp only [go_sem]; done) | (simp only [ln, ym]; omega) | (repeat' first | assumption | exact yo _ | refine yp ?_ _)) only [go_sem, n1_at g0]; with_reducible rfl))))
  (refine aops_call_to (copyMap_c k4 (by omega)) ?_)
  have hC : Pairs (G4 ++ [.cells true 2 (flatP l)]) l (.slice (some ⟨G4.length, 0, none⟩) l.length l.length) := Pairs.last l.length
  have x5 : Ext G4 (G4 ++ [AObj.cells true 2 (flatP l)]) := (Ext.refl G4).app _
  ((repeat (first | refine ya (by (with_reducible constructor) <;> first | rfl | decide) ?_ | apply yb | refine yc rfl ?_ | ((first | apply yd | apply ye); simp (disch := first | exact yn | omega | (simp only [go_sem]; done) | (simp only [ln, ym]; omega) | (repeat' first | assumption | exact yo _ | refine yp ?_ _)) only [go_sem]; with_reducible rfl))))
  generalize (G4 ++ [AObj.cells true 2 (flatP l)] : AHeap) = G5 at hC x5
  (refine aops_call_to (hTq _ _ hC) ?_)
  have g0 := x5.cell g0
  have c5 := x5.cell c5
  have c6 := x5.cell c6
  have c9 := x5.cell c9
  have k5 := k4.ext x5
  ((repeat (first | refine ya (by (with_reducible constructor) <;> first | rfl | decide) ?_ | apply yb | refine yc rfl ?_)); (first | apply aops_all | apply adraw_all); simp (disch := first | exact yn | omega | (simp only [go_sem]; done) | (simp only [ln, ym]; omega) | (repeat' first | assumption | exact yo _ | refine yp ?_ _)) only [go_sem, store_newF]; with_reducible rfl)
  (repeat (first | refine q8 ?_ | refine q1 ?_))
  have c11 : (G5 ++ [AObj.cells true 0 [.int .i64 ul, .int .i64 uh]])[G5.length]? = some (.cells true 0 [.int .i64 ul, .int .i64 uh]) := at_new
  have x6 : Ext G5 (G5 ++ [AObj.cells true 0 [.int .i64 ul, .int .i64 uh]]) := (Ext.refl G5).app _
  generalize (G5 ++ [AObj.cells true 0 [.int .i64 ul, .int .i64 uh]] : AHeap) = G6 at c11 x6
  have g0 := x6.cell g0
  have c5 := x6.cell c5
  have c6 := x6.cell c6
  have c9 := x6.cell c9
  have k6 := k5.ext x6
  refine awp_mid [false, false, true, true, true, true, true, true, false, true, false, false, false, false, false, false, false, false, false, false, false, false, false, false, false, false, false, false, false, false, false, false, false, false, false, false, false, false, false, false, false, false, false, false, false, false, false, false, false, false, false, false, false, false, false, false, false, false, false, false, false, false, false, false, false, false, false, false, false, false, false, false, false, false, false, false, false, false, false, false, false, false, false, false, false, false, false, false, false, false, false, false, false, false, false, false, false, false, false, false, false, false, false, false, false, false, false, false, false, false, false, false, false, false, false, false, false, false, false, false, false, false, false, false, true, false, false, false, false, false, false, false, false, false, false, false, false, false, false, false, false, false, false, false, false, false, false, false, false, false, false, false, false, false, false, false, false, false, false, false, false, false, false, false, false, false, false, false, false, false, false, false, false, false, false, false, false, false, false, false, false, false, false, false, false, false, false, false, false, false, false, false, false, false, false, false, false, false, false, false, false, false, false, false, false, false, false, false, false, false, false, false, false, false, false, false, false, false, false, false, false, false, false, false, false, false, false, false, false, false, false, false, false, false, false, false, false, false, false, false, false, false, false, false, false, false, false, false, false, false, false, false] (fun e J => J = G6 ∧ e = [junk, junk, .pointer (some ⟨H.length, 0, none⟩), .pointer (some ⟨H.length + 1, 0, none⟩), .bool false, .pointer (some ⟨G.length, 0, none⟩), .pointer (some ⟨G.length + 1, 0, none⟩), .int .i64 p, junk, .pointer (some ⟨G3.length, 0, none⟩), junk, junk, junk, junk, junk, junk, junk, junk, junk, junk, junk, junk, junk, junk, junk, junk, junk, junk, junk, junk, junk, junk, junk, junk, junk, junk, junk, junk, junk, junk, junk, junk, junk, junk, junk, junk, junk, junk, junk, junk, junk, junk, junk, junk, junk, junk, junk, junk, junk, junk, junk, junk, junk, junk, junk, junk, junk, junk, junk, junk, junk, junk, junk, junk, junk, junk, junk, junk, junk, junk, junk, junk, junk, junk, junk, junk, junk, junk, junk, junk, junk, junk, junk, junk, junk, junk, junk, junk, junk, junk, junk, junk, junk, junk, junk, junk, junk, junk, junk, junk, junk, junk, junk, junk, junk, junk, junk, junk, junk, junk, junk, junk, junk, junk, .bool false, junk, junk, junk, junk, junk, junk, junk, junk, junk, junk, junk, junk, junk, junk, junk, junk, junk, junk, junk, junk, junk, junk, junk, junk, junk, junk, junk, junk, junk, junk, junk, junk, junk, junk, junk, junk, junk, junk, junk, junk, junk, junk, junk, junk, junk, junk, junk, junk, junk, junk, junk, junk, junk, junk, junk, junk, junk, junk, junk, junk, junk, junk, junk, junk, junk, junk, junk, junk, junk, junk, junk, junk, junk, junk, junk, junk, junk, junk, junk, junk, junk, junk, junk, junk, junk, junk, junk, junk, junk, junk, junk, junk, junk, junk, junk, junk, junk, junk, junk, junk, junk, junk, junk, junk, junk, junk, junk, junk, junk, junk, junk, junk, junk, junk, junk, junk, junk, junk, junk, junk, junk, junk, junk, junk, junk, junk, junk]) ?_ ?_
  · ((repeat (first | refine ya (by (with_reducible constructor) <;> first | rfl | decide) ?_ | apply yb | refine yc rfl ?_ | ((first | apply yd | apply ye); simp (disch := first | exact yn | omega | (simp only [go_sem]; done) | (simp only [ln, ym]; omega) | (repeat' first | assumption | exact yo _ | refine yp ?_ _)) only [go_sem, load_at c9, load_at c5]; with_reducible rfl))))
    (refine aops_call_to (bwithin_c _ _ _) ?_)
    have dt : decide (A.2 ≤ tl ∧ tl ≤ th) = true := dec_t ⟨b1, b2⟩
    by_cases hpq : p ≤ q
    · have a1 := up1 hpq
      have a2 := up2 hpq
      ((repeat (first | refine ya (by (with_reducible constructor) <;> first | rfl | decide) ?_ | apply yb | refine yc rfl ?_ | ((first | apply yd | apply ye); simp (disch := first | exact yn | omega | (simp only [go_sem]; done) | (simp only [ln, ym]; omega) | (repeat' first | assumption | exact yo _ | refine yp ?_ _)) only [go_sem, dt, load_at c9, load_at c6, load_at c11, dec_f (show ¬ Z.2 < th by omega), dec_f (show ¬ tl < th - 1 by omega), dec_t hpq, dec_f (show ¬ ul < tl by omega), dec_f (show ¬ uh < th by omega)]; with_reducible rfl))))
      exact ⟨rfl, rfl, by simp [forget]⟩
    · ((repeat (first | refine ya (by (with_reducible constructor) <;> first | rfl | decide) ?_ | apply yb | refine yc rfl ?_ | ((first | apply yd | apply ye); simp (disch := first | exact yn | omega | (simp only [go_sem]; done) | (simp only [ln, ym]; omega) | (repeat' first | assumption | exact yo _ | refine yp ?_ _)) only [go_sem, dt, load_at c9, load_at c6, dec_f (show ¬ Z.2 < th by omega), dec_f (show ¬ tl < th - 1 by omega), dec_f hpq]; with_reducible rfl))))
      exact ⟨rfl, rfl, by simp [forget]⟩
  rintro e J ⟨rfl, rfl⟩
  ((repeat (first | refine ya (by (with_reducible constructor) <;> first | rfl | decide) ?_ | apply yb | refine yc rfl ?_ | ((first | apply yd | apply ye); simp (disch := first | exact yn | omega | (simp only [go_sem]; done) | (simp only [ln, ym]; omega) | (repeat' first | assumption | exact yo _ | refine yp ?_ _)) only [go_sem]; with_reducible rfl))))
  refine cond_f rfl ?_
  ((repeat (first | refine ya (by (with_reducible constructor) <;> first | rfl | decide) ?_ | apply yb | refine yc rfl ?_ | ((first | apply yd | apply ye); simp (disch := first | exact yn | omega | (simp only [go_sem]; done) | (simp only [ln, ym]; omega) | (repeat' first | assumption | exact yo _ | refine yp ?_ _)) only [go_sem, n1_at g0]; with_reducible rfl))))
  refine adraw_call (N := [.cells true 2 (flatP l)]) (copyMap_c k6 (by omega)) ?_
  have hC : Pairs (J ++ [.cells true 2 (flatP l)]) l (.slice (some ⟨J.length, 0, none⟩) l.length l.length) := Pairs.last l.length
  have x7 : Ext J (J ++ [AObj.cells true 2 (flatP l)]) := (Ext.refl J).app _
  generalize (J ++ [AObj.cells true 2 (flatP l)] : AHeap) = G7 at hC x7
  have g0 := x7.cell g0
  have c5 := x7.cell c5
  have c6 := x7.cell c6
  have c9 := x7.cell c9
  have k7 := k6.ext x7
  ((repeat (first | refine ya (by (with_reducible constructor) <;> first | rfl | decide) ?_ | apply yb | refine yc rfl ?_ | ((first | apply yd | apply ye); simp (disch := first | exact yn | omega | (simp only [go_sem]; done) | (simp only [ln, ym]; omega) | (repeat' first | assumption | exact yo _ | refine yp ?_ _)) only [go_sem, load_at c9]; with_reducible rfl))))
  (refine adraw_call (N := []) (firstD (hPlo _ _ hC)) ?_; rw [List.append_nil])
  have c13 : (G7 ++ [AObj.cells true 0 [.int .i64 pa, .int .i64 pb]])[G7.length]? = some (.cells true 0 [.int .i64 pa, .int .i64 pb]) := at_new
  have x8 : Ext G7 (G7 ++ [AObj.cells true 0 [.int .i64 pa, .int .i64 pb]]) := (Ext.refl G7).app _
  (repeat (first | refine ya (by (with_reducible constructor) <;> first | rfl | decide) ?_ | (apply ye; simp (disch := first | exact yn | omega | (simp only [go_sem]; done) | (simp only [ln, ym]; omega) | (repeat' first | assumption | exact yo _ | refine yp ?_ _)) only [go_sem, fracV]; with_reducible rfl)))
  generalize (G7 ++ [AObj.cells true 0 [.int .i64 pa, .int .i64 pb]] : AHeap) = G8 at c13 x8
  have g0 := x8.cell g0
  have c5 := x8.cell c5
  have c6 := x8.cell c6
  have c9 := x8.cell c9
  have k8 := k7.ext x8
  ((repeat (first | refine ya (by (with_reducible constructor) <;> first | rfl | decide) ?_ | apply yb | refine yc rfl ?_ | ((first | apply yd | apply ye); simp (disch := first | exact yn | omega | (simp only [go_sem]; done) | (simp only [ln, ym]; omega) | (repeat' first | assumption | exact yo _ | refine yp ?_ _)) only [go_sem, n1_at g0]; with_reducible rfl))))
  refine adraw_call (N := [.cells true 2 (flatP l)]) (copyMap_c k8 (by omega)) ?_
  have hC : Pairs (G8 ++ [.cells true 2 (flatP l)]) l (.slice (some ⟨G8.length, 0, none⟩) l.length l.length) := Pairs.last l.length
  have x9 : Ext G8 (G8 ++ [AObj.cells true 2 (flatP l)]) := (Ext.refl G8).app _
  generalize (G8 ++ [AObj.cells true 2 (flatP l)] : AHeap) = G9 at hC x9
  have g0 := x9.cell g0
  have c5 := x9.cell c5
  have c6 := x9.cell c6
  have c9 := x9.cell c9
  have c13 := x9.cell c13
  have k9 := k8.ext x9
  ((repeat (first | refine ya (by (with_reducible constructor) <;> first | rfl | decide) ?_ | apply yb | refine yc rfl ?_ | ((first | apply yd | apply ye); simp (disch := first | exact yn | omega | (simp only [go_sem]; done) | (simp only [ln, ym]; omega) | (repeat' first | assumption | exact yo _ | refine yp ?_ _)) only [go_sem, load_at c9]; with_reducible rfl))))
  (refine adraw_call (N := []) (firstD (hPhi _ _ hC)) ?_; rw [List.append_nil])
  have c15 : (G9 ++ [AObj.cells true 0 [.int .i64 pc, .int .i64 pd]])[G9.length]? = some (.cells true 0 [.int .i64 pc, .int .i64 pd]) := at_new
  have x10 : Ext G9 (G9 ++ [AObj.cells true 0 [.int .i64 pc, .int .i64 pd]]) := (Ext.refl G9).app _
  (repeat (first | refine ya (by (with_reducible constructor) <;> first | rfl | decide) ?_ | (apply ye; simp (disch := first | exact yn | omega | (simp only [go_sem]; done) | (simp only [ln, ym]; omega) | (repeat' first | assumption | exact yo _ | refine yp ?_ _)) only [go_sem, fracV]; with_reducible rfl)))
  generalize (G9 ++ [AObj.cells true 0 [.int .i64 pc, .int .i64 pd]] : AHeap) = G10 at c15 x10
  have g0 := x10.cell g0
  have c5 := x10.cell c5
  have c6 := x10.cell c6
  have c13 := x10.cell c13
  have k10 := k9.ext x10
  ((repeat (first | refine ya (by (with_reducible constructor) <;> first | rfl | decide) ?_ | apply yb | refine yc rfl ?_ | ((first | apply yd | apply ye); simp (disch := first | exact yn | omega | (simp only [go_sem]; done) | (simp only [ln, ym]; omega) | (repeat' first | assumption | exact yo _ | refine yp ?_ _)) only [go_sem, load_at c13, load_at c15, load_at c5, load_at c6, dec_f (show ¬ 64 * p < pa by omega), dec_f (show ¬ pd < 64 * p by omega), dec_f (show ¬ pc < pa by omega), dec_f (show ¬ pd < pb by omega), dec_f (show ¬ pb < pa by omega), dec_f (show ¬ pa < 64 * A.1 by omega), dec_f (show ¬ 64 * Z.1 < pd by omega)]; with_reducible rfl))))
  refine cond_f rfl ?_
  ((repeat (first | refine ya (by (with_reducible constructor) <;> first | rfl | decide) ?_ | apply yb | refine yc rfl ?_ | ((first | apply yd | apply ye); simp (disch := first | exact yn | omega | (simp only [go_sem]; done) | (simp only [ln, ym]; omega) | (repeat' first | assumption | exact yo _ | refine yp ?_ _)) only [go_sem]; with_reducible rfl))))
  refine awp_loop_n [false, false, true, false, true, false, false, false, false, false, false, false, false, false, false, false, false, true, false, false, false, false, false, false, false, false, false, false, false, false, false, false, false, false, false, false, false, false, false, false, false, false, false, false, false, false, false, false, false, false, false, false, false, false, false, false, false, false, false, false, false, false, false, false, false, false, false, false, false, false, false, false, false, false, false, false, false, false, false, false, false, false, false, false, false, false, false, false, false, false, false, false, false, false, false, false, false, false, false, false, false, false, false, false, false, false, false, false, false, false, false, false, false, false, false, false, false, false, false, false, false, false, false, false, false, false, false, false, false, false, false, false, false, false, false, false, false, false, false, false, false, false, false, false, false, false, false, false, false, false, false, false, false, false, false, false, false, false, false, false, false, false, false, false, false, false, false, false, false, false, false, false, false, false, false, false, false, false, false, false, false, false, false, false, false, false, false, false, false, false, false, false, false, false, false, false, false, false, false, false, false, false, false, false, false, false, false, false, false, false, false, false, false, false, false, false, false, false, false, false, false, false, false, false, false, false, false, false, false, false, false, false, false, false, false, false, false, false, false, false, false, false, false, false, false, false, false, false, false, false, false, false] l.length (fun i e J => e = [junk, junk, .pointer (some ⟨H.length, 0, none⟩), junk, .bool false, junk, junk, junk, junk, junk, junk, junk, junk, junk, junk, junk, junk, .int .i64 i, junk, junk, junk, junk, junk, junk, junk, junk, junk, junk, junk, junk, junk, junk, junk, junk, junk, junk, junk, junk, junk, junk, junk, junk, junk, junk, junk, junk, junk, junk, junk, junk, junk, junk, junk, junk, junk, junk, junk, junk, junk, junk, junk, junk, junk, junk, junk, junk, junk, junk, junk, junk, junk, junk, junk, junk, junk, junk, junk, junk, junk, junk, junk, junk, junk, junk, junk, junk, junk, junk, junk, junk, junk, junk, junk, junk, junk, junk, junk, junk, junk, junk, junk, junk, junk, junk, junk, junk, junk, junk, junk, junk, junk, junk, junk, junk, junk, junk, junk, junk, junk, junk, junk, junk, junk, junk, junk, junk, junk, junk, junk, junk, junk, junk, junk, junk, junk, junk, junk, junk, junk, junk, junk, junk, junk, junk, junk, junk, junk, junk, junk, junk, junk, junk, junk, junk, junk, junk, junk, junk, junk, junk, junk, junk, junk, junk, junk, junk, junk, junk, junk, junk, junk, junk, junk, junk, junk, junk, junk, junk, junk, junk, junk, junk, junk, junk, junk, junk, junk, junk, junk, junk, junk, junk, junk, junk, junk, junk, junk, junk, junk, junk, junk, junk, junk, junk, junk, junk, junk, junk, junk, junk, junk, junk, junk, junk, junk, junk, junk, junk, junk, junk, junk, junk, junk, junk, junk, junk, junk, junk, junk, junk, junk, junk, junk, junk, junk, junk, junk, junk, junk, junk, junk, junk, junk, junk, junk, junk, junk, junk, junk, junk, junk, junk] ∧ Ext G10 J) ?_ ?_
  · exact ⟨by simp [forget], Ext.refl _⟩
  rintro i e J2 hi ⟨rfl, xJ⟩
  have g0 := xJ.cell g0
  have k11 := k10.ext xJ
  ((repeat (first | refine ya (by (with_reducible constructor) <;> first | rfl | decide) ?_ | apply yb | refine yc rfl ?_ | ((first | apply yd | apply ye); simp (disch := first | exact yn | omega | (simp only [go_sem]; done) | (simp only [ln, ym]; omega) | (repeat' first | assumption | exact yo _ | refine yp ?_ _)) only [go_sem, k11.len, k11.idx, k11.load, load_at g0]; with_reducible rfl))))
  refine cond_p rfl (fun hlt => ?_) (fun hge => ?_)
  rotate_left 1
  · ((repeat (first | refine ya (by (with_reducible constructor) <;> first | rfl | decide) ?_ | apply yb | refine yc rfl ?_ | ((first | apply yd | apply ye); simp (disch := first | exact yn | omega | (simp only [go_sem]; done) | (simp only [ln, ym]; omega) | (repeat' first | assumption | exact yo _ | refine yp ?_ _)) only [go_sem]; with_reducible rfl))))
    exact fin_1 rfl
  have hi' : i < l.length := by omega
  have nd := map_node hok hi'
  have pi := hok.pos i hi'
  have li0 := hok.posLe (i := 0) (j := i) (by omega) hi'
  have liE := hok.posLe (i := i) (j := l.length - 1) (by omega) (by omega)
  have mi0 := hok.timeLe (i := 0) (j := i) (by omega) hi'
  have miE := hok.timeLe (i := i) (j := l.length - 1) (by omega) (by omega)
  have hT := fun (J : AHeap) (w : Value) (hw : Pairs J l w) => sTimeAtF_c (n := (l.getD i (0, 0)).1) hw (by omega)
  have hP := fun (J : AHeap) (w : Value) (hw : Pairs J l w) => positionAt_c (t := (l.getD i (0, 0)).2) hw (by omega)
  simp only [timeAt_in hok li0 liE, nd] at hT
  simp only [psAt_in hok mi0 miE, nd] at hP
  (repeat (first | refine ya (by (with_reducible constructor) <;> first | rfl | decide) ?_ | (apply yd; simp (disch := first | exact yn | omega | (simp only [go_sem]; done) | (simp only [ln, ym]; omega) | (repeat' first | assumption | exact yo _ | refine yp ?_ _)) only [go_sem, k11.len, k11.idx, k11.load, load_at g0, store_new2]; with_reducible rfl)))
  obtain ⟨n, hn⟩ : ∃ n, l.getD i (0, 0) = n := ⟨_, rfl⟩
  rw [hn] at hT hP pi ⊢
  have c18 : (J2 ++ [AObj.cells true 0 [.int .i64 n.1, .int .i64 n.2]])[J2.length]? = some (.cells true 0 [.int .i64 n.1, .int .i64 n.2]) := at_new
  have x12 : Ext J2 (J2 ++ [AObj.cells true 0 [.int .i64 n.1, .int .i64 n.2]]) := (Ext.refl J2).app _
  generalize (J2 ++ [AObj.cells true 0 [.int .i64 n.1, .int .i64 n.2]] : AHeap) = G12 at c18 x12
  have g0 := x12.cell g0
  have k12 := k11.ext x12
  have xJ := xJ.trans x12
  ((repeat (first | refine ya (by (with_reducible constructor) <;> first | rfl | decide) ?_ | apply yb | refine yc rfl ?_ | ((first | apply yd | apply ye); simp (disch := first | exact yn | omega | (simp only [go_sem]; done) | (simp only [ln, ym]; omega) | (repeat' first | assumption | exact yo _ | refine yp ?_ _)) only [go_sem, n1_at g0]; with_reducible rfl))))
  refine adraw_call (N := [.cells true 2 (flatP l)]) (copyMap_c k12 (by omega)) ?_
  have hC : Pairs (G12 ++ [.cells true 2 (flatP l)]) l (.slice (some ⟨G12.length, 0, none⟩) l.length l.length) := Pairs.last l.length
  have x13 : Ext G12 (G12 ++ [AObj.cells true 2 (flatP l)]) := (Ext.refl G12).app _
  generalize (G12 ++ [AObj.cells true 2 (flatP l)] : AHeap) = G13 at hC x13
  have g0 := x13.cell g0
  have c18 := x13.cell c18
  have k13 := k12.ext x13
  have xJ := xJ.trans x13
  ((repeat (first | refine ya (by (with_reducible constructor) <;> first | rfl | decide) ?_ | apply yb | refine yc rfl ?_ | ((first | apply yd | apply ye); simp (disch := first | exact yn | omega | (simp only [go_sem]; done) | (simp only [ln, ym]; omega) | (repeat' first | assumption | exact yo _ | refine yp ?_ _)) only [go_sem, load_at c18]; with_reducible rfl))))
  (refine adraw_call (N := []) (firstD (hT _ _ hC)) ?_; rw [List.append_nil])
  have c19 : (G13 ++ [AObj.cells true 0 [.int .i64 n.2, .int .i64 n.2]])[G13.length]? = some (.cells true 0 [.int .i64 n.2, .int .i64 n.2]) := at_new
  have x14 : Ext G13 (G13 ++ [AObj.cells true 0 [.int .i64 n.2, .int .i64 n.2]]) := (Ext.refl G13).app _
  (repeat (first | refine ya (by (with_reducible constructor) <;> first | rfl | decide) ?_ | (apply ye; simp (disch := first | exact yn | omega | (simp only [go_sem]; done) | (simp only [ln, ym]; omega) | (repeat' first | assumption | exact yo _ | refine yp ?_ _)) only [go_sem, fracV]; with_reducible rfl)))
  generalize (G13 ++ [AObj.cells true 0 [.int .i64 n.2, .int .i64 n.2]] : AHeap) = G14 at c19 x14
  have g0 := x14.cell g0
  have c18 := x14.cell c18
  have k14 := k13.ext x14
  have xJ := xJ.trans x14
  ((repeat (first | refine ya (by (with_reducible constructor) <;> first | rfl | decide) ?_ | apply yb | refine yc rfl ?_ | ((first | apply yd | apply ye); simp (disch := first | exact yn | omega | (simp only [go_sem]; done) | (simp only [ln, ym]; omega) | (repeat' first | assumption | exact yo _ | refine yp ?_ _)) only [go_sem, n1_at g0]; with_reducible rfl))))
  refine adraw_call (N := [.cells true 2 (flatP l)]) (copyMap_c k14 (by omega)) ?_
  have hC : Pairs (G14 ++ [.cells true 2 (flatP l)]) l (.slice (some ⟨G14.length, 0, none⟩) l.length l.length) := Pairs.last l.length
  have x15 : Ext G14 (G14 ++ [AObj.cells true 2 (flatP l)]) := (Ext.refl G14).app _
  generalize (G14 ++ [AObj.cells true 2 (flatP l)] : AHeap) = G15 at hC x15
  have c18 := x15.cell c18
  have c19 := x15.cell c19
  have xJ := xJ.trans x15
  ((repeat (first | refine ya (by (with_reducible constructor) <;> first | rfl | decide) ?_ | apply yb | refine yc rfl ?_ | ((first | apply yd | apply ye); simp (disch := first | exact yn | omega | (simp only [go_sem]; done) | (simp only [ln, ym]; omega) | (repeat' first | assumption | exact yo _ | refine yp ?_ _)) only [go_sem, load_at c18]; with_reducible rfl))))
  (refine adraw_call (N := []) (firstD (hP _ _ hC)) ?_; rw [List.append_nil])
  have c21 : (G15 ++ [AObj.cells true 0 [.int .i64 (64 * n.1), .int .i64 (64 * n.1)]])[G15.length]? = some (.cells true 0 [.int .i64 (64 * n.1), .int .i64 (64 * n.1)]) := at_new
  have x16 : Ext G15 (G15 ++ [AObj.cells true 0 [.int .i64 (64 * n.1), .int .i64 (64 * n.1)]]) := (Ext.refl G15).app _
  (repeat (first | refine ya (by (with_reducible constructor) <;> first | rfl | decide) ?_ | (apply ye; simp (disch := first | exact yn | omega | (simp only [go_sem]; done) | (simp only [ln, ym]; omega) | (repeat' first | assumption | exact yo _ | refine yp ?_ _)) only [go_sem, fracV]; with_reducible rfl)))
  generalize (G15 ++ [AObj.cells true 0 [.int .i64 (64 * n.1), .int .i64 (64 * n.1)]] : AHeap) = G16 at c21 x16
  have c18 := x16.cell c18
  have c19 := x16.cell c19
  have xJ := xJ.trans x16
  ((repeat (first | refine ya (by (with_reducible constructor) <;> first | rfl | decide) ?_ | apply yb | refine yc rfl ?_ | ((first | apply yd | apply ye); simp (disch := first | exact yn | omega | (simp only [go_sem]; done) | (simp only [ln, ym]; omega) | (repeat' first | assumption | exact yo _ | refine yp ?_ _)) only [go_sem, n2_at c19, n2_at c21, load_at c18, fill2i, decide_eq_self, bne_self_eq_false]; with_reducible rfl))))
  refine cond_f rfl ?_
  ((repeat (first | refine ya (by (with_reducible constructor) <;> first | rfl | decide) ?_ | apply yb | refine yc rfl ?_ | ((first | apply yd | apply ye); simp (disch := first | exact yn | omega | (simp only [go_sem]; done) | (simp only [ln, ym]; omega) | (repeat' first | assumption | exact yo _ | refine yp ?_ _)) only [go_sem]; with_reducible rfl))))
  exact ⟨by omega, by simp [forget], xJ⟩
end Go.Lq

namespace Go.Lq
open Go Go.ChangeShapes Go.WideShapes Go.ChangeAt Go.RowKit
open Go.Proofs

set_option maxRecDepth 100000 in
theorem lifted7 (os : Os) (started : os.Started) (X : Type) (enc : TypeId × Value → X) :
    ReturnsInHanded {} Try.checked os 7 .any (Yteimgikhanhgiaa.Rows.speedThereAndBackSpec.pre6 enc Try.prog Try.f7 [] false) (Yteimgikhanhgiaa.Rows.speedThereAndBackSpec.post enc Try.prog Try.f7 false true false false) := by
  refine returnsInHanded_of_plain_shaped (C := Try.checked) own_knob started (by kernel_rfl) Try.func7
    (ChangeSpec.witness6 (enc := enc) (C := Try.checked) false ⟨#[], #[.agg #[.slice none 0 0], .agg #[.int .i64 0, .int .i64 0]], []⟩ 12 (by kernel_rfl) (by kernel_rfl) (by kernel_rfl) (by kernel_rfl)) ?_
  intro W base args ds gs before hsh hval hW
  have hWw := hW
  obtain ⟨p, q, hA, _⟩ := hW
  refine (calls_of_law (d := 20) (of_shaped hsh) globs glob_at hA (fun j t v h1 h2 => hval j t v (by simpa using h1) (by simpa using h2)) (by kernel_rfl) fun H avs hx h => ?_).mono fun e W' ⟨he, hB⟩ => ?_
  · exact law7 (by rw [show Try.f7.params = #[42, 70] from Try.params7] at h; exact h)
  · subst he
    exact ⟨_, rfl, law_post (bt := 4) laid_out rfl Try.underlying4 (by kernel_rfl) (by kernel_rfl) hWw (fun ds hd => by
      rw [show Try.f7.params = #[42, 70] from Try.params7] at hd
      match ds, hd with
      | [a, b], _ => rfl) hB⟩
theorem unf7 : Try.prog.unfollowed 7 = true := by kernel_rfl
theorem rec7 : Try.prog.recurses 7 = true := by kernel_rfl
theorem named7 : Try.prog.varsNamed 7 = Yteimgikhanhgiaa.Rows.speedThereAndBackRow.named := by kernel_rfl
theorem facts7 : joinedFacts Try.prog 7 Try.f7 Yteimgikhanhgiaa.Rows.speedThereAndBackSpec Yteimgikhanhgiaa.Rows.speedThereAndBackRow = true := by
  unfold joinedFacts
  rw [may_enter, stops_heard, maps_rowed, laid_out, lifts_final, make_is, unf7, rec7, named7]
  kernel_rfl
theorem holds7 : Yteimgikhanhgiaa.Rows.SpeedThereAndBackSaid :=
  OpenClaim.holds_of_wide 7 Try.f7 rfl rfl rfl rfl rfl rfl rfl ⟨rfl, rfl, rfl, rfl, rfl⟩ rfl rfl rfl rfl rfl (by kernel_rfl) Try.func7 facts7
    (of_decide_eq_true (by kernel_rfl)) (by unfold Func.isWrapper; first | (rw [if_pos (by decide +kernel)]; kernel_rfl) | (rw [if_neg (by decide +kernel)]; exact ⟨rfl, rfl⟩))
    (fun os started H enc _ => lifted7 os started H enc)
end Go.Lq
namespace Go.Proofs.Yteimgikhanhgiaa
open Go Go.Lq
theorem speedThereAndBack_proved : Rows.SpeedThereAndBackSaid := holds7
end Go.Proofs.Yteimgikhanhgiaa
