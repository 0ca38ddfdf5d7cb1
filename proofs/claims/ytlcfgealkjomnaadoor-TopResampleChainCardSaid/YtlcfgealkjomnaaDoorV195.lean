/- TopResampleChain is proved: for every input that can be read the law returns true, and each argument reads afterwards as it read before; the listed package variables hold what the program's text lays (the card ties them). -/
import Derived.Test.YtlcfgealkjomnaaDoorV194
set_option linter.unusedSimpArgs false
set_option linter.unnecessarySimpa false
set_option linter.unusedVariables false
set_option maxRecDepth 100000
namespace Go.Lq
open Go
open Go.Proofs

theorem eq_two {f s d : Int} {x : List Int} (he : eqErrL f s d = 0) (hs : signalErrL x = 0) (hl : x.length ≤ 400) :
    ∃ Y er, equalizedL f s d x = (Y, er) ∧ ((er = 0 ∧ restoredL f s d Y = (x, 0) ∧ Y.length = x.length) ∨ (er = 23 ∧ Y = [])) := by
  cases hgo : eqGo f s d 0 0 x with
  | none => exact ⟨[], 23, by unfold equalizedL; rw [if_pos he, if_pos hs, hgo]; rfl, .inr ⟨rfl, rfl⟩⟩
  | some y =>
    have hyl := eqGo_len hgo
    have hyo := out_all (by omega) (eqGo_all hgo)
    exact ⟨y, 0, by unfold equalizedL; rw [if_pos he, if_pos hs, hgo]; rfl, .inl ⟨rfl, by unfold restoredL; rw [if_pos he, if_pos hyo, unGo_eqGo hgo], hyl⟩⟩
set_option maxRecDepth 100000 in
set_option maxHeartbeats 16000000 in
theorem law19 {H : AHeap} {avs : List Value} (hx : Ext H0 H) (h : RepAll Tryd.prog H [27, 60, 83] avs) : ACall Tryd.prog 19 avs H fun v _ => v = .bool true := by
  obtain ⟨w, a, b, rfl, h1, h2, h3⟩ := h.three
  obtain ⟨x, hX, hxm, _⟩ := h1.ints Tryd.underlying27 Tryd.underlying3 (by kernel_rfl)
  obtain ⟨f, s, d, rfl, _, _, _⟩ := repEqualizerT h2
  obtain ⟨v, c, e, rfl, hc, hcm, _, _⟩ := repFilter h3
  (refine a19 ?_; simp only [n19, List.replicate, yq, yr, yt, yu]; first | refine q1 ?_ | refine q2 ?_ | refine q6 ?_ | refine q7 ?_ | refine qh rfl ?_ | skip)
  obtain ⟨G, hG⟩ : ∃ G, G = H ++ [AObj.cells true 0 [.int .i64 f, .int .i64 s, .int .i64 d]] ++ [AObj.cells true 0 [v, .int .i64 e]] := ⟨_, rfl⟩
  have g4 : G[H.length]? = some (.cells true 0 [.int .i64 f, .int .i64 s, .int .i64 d]) := by rw [hG]; simp
  have g5 : G[H.length + 1]? = some (.cells true 0 [v, .int .i64 e]) := by rw [hG]; simp
  have xG : Ext H G := by rw [hG]; exact ((Ext.refl H).app _).app _
  (repeat (first | refine ya (by (with_reducible constructor) <;> first | rfl | decide) ?_ | (apply yd; simp (disch := first | exact yn | omega | (simp only [go_sem]; done) | (simp only [ln, ym]; omega) | (repeat' first | assumption | exact yo _ | refine yp ?_ _)) only [go_sem, box_3, hc.box2]; with_reducible rfl)))
  (simp only [List.length_append, List.length_cons, List.length_nil, Nat.zero_add, Nat.add_assoc, Nat.reduceAdd])
  rw [← hG]
  clear hG
  have hX0 := hX.ext xG
  have hc0 := hc.ext xG
  have hx0 := hx.trans xG
  refine aops_call_to (topAwake_c hx0) ?_
  ((repeat (first | refine ya (by (with_reducible constructor) <;> first | rfl | decide) ?_ | apply yb | refine yc rfl ?_ | ((first | apply yd | apply ye); simp (disch := first | exact yn | omega | (simp only [go_sem]; done) | (simp only [ln, ym]; omega) | (repeat' first | assumption | exact yo _ | refine yp ?_ _)) only [go_sem]; with_reducible rfl))))
  refine cond_f rfl ?_
  by_cases hn0 : x.length = 0
  · ((repeat (first | refine ya (by (with_reducible constructor) <;> first | rfl | decide) ?_ | apply yb | refine yc rfl ?_ | ((first | apply yd | apply ye); simp (disch := first | exact yn | omega | (simp only [go_sem]; done) | (simp only [ln, ym]; omega) | (repeat' first | assumption | exact yo _ | refine yp ?_ _)) only [go_sem, hX0.len, hX0.idx, hX0.load, dec_t (show (x.length : Int) = 0 by omega)]; with_reducible rfl))))
    refine cond_t rfl ?_
    ((repeat (first | refine ya (by (with_reducible constructor) <;> first | rfl | decide) ?_ | apply yb | refine yc rfl ?_ | ((first | apply yd | apply ye); simp (disch := first | exact yn | omega | (simp only [go_sem]; done) | (simp only [ln, ym]; omega) | (repeat' first | assumption | exact yo _ | refine yp ?_ _)) only [go_sem]; with_reducible rfl))))
    exact fin_1 rfl
  have z0 := dec_f (show ¬ (x.length : Int) = 0 by omega)
  by_cases h20 : x.length ≤ 20
  rotate_left 1
  · ((repeat (first | refine ya (by (with_reducible constructor) <;> first | rfl | decide) ?_ | apply yb | refine yc rfl ?_ | ((first | apply yd | apply ye); simp (disch := first | exact yn | omega | (simp only [go_sem]; done) | (simp only [ln, ym]; omega) | (repeat' first | assumption | exact yo _ | refine yp ?_ _)) only [go_sem, hX0.len, hX0.idx, hX0.load, z0, dec_t (show (20 : Int) < (x.length : Int) by omega)]; with_reducible rfl))))
    refine cond_t rfl ?_
    ((repeat (first | refine ya (by (with_reducible constructor) <;> first | rfl | decide) ?_ | apply yb | refine yc rfl ?_ | ((first | apply yd | apply ye); simp (disch := first | exact yn | omega | (simp only [go_sem]; done) | (simp only [ln, ym]; omega) | (repeat' first | assumption | exact yo _ | refine yp ?_ _)) only [go_sem]; with_reducible rfl))))
    exact fin_1 rfl
  ((repeat (first | refine ya (by (with_reducible constructor) <;> first | rfl | decide) ?_ | apply yb | refine yc rfl ?_ | ((first | apply yd | apply ye); simp (disch := first | exact yn | omega | (simp only [go_sem]; done) | (simp only [ln, ym]; omega) | (repeat' first | assumption | exact yo _ | refine yp ?_ _)) only [go_sem, hX0.len, hX0.idx, hX0.load, z0, dec_f (show ¬ (20 : Int) < (x.length : Int) by omega)]; with_reducible rfl))))
  refine aops_call_to (refSignalErr_c hX0 (by omega)) ?_
  by_cases hs : signalErrL x = 0
  rotate_left 1
  · ((repeat (first | refine ya (by (with_reducible constructor) <;> first | rfl | decide) ?_ | apply yb | refine yc rfl ?_ | ((first | apply yd | apply ye); simp (disch := first | exact yn | omega | (simp only [go_sem]; done) | (simp only [ln, ym]; omega) | (repeat' first | assumption | exact yo _ | refine yp ?_ _)) only [go_sem, dec_t (show signalErrL x ≠ 0 from hs)]; with_reducible rfl))))
    refine cond_t rfl ?_
    ((repeat (first | refine ya (by (with_reducible constructor) <;> first | rfl | decide) ?_ | apply yb | refine yc rfl ?_ | ((first | apply yd | apply ye); simp (disch := first | exact yn | omega | (simp only [go_sem]; done) | (simp only [ln, ym]; omega) | (repeat' first | assumption | exact yo _ | refine yp ?_ _)) only [go_sem]; with_reducible rfl))))
    exact fin_1 rfl
  obtain ⟨s1, s2⟩ := signalErr_ok hs
  ((repeat (first | refine ya (by (with_reducible constructor) <;> first | rfl | decide) ?_ | apply yb | refine yc rfl ?_ | ((first | apply yd | apply ye); simp (disch := first | exact yn | omega | (simp only [go_sem]; done) | (simp only [ln, ym]; omega) | (repeat' first | assumption | exact yo _ | refine yp ?_ _)) only [go_sem, hs, n3_at g4]; with_reducible rfl))))
  refine aops_call_to (refEqErr_c f s d) ?_
  by_cases he : eqErrL f s d = 0
  rotate_left 1
  · ((repeat (first | refine ya (by (with_reducible constructor) <;> first | rfl | decide) ?_ | apply yb | refine yc rfl ?_ | ((first | apply yd | apply ye); simp (disch := first | exact yn | omega | (simp only [go_sem]; done) | (simp only [ln, ym]; omega) | (repeat' first | assumption | exact yo _ | refine yp ?_ _)) only [go_sem, dec_t (show eqErrL f s d ≠ 0 from he)]; with_reducible rfl))))
    refine cond_t rfl ?_
    ((repeat (first | refine ya (by (with_reducible constructor) <;> first | rfl | decide) ?_ | apply yb | refine yc rfl ?_ | ((first | apply yd | apply ye); simp (disch := first | exact yn | omega | (simp only [go_sem]; done) | (simp only [ln, ym]; omega) | (repeat' first | assumption | exact yo _ | refine yp ?_ _)) only [go_sem]; with_reducible rfl))))
    exact fin_1 rfl
  by_cases hc8 : c.length ≤ 8
  rotate_left 1
  · ((repeat (first | refine ya (by (with_reducible constructor) <;> first | rfl | decide) ?_ | apply yb | refine yc rfl ?_ | ((first | apply yd | apply ye); simp (disch := first | exact yn | omega | (simp only [go_sem]; done) | (simp only [ln, ym]; omega) | (repeat' first | assumption | exact yo _ | refine yp ?_ _)) only [go_sem, hc0.len, hc0.idx, hc0.load, he, load_at g5, dec_t (show (8 : Int) < (c.length : Int) by omega)]; with_reducible rfl))))
    refine cond_t rfl ?_
    ((repeat (first | refine ya (by (with_reducible constructor) <;> first | rfl | decide) ?_ | apply yb | refine yc rfl ?_ | ((first | apply yd | apply ye); simp (disch := first | exact yn | omega | (simp only [go_sem]; done) | (simp only [ln, ym]; omega) | (repeat' first | assumption | exact yo _ | refine yp ?_ _)) only [go_sem]; with_reducible rfl))))
    exact fin_1 rfl
  ((repeat (first | refine ya (by (with_reducible constructor) <;> first | rfl | decide) ?_ | apply yb | refine yc rfl ?_ | ((first | apply yd | apply ye); simp (disch := first | exact yn | omega | (simp only [go_sem]; done) | (simp only [ln, ym]; omega) | (repeat' first | assumption | exact yo _ | refine yp ?_ _)) only [go_sem, hc0.len, hc0.idx, hc0.load, he, load_at g5, dec_f (show ¬ (8 : Int) < (c.length : Int) by omega), n2_at g5]; with_reducible rfl))))
  refine aops_call_to (refFilterErr_big hc0) ?_
  by_cases hf : filterErrL c e = 0
  rotate_left 1
  · ((repeat (first | refine ya (by (with_reducible constructor) <;> first | rfl | decide) ?_ | apply yb | refine yc rfl ?_ | ((first | apply yd | apply ye); simp (disch := first | exact yn | omega | (simp only [go_sem]; done) | (simp only [ln, ym]; omega) | (repeat' first | assumption | exact yo _ | refine yp ?_ _)) only [go_sem, dec_t (show filterErrL c e ≠ 0 from hf)]; with_reducible rfl))))
    refine cond_t rfl ?_
    ((repeat (first | refine ya (by (with_reducible constructor) <;> first | rfl | decide) ?_ | apply yb | refine yc rfl ?_ | ((first | apply yd | apply ye); simp (disch := first | exact yn | omega | (simp only [go_sem]; done) | (simp only [ln, ym]; omega) | (repeat' first | assumption | exact yo _ | refine yp ?_ _)) only [go_sem]; with_reducible rfl))))
    exact fin_1 rfl
  obtain ⟨f1, f2, f3, f4, f5⟩ := filterErr_ok hf
  ((repeat (first | refine ya (by (with_reducible constructor) <;> first | rfl | decide) ?_ | apply yb | refine yc rfl ?_ | ((first | apply yd | apply ye); simp (disch := first | exact yn | omega | (simp only [go_sem]; done) | (simp only [ln, ym]; omega) | (repeat' first | assumption | exact yo _ | refine yp ?_ _)) only [go_sem, hf]; with_reducible rfl))))
  refine cond_f rfl ?_
  -- resampled finely
  ((repeat (first | refine ya (by (with_reducible constructor) <;> first | rfl | decide) ?_ | apply yb | refine yc rfl ?_ | ((first | apply yd | apply ye); simp (disch := first | exact yn | omega | (simp only [go_sem]; done) | (simp only [ln, ym]; omega) | (repeat' first | assumption | exact yo _ | refine yp ?_ _)) only [go_sem]; with_reducible rfl))))
  refine aops_call_to (copyInts_c hX0 (by omega)) ?_
  have hX1 : Ints (G ++ [.cells true 1 (x.map (.int .i64))]) x (.slice (some ⟨G.length, 0, none⟩) x.length x.length) := Ints.last x.length
  have x1 : Ext G (G ++ [AObj.cells true 1 (x.map (.int .i64))]) := (Ext.refl G).app _
  generalize (G ++ [AObj.cells true 1 (x.map (.int .i64))] : AHeap) = G1 at hX1 x1
  ((repeat (first | refine ya (by (with_reducible constructor) <;> first | rfl | decide) ?_ | apply yb | refine yc rfl ?_ | ((first | apply yd | apply ye); simp (disch := first | exact yn | omega | (simp only [go_sem]; done) | (simp only [ln, ym]; omega) | (repeat' first | assumption | exact yo _ | refine yp ?_ _)) only [go_sem]; with_reducible rfl))))
  have hup : resL 0 3 1 8 0 [] x = (upL 3 8 x, 0) := up_res (n := 8) (.inr rfl) (by omega) hs (by omega)
  have hul : (upL 3 8 x).length = 8 * (x.length - 1) + 1 := by rw [up_len]; unfold upN; rw [if_neg hn0]
  have hdn : resL 0 3 8 1 0 [] (upL 3 8 x) = (x, 0) := down_res (n := 8) (.inr rfl) (by omega) s2 (by omega) (by rw [← up_len (deg := 3), hul]; omega)
  refine aops_call ((resampled_c (kind := 0) (deg := 3) (num := 1) (den := 8) (step := 0) (hx0.trans x1) Pairs.none (by simp) hX1 (by omega)).mono fun u G2 hu => ?_)
  rw [hup] at hu
  obtain ⟨us, rfl, hU, x2⟩ := hu.use
  dsimp only at hU
  generalize upL 3 8 x = U at hU hul hdn ⊢
  have x02 := x1.trans x2
  have hX2 := hX0.ext x02
  ((repeat (first | refine ya (by (with_reducible constructor) <;> first | rfl | decide) ?_ | apply yb | refine yc rfl ?_ | ((first | apply yd | apply ye); simp (disch := first | exact yn | omega | (simp only [go_sem]; done) | (simp only [ln, ym]; omega) | (repeat' first | assumption | exact yo _ | refine yp ?_ _)) only [go_sem, hU.len, hU.idx, hU.load, hX2.len, hX2.idx, hX2.load, dec_f (show ¬ (U.length : Int) ≠ 8 * ((x.length : Int) - 1) + 1 by omega)]; with_reducible rfl))))
  refine cond_f rfl ?_
  -- and back
  ((repeat (first | refine ya (by (with_reducible constructor) <;> first | rfl | decide) ?_ | apply yb | refine yc rfl ?_ | ((first | apply yd | apply ye); simp (disch := first | exact yn | omega | (simp only [go_sem]; done) | (simp only [ln, ym]; omega) | (repeat' first | assumption | exact yo _ | refine yp ?_ _)) only [go_sem]; with_reducible rfl))))
  refine aops_call_to (copyInts_c hU (by omega)) ?_
  have hU3 : Ints (G2 ++ [.cells true 1 (U.map (.int .i64))]) U (.slice (some ⟨G2.length, 0, none⟩) U.length U.length) := Ints.last U.length
  have x3 : Ext G2 (G2 ++ [AObj.cells true 1 (U.map (.int .i64))]) := (Ext.refl G2).app _
  generalize (G2 ++ [AObj.cells true 1 (U.map (.int .i64))] : AHeap) = G3 at hU3 x3
  ((repeat (first | refine ya (by (with_reducible constructor) <;> first | rfl | decide) ?_ | apply yb | refine yc rfl ?_ | ((first | apply yd | apply ye); simp (disch := first | exact yn | omega | (simp only [go_sem]; done) | (simp only [ln, ym]; omega) | (repeat' first | assumption | exact yo _ | refine yp ?_ _)) only [go_sem]; with_reducible rfl))))
  refine aops_call ((resampled_c (kind := 0) (deg := 3) (num := 8) (den := 1) (step := 0) ((hx0.trans x02).trans x3) Pairs.none (by simp) hU3 (by omega)).mono fun u G4 hu => ?_)
  rw [hdn] at hu
  obtain ⟨ds, rfl, hD, x4⟩ := hu.use
  dsimp only at hD
  have x04 := (x02.trans x3).trans x4
  have hX4 := hX0.ext x04
  ((repeat (first | refine ya (by (with_reducible constructor) <;> first | rfl | decide) ?_ | apply yb | refine yc rfl ?_ | ((first | apply yd | apply ye); simp (disch := first | exact yn | omega | (simp only [go_sem]; done) | (simp only [ln, ym]; omega) | (repeat' first | assumption | exact yo _ | refine yp ?_ _)) only [go_sem]; with_reducible rfl))))
  refine aops_call_to (bints_c hD hX4 (by omega) (by omega)) ?_
  have t1 : decide (x = x) = true := decide_eq_true rfl
  ((repeat (first | refine ya (by (with_reducible constructor) <;> first | rfl | decide) ?_ | apply yb | refine yc rfl ?_ | ((first | apply yd | apply ye); simp (disch := first | exact yn | omega | (simp only [go_sem]; done) | (simp only [ln, ym]; omega) | (repeat' first | assumption | exact yo _ | refine yp ?_ _)) only [go_sem, t1]; with_reducible rfl))))
  refine cond_f rfl ?_
  -- equalized
  obtain ⟨Y, er, hE, hor⟩ := eq_two he hs s1
  have hYl : Y.length ≤ 400 := by rcases hor with ⟨_, _, h⟩ | ⟨_, rfl⟩; omega; simp
  ((repeat (first | refine ya (by (with_reducible constructor) <;> first | rfl | decide) ?_ | apply yb | refine yc rfl ?_ | ((first | apply yd | apply ye); simp (disch := first | exact yn | omega | (simp only [go_sem]; done) | (simp only [ln, ym]; omega) | (repeat' first | assumption | exact yo _ | refine yp ?_ _)) only [go_sem, n3_at (x04.cell g4)]; with_reducible rfl))))
  refine adraw_call (copyInts_c hD (by omega)) ?_
  have hD5 : Ints (G4 ++ [.cells true 1 (x.map (.int .i64))]) x (.slice (some ⟨G4.length, 0, none⟩) x.length x.length) := Ints.last x.length
  have x5 : Ext G4 (G4 ++ [AObj.cells true 1 (x.map (.int .i64))]) := (Ext.refl G4).app _
  generalize (G4 ++ [AObj.cells true 1 (x.map (.int .i64))] : AHeap) = G5 at hD5 x5
  ((repeat (first | refine ya (by (with_reducible constructor) <;> first | rfl | decide) ?_ | apply yb | refine yc rfl ?_ | ((first | apply yd | apply ye); simp (disch := first | exact yn | omega | (simp only [go_sem]; done) | (simp only [ln, ym]; omega) | (repeat' first | assumption | exact yo _ | refine yp ?_ _)) only [go_sem]; with_reducible rfl))))
  have r6 := equalized_c (f := f) (s := s) (d := d) hD5 (by omega)
  rw [hE] at r6
  refine adraw_call r6 ?_
  have hY : Ints (G5 ++ retN 1 Y.length (Y.map (.int .i64))) Y (retV G5 Y.length) := Ints.ret
  have x6 : Ext G5 (G5 ++ retN 1 Y.length (Y.map (.int .i64))) := ⟨_, rfl⟩
  dsimp only
  generalize (G5 ++ retN 1 Y.length (Y.map (.int .i64)) : AHeap) = G6 at hY x6
  generalize retV G5 Y.length = yv at hY
  have x06 := (x04.trans x5).trans x6
  have hD6 := hD.ext (x5.trans x6)
  have hX6 := hX0.ext x06
  have j4 := x06.cell g4
  have j5 := x06.cell g5
  ((repeat (first | refine ya (by (with_reducible constructor) <;> first | rfl | decide) ?_ | apply yb | refine yc rfl ?_ | ((first | apply yd | apply ye); simp (disch := first | exact yn | omega | (simp only [go_sem]; done) | (simp only [ln, ym]; omega) | (repeat' first | assumption | exact yo _ | refine yp ?_ _)) only [go_sem]; with_reducible rfl))))
  refine awp_mid [true, false, false, false, true, true, false, false, false, true, false, false, false, false, false, false, false, false, false, false, false, false, false, false, false, false, false, false, false, false, false, false, false, false, false, false, false, false, false, false, false, false, false, false, false, false, false, false, false, false, false, false, false, false, false, false, false, false, false, false, false, false, false, false, false, false, false, false, false, false, false, false, false, false, false, false, false, false, false, false, false, false, false, false, false, false, false, false, false, false, false, false, false, false, false, false, false, false, false, false, false, false, false, false, false, false, false, false, false, false, false, false, false, false, false, false, false, false, false, false, false, false, false, false, false, false, false, false, false, false, false, false, false, false, false, false, false, false, false, false, false, false, false, false, false, false, false, false, false, false, false, false, false, false, false, false, false, false, false, false, false, false, false, false, false, false, false, false, false, false, false, false, false, false, false, false, false, false, false, false, false, false, false, false, false, false, false, false, false, false, false, false, false, false, false, false, false, false, false, false, false, false, false, false, false, false, false, false, false, false, false, false, false, false, false, false, false, false, false, false, false, false, false, false, false, false, false, false, false, false, false, false, false, false, false, false, false, false] (fun E J => Ext G6 J ∧ E = [w, junk, junk, junk, .pointer (some ⟨H.length, 0, none⟩), .pointer (some ⟨H.length + 1, 0, none⟩), junk, junk, junk, ds, junk, junk, junk, junk, junk, junk, junk, junk, junk, junk, junk, junk, junk, junk, junk, junk, junk, junk, junk, junk, junk, junk, junk, junk, junk, junk, junk, junk, junk, junk, junk, junk, junk, junk, junk, junk, junk, junk, junk, junk, junk, junk, junk, junk, junk, junk, junk, junk, junk, junk, junk, junk, junk, junk, junk, junk, junk, junk, junk, junk, junk, junk, junk, junk, junk, junk, junk, junk, junk, junk, junk, junk, junk, junk, junk, junk, junk, junk, junk, junk, junk, junk, junk, junk, junk, junk, junk, junk, junk, junk, junk, junk, junk, junk, junk, junk, junk, junk, junk, junk, junk, junk, junk, junk, junk, junk, junk, junk, junk, junk, junk, junk, junk, junk, junk, junk, junk, junk, junk, junk, junk, junk, junk, junk, junk, junk, junk, junk, junk, junk, junk, junk, junk, junk, junk, junk, junk, junk, junk, junk, junk, junk, junk, junk, junk, junk, junk, junk, junk, junk, junk, junk, junk, junk, junk, junk, junk, junk, junk, junk, junk, junk, junk, junk, junk, junk, junk, junk, junk, junk, junk, junk, junk, junk, junk, junk, junk, junk, junk, junk, junk, junk, junk, junk, junk, junk, junk, junk, junk, junk, junk, junk, junk, junk, junk, junk, junk, junk, junk, junk, junk, junk, junk, junk, junk, junk, junk, junk, junk, junk, junk, junk, junk, junk, junk, junk, junk, junk, junk, junk, junk, junk, junk, junk, junk, junk, junk, junk]) ?_ ?_
  · rcases hor with ⟨rfl, hre, hYx⟩ | ⟨rfl, rfl⟩
    · refine cond_t rfl ?_
      ((repeat (first | refine ya (by (with_reducible constructor) <;> first | rfl | decide) ?_ | apply yb | refine yc rfl ?_ | ((first | apply yd | apply ye); simp (disch := first | exact yn | omega | (simp only [go_sem]; done) | (simp only [ln, ym]; omega) | (repeat' first | assumption | exact yo _ | refine yp ?_ _)) only [go_sem, n3_at j4]; with_reducible rfl))))
      refine adraw_call (copyInts_c hY (by omega)) ?_
      have hY7 : Ints (G6 ++ [.cells true 1 (Y.map (.int .i64))]) Y (.slice (some ⟨G6.length, 0, none⟩) Y.length Y.length) := Ints.last Y.length
      have x7 : Ext G6 (G6 ++ [AObj.cells true 1 (Y.map (.int .i64))]) := (Ext.refl G6).app _
      generalize (G6 ++ [AObj.cells true 1 (Y.map (.int .i64))] : AHeap) = G7 at hY7 x7
      ((repeat (first | refine ya (by (with_reducible constructor) <;> first | rfl | decide) ?_ | apply yb | refine yc rfl ?_ | ((first | apply yd | apply ye); simp (disch := first | exact yn | omega | (simp only [go_sem]; done) | (simp only [ln, ym]; omega) | (repeat' first | assumption | exact yo _ | refine yp ?_ _)) only [go_sem]; with_reducible rfl))))
      have r8 := restored_c (f := f) (s := s) (d := d) hY7 (by omega)
      rw [hre] at r8
      refine adraw_call r8 ?_
      have hB : Ints (G7 ++ retN 1 x.length (x.map (.int .i64))) x (retV G7 x.length) := Ints.ret
      have x8 : Ext G7 (G7 ++ retN 1 x.length (x.map (.int .i64))) := ⟨_, rfl⟩
      dsimp only
      generalize (G7 ++ retN 1 x.length (x.map (.int .i64)) : AHeap) = G8 at hB x8
      generalize retV G7 x.length = bv at hB
      ((repeat (first | refine ya (by (with_reducible constructor) <;> first | rfl | decide) ?_ | apply yb | refine yc rfl ?_ | ((first | apply yd | apply ye); simp (disch := first | exact yn | omega | (simp only [go_sem]; done) | (simp only [ln, ym]; omega) | (repeat' first | assumption | exact yo _ | refine yp ?_ _)) only [go_sem]; with_reducible rfl))))
      refine aops_call_to (bints_c hB (hX6.ext (x7.trans x8)) (by omega) (by omega)) ?_
      ((repeat (first | refine ya (by (with_reducible constructor) <;> first | rfl | decide) ?_ | apply yb | refine yc rfl ?_ | ((first | apply yd | apply ye); simp (disch := first | exact yn | omega | (simp only [go_sem]; done) | (simp only [ln, ym]; omega) | (repeat' first | assumption | exact yo _ | refine yp ?_ _)) only [go_sem, t1]; with_reducible rfl))))
      refine cond_f rfl ?_
      ((repeat (first | refine ya (by (with_reducible constructor) <;> first | rfl | decide) ?_ | apply yb | refine yc rfl ?_ | ((first | apply yd | apply ye); simp (disch := first | exact yn | omega | (simp only [go_sem]; done) | (simp only [ln, ym]; omega) | (repeat' first | assumption | exact yo _ | refine yp ?_ _)) only [go_sem]; with_reducible rfl))))
      exact ⟨rfl, x7.trans x8, by simp [forget]⟩
    · refine cond_f rfl ?_
      ((repeat (first | refine ya (by (with_reducible constructor) <;> first | rfl | decide) ?_ | apply yb | refine yc rfl ?_ | ((first | apply yd | apply ye); simp (disch := first | exact yn | omega | (simp only [go_sem]; done) | (simp only [ln, ym]; omega) | (repeat' first | assumption | exact yo _ | refine yp ?_ _)) only [go_sem]; with_reducible rfl))))
      refine cond_f rfl ?_
      ((repeat (first | refine ya (by (with_reducible constructor) <;> first | rfl | decide) ?_ | apply yb | refine yc rfl ?_ | ((first | apply yd | apply ye); simp (disch := first | exact yn | omega | (simp only [go_sem]; done) | (simp only [ln, ym]; omega) | (repeat' first | assumption | exact yo _ | refine yp ?_ _)) only [go_sem]; with_reducible rfl))))
      exact ⟨rfl, Ext.refl _, by simp [forget]⟩
  rintro E J ⟨xJ, rfl⟩
  have x0J := x06.trans xJ
  have hXJ := hX0.ext x0J
  have hDJ := hD6.ext xJ
  have hcJ := hc0.ext x0J
  have k4 := x0J.cell g4
  have k5 := x0J.cell g5
  ((repeat (first | refine ya (by (with_reducible constructor) <;> first | rfl | decide) ?_ | apply yb | refine yc rfl ?_ | ((first | apply yd | apply ye); simp (disch := first | exact yn | omega | (simp only [go_sem]; done) | (simp only [ln, ym]; omega) | (repeat' first | assumption | exact yo _ | refine yp ?_ _)) only [go_sem]; with_reducible rfl))))
  refine awp_loop_n [true, false, false, false, true, true, false, false, false, true, false, false, false, false, false, true, true, false, false, false, false, false, false, false, false, false, false, false, false, false, false, false, false, false, false, false, false, false, false, false, false, false, false, false, false, false, false, false, false, false, false, false, false, false, false, false, false, false, false, false, false, false, false, false, false, false, false, false, false, false, false, false, false, false, false, false, false, false, false, false, false, false, false, false, false, false, false, false, false, false, false, false, false, false, false, false, false, false, false, false, false, false, false, false, false, false, false, false, false, false, false, false, false, false, false, false, false, false, false, false, false, false, false, false, false, false, false, false, false, false, false, false, false, false, false, false, false, false, false, false, false, false, false, false, false, false, false, false, false, false, false, false, false, false, false, false, false, false, false, false, false, false, false, false, false, false, false, false, false, false, false, false, false, false, false, false, false, false, false, false, false, false, false, false, false, false, false, false, false, false, false, false, false, false, false, false, false, false, false, false, false, false, false, false, false, false, false, false, false, false, false, false, false, false, false, false, false, false, false, false, false, false, false, false, false, false, false, false, false, false, false, false, false, false, false, false, false, false] x.length (fun i E H' => J = H' ∧ E = [w, junk, junk, junk, .pointer (some ⟨H.length, 0, none⟩), .pointer (some ⟨H.length + 1, 0, none⟩), junk, junk, junk, ds, junk, junk, junk, junk, junk, .int .i64 (mostTo x i), .int .i64 i, junk, junk, junk, junk, junk, junk, junk, junk, junk, junk, junk, junk, junk, junk, junk, junk, junk, junk, junk, junk, junk, junk, junk, junk, junk, junk, junk, junk, junk, junk, junk, junk, junk, junk, junk, junk, junk, junk, junk, junk, junk, junk, junk, junk, junk, junk, junk, junk, junk, junk, junk, junk, junk, junk, junk, junk, junk, junk, junk, junk, junk, junk, junk, junk, junk, junk, junk, junk, junk, junk, junk, junk, junk, junk, junk, junk, junk, junk, junk, junk, junk, junk, junk, junk, junk, junk, junk, junk, junk, junk, junk, junk, junk, junk, junk, junk, junk, junk, junk, junk, junk, junk, junk, junk, junk, junk, junk, junk, junk, junk, junk, junk, junk, junk, junk, junk, junk, junk, junk, junk, junk, junk, junk, junk, junk, junk, junk, junk, junk, junk, junk, junk, junk, junk, junk, junk, junk, junk, junk, junk, junk, junk, junk, junk, junk, junk, junk, junk, junk, junk, junk, junk, junk, junk, junk, junk, junk, junk, junk, junk, junk, junk, junk, junk, junk, junk, junk, junk, junk, junk, junk, junk, junk, junk, junk, junk, junk, junk, junk, junk, junk, junk, junk, junk, junk, junk, junk, junk, junk, junk, junk, junk, junk, junk, junk, junk, junk, junk, junk, junk, junk, junk, junk, junk, junk, junk, junk, junk, junk, junk, junk, junk, junk, junk, junk, junk, junk, junk, junk, junk, junk]) ?_ ?_
  · exact ⟨rfl, by simp [forget, mostTo]⟩
  rintro i E H' hi ⟨rfl, rfl⟩
  have hmi := mostTo_bound s2 i
  ((repeat (first | refine ya (by (with_reducible constructor) <;> first | rfl | decide) ?_ | apply yb | refine yc rfl ?_ | ((first | apply yd | apply ye); simp (disch := first | exact yn | omega | (simp only [go_sem]; done) | (simp only [ln, ym]; omega) | (repeat' first | assumption | exact yo _ | refine yp ?_ _)) only [go_sem, hXJ.len, hXJ.idx, hXJ.load]; with_reducible rfl))))
  refine cond_p rfl (fun hlt => ?_) (fun hge => ?_)
  · have hsi := s2 i
    ((repeat (first | refine ya (by (with_reducible constructor) <;> first | rfl | decide) ?_ | apply yb | refine yc rfl ?_ | ((first | apply yd | apply ye); simp (disch := first | exact yn | omega | (simp only [go_sem]; done) | (simp only [ln, ym]; omega) | (repeat' first | assumption | exact yo _ | refine yp ?_ _)) only [go_sem, hXJ.len, hXJ.idx, hXJ.load]; with_reducible rfl))))
    refine aops_call_to (bsize_c _ (by omega)) ?_
    ((repeat (first | refine ya (by (with_reducible constructor) <;> first | rfl | decide) ?_ | apply yb | refine yc rfl ?_ | ((first | apply yd | apply ye); simp (disch := first | exact yn | omega | (simp only [go_sem]; done) | (simp only [ln, ym]; omega) | (repeat' first | assumption | exact yo _ | refine yp ?_ _)) only [go_sem]; with_reducible rfl))))
    exact ⟨by omega, rfl, by simp [forget, mostTo]⟩
  have hie : i = x.length := by omega
  subst hie
  have hms : ∀ i : Nat, -(mostTo x x.length) ≤ x.getD i 0 ∧ x.getD i 0 ≤ mostTo x x.length := fun i => by
    by_cases h : i < x.length
    · exact mostTo_le h
    · rw [List.getD_eq_getElem?_getD, List.getElem?_eq_none (by omega)]
      simp only [Option.getD_none]
      omega
  generalize mostTo x x.length = m at hmi hms
  have ha : ampErrL m = 0 := by unfold ampErrL; rw [if_pos hmi]
  have hz : topErrL c e m = 0 := by rw [show topErrL c e m = firstErr [filterErrL c e, ampErrL m] from rfl, hf, ha]; rfl
  have e1 : topL c e m = lowF (strL c * m) e := by unfold topL; rw [if_pos hz]
  have e3 : filteredL c e x = (filtL c x e, 0) := by unfold filteredL; rw [if_pos hf, if_pos hs]
  have hls : signalErrL (lateL x) = 0 := signal_of (by rw [lateL_len (by omega)]; omega) (late_in s2)
  have e4 : filteredL c e (lateL x) = (filtL c (lateL x) e, 0) := by unfold filteredL; rw [if_pos hf, if_pos hls]
  have hfl : (filtL c x e).length = x.length := by simp [filtL]
  have hll : (lateL x).length = x.length := lateL_len (by omega)
  have hfl2 : (filtL c (lateL x) e).length = x.length := by rw [← hll]; simp [filtL]
  have bA := strTo_bound (c := c) (a := 1000) f3 c.length
  have bN := mul_abs (x := strL c) (y := m) (a := 8000) (b := 32767) (by unfold strL; omega) ⟨by omega, by omega⟩
  have nN : 0 ≤ strL c * m := Int.mul_nonneg (by unfold strL; omega) hmi.1
  have hd0 : 0 < e := by omega
  have p1 := lowF_nn nN hd0
  have p2 := lowF_bound (n := strL c * m) (d := e) (m := 262136000) hd0 ⟨by omega, by omega⟩
  have p3 := lowF_pos (n := strL c * m) hd0
  have p4 := lowF_den_le (n := strL c * m) hd0
  have p5 := lowF_gcd (n := strL c * m) hd0
  have p7 := lowF_div_neg (n := strL c * m) hd0
  have hq : ∀ i : Nat, i < x.length → -(-((-(strL c * m)) / e)) ≤ (filtL c x e).getD i 0 ∧ (filtL c x e).getD i 0 ≤ -((-(strL c * m)) / e) := fun i hi => by
    rw [filtL_at hi]
    exact quo_within hd0 (sumTo_str hmi.1 hms c.length)
  have hqb : -262136000 ≤ (-(strL c * m)) / e ∧ (-(strL c * m)) / e ≤ 262136000 := ediv_bound (m := 262136000) hd0 ⟨by omega, by omega⟩
  have hwf := late_first (c := c) (d := e) (x := x) (by omega)
  have hwn := fun n (h : n + 1 < x.length) => late_next (c := c) (d := e) h
  rw [← p7] at hq hqb
  generalize hpp : lowF (strL c * m) e = p at *
  have hcm' : c.length ≤ 1000000000 := by omega
  ((repeat (first | refine ya (by (with_reducible constructor) <;> first | rfl | decide) ?_ | apply yb | refine yc rfl ?_ | ((first | apply yd | apply ye); simp (disch := first | exact yn | omega | (simp only [go_sem]; done) | (simp only [ln, ym]; omega) | (repeat' first | assumption | exact yo _ | refine yp ?_ _)) only [go_sem, n2_at k5]; with_reducible rfl))))
  refine aops_call_to (copyFilter_c hcJ hcm') ?_
  have hC : Ints (J ++ [.cells true 1 (c.map (.int .i64))]) c (.slice (some ⟨J.length, 0, none⟩) c.length c.length) := Ints.last c.length
  have y1 : Ext J (J ++ [AObj.cells true 1 (c.map (.int .i64))]) := (Ext.refl J).app _
  generalize (J ++ [AObj.cells true 1 (c.map (.int .i64))] : AHeap) = J1 at hC y1
  generalize Value.slice (some ⟨J.length, 0, none⟩) c.length c.length = cv at hC
  ((repeat (first | refine ya (by (with_reducible constructor) <;> first | rfl | decide) ?_ | apply yb | refine yc rfl ?_ | ((first | apply yd | apply ye); simp (disch := first | exact yn | omega | (simp only [go_sem]; done) | (simp only [ln, ym]; omega) | (repeat' first | assumption | exact yo _ | refine yp ?_ _)) only [go_sem]; with_reducible rfl))))
  refine aops_call_to (maximumOutput_c hC hcm') ?_
  rw [e1, hz]
  ((repeat (first | refine ya (by (with_reducible constructor) <;> first | rfl | decide) ?_ | apply yb | refine yc rfl ?_ | ((first | apply yd | apply ye); simp (disch := first | exact yn | omega | (simp only [go_sem]; done) | (simp only [ln, ym]; omega) | (repeat' first | assumption | exact yo _ | refine yp ?_ _)) only [go_sem]; with_reducible rfl))))
  have b1 : (J1 ++ [AObj.cells true 0 [.int .i64 p.1, .int .i64 p.2]])[J1.length]? = some (.cells true 0 [.int .i64 p.1, .int .i64 p.2]) := at_new
  have y2 := y1.app [AObj.cells true 0 [.int .i64 p.1, .int .i64 p.2]]
  generalize (J1 ++ [AObj.cells true 0 [.int .i64 p.1, .int .i64 p.2]] : AHeap) = J2 at b1 y2
  ((repeat (first | refine ya (by (with_reducible constructor) <;> first | rfl | decide) ?_ | apply yb | refine yc rfl ?_ | ((first | apply yd | apply ye); simp (disch := first | exact yn | omega | (simp only [go_sem]; done) | (simp only [ln, ym]; omega) | (repeat' first | assumption | exact yo _ | refine yp ?_ _)) only [go_sem, n2_at (y2.cell k5)]; with_reducible rfl))))
  refine aops_call_to (copyFilter_c (hcJ.ext y2) hcm') ?_
  have hC3 : Ints (J2 ++ [.cells true 1 (c.map (.int .i64))]) c (.slice (some ⟨J2.length, 0, none⟩) c.length c.length) := Ints.last c.length
  have y3 : Ext J2 (J2 ++ [AObj.cells true 1 (c.map (.int .i64))]) := (Ext.refl J2).app _
  generalize (J2 ++ [AObj.cells true 1 (c.map (.int .i64))] : AHeap) = J3 at hC3 y3
  generalize Value.slice (some ⟨J2.length, 0, none⟩) c.length c.length = cv3 at hC3
  ((repeat (first | refine ya (by (with_reducible constructor) <;> first | rfl | decide) ?_ | apply yb | refine yc rfl ?_ | ((first | apply yd | apply ye); simp (disch := first | exact yn | omega | (simp only [go_sem]; done) | (simp only [ln, ym]; omega) | (repeat' first | assumption | exact yo _ | refine yp ?_ _)) only [go_sem]; with_reducible rfl))))
  refine aops_call_to (copyInts_c (hDJ.ext (y2.trans y3)) (by omega)) ?_
  have hX4' : Ints (J3 ++ [.cells true 1 (x.map (.int .i64))]) x (.slice (some ⟨J3.length, 0, none⟩) x.length x.length) := Ints.last x.length
  have y4 : Ext J3 (J3 ++ [AObj.cells true 1 (x.map (.int .i64))]) := (Ext.refl J3).app _
  generalize (J3 ++ [AObj.cells true 1 (x.map (.int .i64))] : AHeap) = J4 at hX4' y4
  generalize Value.slice (some ⟨J3.length, 0, none⟩) x.length x.length = xv at hX4'
  ((repeat (first | refine ya (by (with_reducible constructor) <;> first | rfl | decide) ?_ | apply yb | refine yc rfl ?_ | ((first | apply yd | apply ye); simp (disch := first | exact yn | omega | (simp only [go_sem]; done) | (simp only [ln, ym]; omega) | (repeat' first | assumption | exact yo _ | refine yp ?_ _)) only [go_sem]; with_reducible rfl))))
  refine aops_call ((filtered_c (d := e) (hC3.ext y4) hX4' hcm' (by omega)).mono fun u J5 hu => ?_)
  rw [e3] at hu
  obtain ⟨zs, rfl, hZ, y5⟩ := hu.use
  have y25 := (y3.trans y4).trans y5
  have y05 := y2.trans y25
  have b15 := y25.cell b1
  have hXJ5 := hXJ.ext y05
  have k55 := y05.cell k5
  have hcJ5 := hcJ.ext y05
  dsimp only at hZ
  generalize filtL c x e = z at hZ hfl hq hwn ⊢
  ((repeat (first | refine ya (by (with_reducible constructor) <;> first | rfl | decide) ?_ | apply yb | refine yc rfl ?_ | ((first | apply yd | apply ye); simp (disch := first | exact yn | omega | (simp only [go_sem]; done) | (simp only [ln, ym]; omega) | (repeat' first | assumption | exact yo _ | refine yp ?_ _)) only [go_sem, hZ.len, hZ.idx, hZ.load, hXJ5.len, hXJ5.idx, hXJ5.load, dec_f (show ¬ (z.length : Int) ≠ (x.length : Int) by omega), n2_at b15]; with_reducible rfl))))
  refine aops_call_to (isLowest_c (p := p) (by omega) (by omega)) ?_
  ((repeat (first | refine ya (by (with_reducible constructor) <;> first | rfl | decide) ?_ | apply yb | refine yc rfl ?_ | ((first | apply yd | apply ye); simp (disch := first | exact yn | omega | (simp only [go_sem]; done) | (simp only [ln, ym]; omega) | (repeat' first | assumption | exact yo _ | refine yp ?_ _)) only [go_sem, dec_t p5, load_at b15]; with_reducible rfl))))
  refine aops_call_to (bwithin_c _ _ _) ?_
  ((repeat (first | refine ya (by (with_reducible constructor) <;> first | rfl | decide) ?_ | apply yb | refine yc rfl ?_ | ((first | apply yd | apply ye); simp (disch := first | exact yn | omega | (simp only [go_sem]; done) | (simp only [ln, ym]; omega) | (repeat' first | assumption | exact yo _ | refine yp ?_ _)) only [go_sem, dec_t (show 0 ≤ p.1 ∧ p.1 ≤ 1000000000 by omega)]; with_reducible rfl))))
  refine cond_f rfl ?_
  ((repeat (first | refine ya (by (with_reducible constructor) <;> first | rfl | decide) ?_ | apply yb | refine yc rfl ?_ | ((first | apply yd | apply ye); simp (disch := first | exact yn | omega | (simp only [go_sem]; done) | (simp only [ln, ym]; omega) | (repeat' first | assumption | exact yo _ | refine yp ?_ _)) only [go_sem]; with_reducible rfl))))
  refine awp_loop_n [true, false, false, false, false, true, false, false, false, false, false, false, false, false, false, false, false, true, false, true, false, true, false, false, false, false, false, false, false, false, false, false, false, false, false, false, false, false, false, false, false, false, false, false, false, false, false, false, false, false, false, false, false, false, false, false, false, false, false, false, false, false, false, false, false, false, false, false, false, false, false, false, false, false, false, false, false, false, false, false, false, false, false, false, false, false, false, false, false, false, false, false, false, false, false, false, false, false, false, false, false, false, false, false, false, false, false, false, false, false, false, false, false, false, false, false, false, false, false, false, false, false, false, false, false, false, false, false, false, false, false, false, false, false, false, false, false, false, false, false, false, false, false, false, false, false, false, false, false, false, false, false, false, false, false, false, false, false, false, false, false, false, false, false, false, false, false, false, false, false, false, false, false, false, false, false, false, false, false, false, false, false, false, false, false, false, false, false, false, false, false, false, false, false, false, false, false, false, false, false, false, false, false, false, false, false, false, false, false, false, false, false, false, false, false, false, false, false, false, false, false, false, false, false, false, false, false, false, false, false, false, false, false, false, false, false, false, false] x.length (fun i E H' => J5 = H' ∧ E = [w, junk, junk, junk, junk, .pointer (some ⟨H.length + 1, 0, none⟩), junk, junk, junk, junk, junk, junk, junk, junk, junk, junk, junk, .pointer (some ⟨J1.length, 0, none⟩), junk, zs, junk, .int .i64 i, junk, junk, junk, junk, junk, junk, junk, junk, junk, junk, junk, junk, junk, junk, junk, junk, junk, junk, junk, junk, junk, junk, junk, junk, junk, junk, junk, junk, junk, junk, junk, junk, junk, junk, junk, junk, junk, junk, junk, junk, junk, junk, junk, junk, junk, junk, junk, junk, junk, junk, junk, junk, junk, junk, junk, junk, junk, junk, junk, junk, junk, junk, junk, junk, junk, junk, junk, junk, junk, junk, junk, junk, junk, junk, junk, junk, junk, junk, junk, junk, junk, junk, junk, junk, junk, junk, junk, junk, junk, junk, junk, junk, junk, junk, junk, junk, junk, junk, junk, junk, junk, junk, junk, junk, junk, junk, junk, junk, junk, junk, junk, junk, junk, junk, junk, junk, junk, junk, junk, junk, junk, junk, junk, junk, junk, junk, junk, junk, junk, junk, junk, junk, junk, junk, junk, junk, junk, junk, junk, junk, junk, junk, junk, junk, junk, junk, junk, junk, junk, junk, junk, junk, junk, junk, junk, junk, junk, junk, junk, junk, junk, junk, junk, junk, junk, junk, junk, junk, junk, junk, junk, junk, junk, junk, junk, junk, junk, junk, junk, junk, junk, junk, junk, junk, junk, junk, junk, junk, junk, junk, junk, junk, junk, junk, junk, junk, junk, junk, junk, junk, junk, junk, junk, junk, junk, junk, junk, junk, junk, junk, junk, junk, junk, junk, junk, junk]) ?_ ?_
  · exact ⟨rfl, by simp [forget]⟩
  rintro i E H' hi ⟨rfl, rfl⟩
  have hlz : (z.length : Int) = x.length := by omega
  ((repeat (first | refine ya (by (with_reducible constructor) <;> first | rfl | decide) ?_ | apply yb | refine yc rfl ?_ | ((first | apply yd | apply ye); simp (disch := first | exact yn | omega | (simp only [go_sem]; done) | (simp only [ln, ym]; omega) | (repeat' first | assumption | exact yo _ | refine yp ?_ _)) only [go_sem, hZ.len, hZ.idx, hZ.load, hlz]; with_reducible rfl))))
  refine cond_p rfl (fun hlt => ?_) (fun hge => ?_)
  · have hqi := hq i (by omega)
    ((repeat (first | refine ya (by (with_reducible constructor) <;> first | rfl | decide) ?_ | apply yb | refine yc rfl ?_ | ((first | apply yd | apply ye); simp (disch := first | exact yn | omega | (simp only [go_sem]; done) | (simp only [ln, ym]; omega) | (repeat' first | assumption | exact yo _ | refine yp ?_ _)) only [go_sem, hZ.len, hZ.idx, hZ.load, load_at b15]; with_reducible rfl))))
    refine adraw_call (N := []) (firstD (bceil_c _ _ (by omega) (by omega))) ?_
    rw [List.append_nil]
    ((repeat (first | refine ya (by (with_reducible constructor) <;> first | rfl | decide) ?_ | apply yb | refine yc rfl ?_ | ((first | apply yd | apply ye); simp (disch := first | exact yn | omega | (simp only [go_sem]; done) | (simp only [ln, ym]; omega) | (repeat' first | assumption | exact yo _ | refine yp ?_ _)) only [go_sem, load_at b15]; with_reducible rfl))))
    refine adraw_call (N := []) (firstD (bceil_c _ _ (by omega) (by omega))) ?_
    rw [List.append_nil]
    ((repeat (first | refine ya (by (with_reducible constructor) <;> first | rfl | decide) ?_ | apply yb | refine yc rfl ?_ | ((first | apply yd | apply ye); simp (disch := first | exact yn | omega | (simp only [go_sem]; done) | (simp only [ln, ym]; omega) | (repeat' first | assumption | exact yo _ | refine yp ?_ _)) only [go_sem]; with_reducible rfl))))
    refine adraw_call (N := []) (firstD (bwithin_c _ _ _)) ?_
    rw [List.append_nil]
    ((repeat (first | refine ya (by (with_reducible constructor) <;> first | rfl | decide) ?_ | apply yb | refine yc rfl ?_ | ((first | apply yd | apply ye); simp (disch := first | exact yn | omega | (simp only [go_sem]; done) | (simp only [ln, ym]; omega) | (repeat' first | assumption | exact yo _ | refine yp ?_ _)) only [go_sem, dec_t (show 0 - (-((-p.1) / p.2)) ≤ z.getD i 0 ∧ z.getD i 0 ≤ -((-p.1) / p.2) by omega)]; with_reducible rfl))))
    refine cond_f rfl ?_
    ((repeat (first | refine ya (by (with_reducible constructor) <;> first | rfl | decide) ?_ | apply yb | refine yc rfl ?_ | ((first | apply yd | apply ye); simp (disch := first | exact yn | omega | (simp only [go_sem]; done) | (simp only [ln, ym]; omega) | (repeat' first | assumption | exact yo _ | refine yp ?_ _)) only [go_sem]; with_reducible rfl))))
    exact ⟨by omega, rfl, by simp [forget]⟩
  -- the delay
  have hT : Ints (J5 ++ [.cells true 1 [.int .i64 0]]) (x.take (x.length - 1)) (toV w (x.length - 1)) := (Ints.upto hXJ5 (by omega)).ext ((Ext.refl J5).app _)
  obtain ⟨lv, J6, hap, hLv, y6⟩ := late_app hT (by rw [List.length_take]; omega)
  have hLv' : Ints J6 (lateL x) lv := hLv
  have ei : (x.length : Int) - 1 = ((x.length - 1 : Nat) : Int) := by omega
  have hsl : ∀ K : AHeap, sliceR 1 w none (some (.int .i64 ((x.length - 1 : Nat) : Int))) none K = some (toV w (x.length - 1), K) := fun K => Sl.to (H' := K) (k := .i64) hXJ5 (m := ((x.length - 1 : Nat) : Int)) (by omega) (by omega)
  ((repeat (first | refine ya (by (with_reducible constructor) <;> first | rfl | decide) ?_ | apply yb | refine yc rfl ?_ | ((first | apply yd | apply ye); simp (disch := first | exact yn | omega | (simp only [go_sem]; done) | (simp only [ln, ym]; omega) | (repeat' first | assumption | exact yo _ | refine yp ?_ _)) only [go_sem, hXJ5.len, hXJ5.idx, hXJ5.load, ei, hsl, hap]; with_reducible rfl))))
  have y06 := y05.trans y6
  ((repeat (first | refine ya (by (with_reducible constructor) <;> first | rfl | decide) ?_ | apply yb | refine yc rfl ?_ | ((first | apply yd | apply ye); simp (disch := first | exact yn | omega | (simp only [go_sem]; done) | (simp only [ln, ym]; omega) | (repeat' first | assumption | exact yo _ | refine yp ?_ _)) only [go_sem, n2_at (y6.cell k55)]; with_reducible rfl))))
  refine aops_call_to (copyFilter_c (hcJ5.ext y6) hcm') ?_
  have hC7 : Ints (J6 ++ [.cells true 1 (c.map (.int .i64))]) c (.slice (some ⟨J6.length, 0, none⟩) c.length c.length) := Ints.last c.length
  have y7 : Ext J6 (J6 ++ [AObj.cells true 1 (c.map (.int .i64))]) := (Ext.refl J6).app _
  generalize (J6 ++ [AObj.cells true 1 (c.map (.int .i64))] : AHeap) = J7 at hC7 y7
  generalize Value.slice (some ⟨J6.length, 0, none⟩) c.length c.length = cv7 at hC7
  ((repeat (first | refine ya (by (with_reducible constructor) <;> first | rfl | decide) ?_ | apply yb | refine yc rfl ?_ | ((first | apply yd | apply ye); simp (disch := first | exact yn | omega | (simp only [go_sem]; done) | (simp only [ln, ym]; omega) | (repeat' first | assumption | exact yo _ | refine yp ?_ _)) only [go_sem]; with_reducible rfl))))
  refine aops_call_to (copyInts_c (hLv'.ext y7) (by omega)) ?_
  have hL8 : Ints (J7 ++ [.cells true 1 ((lateL x).map (.int .i64))]) (lateL x) (.slice (some ⟨J7.length, 0, none⟩) (lateL x).length (lateL x).length) := Ints.last (lateL x).length
  have y8 : Ext J7 (J7 ++ [AObj.cells true 1 ((lateL x).map (.int .i64))]) := (Ext.refl J7).app _
  generalize (J7 ++ [AObj.cells true 1 ((lateL x).map (.int .i64))] : AHeap) = J8 at hL8 y8
  generalize Value.slice (some ⟨J7.length, 0, none⟩) (lateL x).length (lateL x).length = xv8 at hL8
  ((repeat (first | refine ya (by (with_reducible constructor) <;> first | rfl | decide) ?_ | apply yb | refine yc rfl ?_ | ((first | apply yd | apply ye); simp (disch := first | exact yn | omega | (simp only [go_sem]; done) | (simp only [ln, ym]; omega) | (repeat' first | assumption | exact yo _ | refine yp ?_ _)) only [go_sem]; with_reducible rfl))))
  refine aops_call ((filtered_c (d := e) (hC7.ext y8) hL8 hcm' (by omega)).mono fun u J9 hu => ?_)
  rw [e4] at hu
  obtain ⟨ws, rfl, hW, y9⟩ := hu.use
  dsimp only at hW
  have y69 := (y7.trans y8).trans y9
  have y59 := y6.trans y69
  have hZ9 := hZ.ext y59
  have hX9 := hXJ5.ext y59
  generalize filtL c (lateL x) e = q at hW hfl2 hwf hwn ⊢
  have hwf' : q.getD (Int.toNat 0) 0 = 0 := hwf
  ((repeat (first | refine ya (by (with_reducible constructor) <;> first | rfl | decide) ?_ | apply yb | refine yc rfl ?_ | ((first | apply yd | apply ye); simp (disch := first | exact yn | omega | (simp only [go_sem]; done) | (simp only [ln, ym]; omega) | (repeat' first | assumption | exact yo _ | refine yp ?_ _)) only [go_sem, hW.len, hW.idx, hW.load, hX9.len, hX9.idx, hX9.load, dec_f (show ¬ (q.length : Int) ≠ (x.length : Int) by omega), hwf']; with_reducible rfl))))
  refine cond_f rfl ?_
  ((repeat (first | refine ya (by (with_reducible constructor) <;> first | rfl | decide) ?_ | apply yb | refine yc rfl ?_ | ((first | apply yd | apply ye); simp (disch := first | exact yn | omega | (simp only [go_sem]; done) | (simp only [ln, ym]; omega) | (repeat' first | assumption | exact yo _ | refine yp ?_ _)) only [go_sem]; with_reducible rfl))))
  refine awp_loop_n [false, false, false, false, false, false, false, false, false, false, false, false, false, false, false, false, false, false, false, true, false, false, false, true, false, true, false, false, false, false, false, false, false, false, false, false, false, false, false, false, false, false, false, false, false, false, false, false, false, false, false, false, false, false, false, false, false, false, false, false, false, false, false, false, false, false, false, false, false, false, false, false, false, false, false, false, false, false, false, false, false, false, false, false, false, false, false, false, false, false, false, false, false, false, false, false, false, false, false, false, false, false, false, false, false, false, false, false, false, false, false, false, false, false, false, false, false, false, false, false, false, false, false, false, false, false, false, false, false, false, false, false, false, false, false, false, false, false, false, false, false, false, false, false, false, false, false, false, false, false, false, false, false, false, false, false, false, false, false, false, false, false, false, false, false, false, false, false, false, false, false, false, false, false, false, false, false, false, false, false, false, false, false, false, false, false, false, false, false, false, false, false, false, false, false, false, false, false, false, false, false, false, false, false, false, false, false, false, false, false, false, false, false, false, false, false, false, false, false, false, false, false, false, false, false, false, false, false, false, false, false, false, false, false, false, false, false, false] (x.length - 1) (fun i E H' => J9 = H' ∧ E = [junk, junk, junk, junk, junk, junk, junk, junk, junk, junk, junk, junk, junk, junk, junk, junk, junk, junk, junk, zs, junk, junk, junk, ws, junk, .int .i64 ((i + 1 : Nat) : Int), junk, junk, junk, junk, junk, junk, junk, junk, junk, junk, junk, junk, junk, junk, junk, junk, junk, junk, junk, junk, junk, junk, junk, junk, junk, junk, junk, junk, junk, junk, junk, junk, junk, junk, junk, junk, junk, junk, junk, junk, junk, junk, junk, junk, junk, junk, junk, junk, junk, junk, junk, junk, junk, junk, junk, junk, junk, junk, junk, junk, junk, junk, junk, junk, junk, junk, junk, junk, junk, junk, junk, junk, junk, junk, junk, junk, junk, junk, junk, junk, junk, junk, junk, junk, junk, junk, junk, junk, junk, junk, junk, junk, junk, junk, junk, junk, junk, junk, junk, junk, junk, junk, junk, junk, junk, junk, junk, junk, junk, junk, junk, junk, junk, junk, junk, junk, junk, junk, junk, junk, junk, junk, junk, junk, junk, junk, junk, junk, junk, junk, junk, junk, junk, junk, junk, junk, junk, junk, junk, junk, junk, junk, junk, junk, junk, junk, junk, junk, junk, junk, junk, junk, junk, junk, junk, junk, junk, junk, junk, junk, junk, junk, junk, junk, junk, junk, junk, junk, junk, junk, junk, junk, junk, junk, junk, junk, junk, junk, junk, junk, junk, junk, junk, junk, junk, junk, junk, junk, junk, junk, junk, junk, junk, junk, junk, junk, junk, junk, junk, junk, junk, junk, junk, junk, junk, junk, junk, junk, junk, junk, junk, junk]) ?_ ?_
  · exact ⟨rfl, by simp [forget]⟩
  rintro i E H' hi ⟨rfl, rfl⟩
  ((repeat (first | refine ya (by (with_reducible constructor) <;> first | rfl | decide) ?_ | apply yb | refine yc rfl ?_ | ((first | apply yd | apply ye); simp (disch := first | exact yn | omega | (simp only [go_sem]; done) | (simp only [ln, ym]; omega) | (repeat' first | assumption | exact yo _ | refine yp ?_ _)) only [go_sem, hW.len, hW.idx, hW.load]; with_reducible rfl))))
  refine cond_p rfl (fun hlt => ?_) (fun hge => ?_)
  · have ej : ((i + 1 : Nat) : Int) - 1 = ((i : Nat) : Int) := by omega
    have hn := hwn i (by omega)
    ((repeat (first | refine ya (by (with_reducible constructor) <;> first | rfl | decide) ?_ | apply yb | refine yc rfl ?_ | ((first | apply yd | apply ye); simp (disch := first | exact yn | omega | (simp only [go_sem]; done) | (simp only [ln, ym]; omega) | (repeat' first | assumption | exact yo _ | refine yp ?_ _)) only [go_sem, hW.len, hW.idx, hW.load, hZ9.len, hZ9.idx, hZ9.load, ej, hn]; with_reducible rfl))))
    refine cond_f rfl ?_
    ((repeat (first | refine ya (by (with_reducible constructor) <;> first | rfl | decide) ?_ | apply yb | refine yc rfl ?_ | ((first | apply yd | apply ye); simp (disch := first | exact yn | omega | (simp only [go_sem]; done) | (simp only [ln, ym]; omega) | (repeat' first | assumption | exact yo _ | refine yp ?_ _)) only [go_sem]; with_reducible rfl))))
    exact ⟨by omega, rfl, by simp [forget]⟩
  · ((repeat (first | refine ya (by (with_reducible constructor) <;> first | rfl | decide) ?_ | apply yb | refine yc rfl ?_ | ((first | apply yd | apply ye); simp (disch := first | exact yn | omega | (simp only [go_sem]; done) | (simp only [ln, ym]; omega) | (repeat' first | assumption | exact yo _ | refine yp ?_ _)) only [go_sem]; with_reducible rfl))))
    exact fin_1 rfl
end Go.Lq

namespace Go.Lq
open Go Go.ChangeShapes Go.WideShapes Go.ChangeAt Go.RowKit
open Go.Proofs

set_option maxRecDepth 100000 in
theorem lifted19 (os : Os) (started : os.Started) (X : Type) (enc : TypeId × Value → X) :
    ReturnsInHanded {} Tryd.checked os 19 .any (fun w args => (YtlcfgealkjomnaaDoor.Rows.topResampleChainSpec.pre enc Tryd.prog Tryd.f19 [] false w args ∧ laidMetH Tryd.prog laidAll w) ∧ sizedMet enc Tryd.prog Tryd.f19 (OpenSpec.ofChange YtlcfgealkjomnaaDoor.Rows.topResampleChainSpec) false w args)
      (YtlcfgealkjomnaaDoor.Rows.topResampleChainSpec.post enc Tryd.prog Tryd.f19 false true false false) := by
  refine returnsInHanded_of_change_shaped (C := Tryd.checked) (X := fun w _ => laidMetH Tryd.prog laidAll w) (fun _ _ _ hh h => h.of_heap hh) own_knob started (by kernel_rfl) Tryd.func19
    (ChangeSpec.witness_shaped (enc := enc) (C := Tryd.checked) (os := os) (X := fun w _ => laidMetH Tryd.prog laidAll w) false (World.doorLaid Tryd.prog 400 os) #[.slice none 0 0, .agg #[.int .i64 0, .int .i64 0, .int .i64 0], .agg #[.slice none 0 0, .int .i64 0]] 12 rfl (door_shaped os _) (by kernel_rfl) (by kernel_rfl) (by kernel_rfl) (door_met os _)) ?_
  intro W base args ds gs before hsh hval hW hL
  have hWw := hW
  obtain ⟨p, q, hA, _⟩ := hW
  refine (calls_of_law (d := 20) (of_laid hL hsh) globs glob_at hA (fun j t v h1 h2 => hval j t v (by simpa using h1) (by simpa using h2)) (by kernel_rfl) fun H avs hx h => ?_).mono fun e W' ⟨he, hB⟩ => ?_
  · exact law19 hx (by rw [show Tryd.f19.params = #[27, 60, 83] from Tryd.params19] at h; exact h)
  · subst he
    exact ⟨_, rfl, law_post (bt := 4) laid_out rfl Tryd.underlying4 (by kernel_rfl) (by kernel_rfl) hWw (fun ds hd => by
      rw [show Tryd.f19.params = #[27, 60, 83] from Tryd.params19] at hd
      match ds, hd with
      | [a, b, c], _ => rfl) hB⟩

theorem unf19 : Tryd.prog.unfollowed 19 = true := by kernel_rfl
theorem rec19 : Tryd.prog.recurses 19 = true := by kernel_rfl
theorem named19 : Tryd.prog.varsNamed 19 = YtlcfgealkjomnaaDoor.Rows.topResampleChainRow.named := by kernel_rfl
theorem facts19 : joinedFacts Tryd.prog 19 Tryd.f19 YtlcfgealkjomnaaDoor.Rows.topResampleChainSpec YtlcfgealkjomnaaDoor.Rows.topResampleChainRow = true := by
  unfold joinedFacts
  rw [may_enter, stops_heard, maps_rowed, laid_out, lifts_final, make_is, unf19, rec19, named19]
  kernel_rfl
theorem holds19 : YtlcfgealkjomnaaDoor.Rows.TopResampleChainSaid :=
  OpenClaim.holds_of_wide 19 Tryd.f19 rfl rfl rfl rfl rfl rfl rfl ⟨rfl, rfl, rfl, rfl, rfl⟩ rfl rfl rfl rfl rfl (by kernel_rfl) Tryd.func19 facts19
    (of_decide_eq_true (by kernel_rfl)) (by unfold Func.isWrapper; first | (rw [if_pos (by decide +kernel)]; kernel_rfl) | (rw [if_neg (by decide +kernel)]; exact ⟨rfl, rfl⟩))
    (fun os started H enc _ => lifted19 os started H enc)
end Go.Lq
namespace Go.Proofs.YtlcfgealkjomnaaDoor
open Go Go.Lq
theorem topResampleChain_proved : Rows.TopResampleChainCardSaid :=
  Claim7.holds_tied_plain_at .later [] [.funcs] true (true, "9403e86e1dc287bd0cb4ee71274230f6f4c5733d4f08721e5e779bfd75daaf91") false
    holds19 (fun _ h => by cases h) (by kernel_rfl) (fun _ h => by cases h) topResampleChain_row_tie rfl ⟨rfl, rfl⟩ main_is rfl
    (fun f fn hf hfn => by
      obtain rfl : f = 19 := Option.some.inj ((show Tryd.prog.funcNamed "lacquer/lacquertop.TopResampleChain" = some 19 by kernel_rfl).symm.trans hf) |>.symm
      obtain rfl : fn = Tryd.f19 := (Option.some.inj (Tryd.func19.symm.trans hfn)).symm
      exact ⟨looks0, fun j t ht => by
        rw [Tryd.params19] at ht
        have hm : t ∈ [27, 60, 83] := by simpa using Array.mem_of_getElem? ht
        have hall : ([27, 60, 83].all fun u => !Tryd.prog.wantsStandIn u) = true := by kernel_rfl
        exact (show Tryd.prog.wantsStandIn t = false by simpa using List.all_eq_true.1 hall t hm)⟩)
    (by kernel_rfl)
end Go.Proofs.YtlcfgealkjomnaaDoor
