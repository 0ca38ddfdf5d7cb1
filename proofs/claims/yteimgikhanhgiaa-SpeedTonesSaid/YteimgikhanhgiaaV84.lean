/- SpeedTones is proved: for every input that can be read the law returns true, and each argument reads afterwards as it read before; nothing is asked of package variables. -/
import Derived.Test.YteimgikhanhgiaaV83
set_option linter.unusedSimpArgs false
set_option linter.unnecessarySimpa false
set_option linter.unusedVariables false
set_option linter.unusedSectionVars false
set_option maxRecDepth 100000
namespace Go.Lq
open Go
open Go.Proofs

theorem cellsTone : Try.prog.cellsOf 84 = 5 := by kernel_rfl
theorem cellsInts : Try.prog.cellsOf 59 = 1 := by kernel_rfl
set_option maxRecDepth 100000 in
theorem repTone {H : AHeap} {v : Value} (h : RepA Try.prog H 84 v) : ∃ (A D : Int × Int) (K : List Int) (s : Value), v = toneV A D s ∧ Ints H K s ∧ K.length ≤ maxLen := by
  obtain ⟨acs, rfl, hr⟩ := h.struct Try.underlying84
  obtain ⟨hl, hf⟩ := hr.struct_inv Try.underlying84
  rw [cellsTone] at hl
  match acs, hl with
  | [x, y, z, w, s], _ =>
    have h0 : Rep Try.prog H 23 (([x, y, z, w, s].drop 0).take (Try.prog.cellsOf 23)) := hf 0 _ rfl
    have h1 : Rep Try.prog H 23 (([x, y, z, w, s].drop 2).take (Try.prog.cellsOf 23)) := hf 1 _ rfl
    have h2 : Rep Try.prog H 59 (([x, y, z, w, s].drop 4).take (Try.prog.cellsOf 59)) := hf 2 _ rfl
    rw [cellsRange] at h0 h1
    rw [cellsInts] at h2
    obtain ⟨a, b, e0⟩ := repRange h0
    obtain ⟨c, d, e1⟩ := repRange h1
    have e0' : [x, y] = [.int .i64 a, .int .i64 b] := e0
    have e1' : [z, w] = [.int .i64 c, .int .i64 d] := e1
    cases e0'; cases e1'
    have h2' : Rep Try.prog H 59 [s] := h2
    obtain ⟨K, k1, k2, -⟩ := (RepA.of_slice Try.underlying59 h2').ints Try.underlying59 Try.underlying3 cells3
    exact ⟨(a, b), (c, d), K, s, rfl, k1, k2⟩
theorem store_t4 {G : AHeap} {id : Nat} {A D : Int × Int} {k w : Value} (h : G[id]? = some (.cells true 0 (toneC A D k))) (ha : isAtom w = true) (hc : w.cells = ⟨[w]⟩) : storeR 1 (.pointer (some ⟨id, 4, none⟩)) w G = some (undef, G.set id (.cells true 0 (toneC A D w))) := by
  have e2 : ([w] : List Value).all isAtom = true := by simp [ha]
  have e3 : setCells (toneC A D k) 4 [w] = toneC A D w := rfl
  simp only [storeR, hc, List.size_toArray, storeAt, h, e2, e3, and_true, List.length_cons, List.length_nil]
  rfl
set_option maxRecDepth 100000 in
set_option maxHeartbeats 4000000 in
theorem law8 {H : AHeap} {avs : List Value} (h : RepAll Try.prog H [84] avs) : ACall Try.prog 8 avs H fun v _ => v = .bool true := by
  obtain ⟨a, rfl, h1⟩ := h.one
  obtain ⟨A, D, K, s, rfl, hl, hlm⟩ := repTone h1
  (refine a8 ?_; simp only [n8, List.replicate, yq, yr, yt, yu]; first | refine q1 ?_ | refine q2 ?_ | refine q6 ?_ | refine q7 ?_ | refine qh rfl ?_ | skip)
  have g0 : (H ++ [AObj.cells true 0 (toneC A D s)])[H.length]? = some (.cells true 0 (toneC A D s)) := at_new
  have xG : Ext H (H ++ [AObj.cells true 0 (toneC A D s)]) := (Ext.refl H).app _
  (repeat (first | refine ya (by (with_reducible constructor) <;> first | rfl | decide) ?_ | (apply yd; simp (disch := first | exact yn | omega | (simp only [go_sem]; done) | (simp only [ln, ym]; omega) | (repeat' first | assumption | exact yo _ | refine yp ?_ _)) only [go_sem, box_tone (Sl.atom hl)]; with_reducible rfl)))
  generalize (H ++ [AObj.cells true 0 (toneC A D s)] : AHeap) = G at g0 xG
  have k0 := hl.ext xG
  ((repeat (first | refine ya (by (with_reducible constructor) <;> first | rfl | decide) ?_ | apply yb | refine yc rfl ?_ | ((first | apply yd | apply ye); simp (disch := first | exact yn | omega | (simp only [go_sem]; done) | (simp only [ln, ym]; omega) | (repeat' first | assumption | exact yo _ | refine yp ?_ _)) only [go_sem]; with_reducible rfl))))
  (refine aops_call_to (awake_c) ?_)
  ((repeat (first | refine ya (by (with_reducible constructor) <;> first | rfl | decide) ?_ | apply yb | refine yc rfl ?_ | ((first | apply yd | apply ye); simp (disch := first | exact yn | omega | (simp only [go_sem]; done) | (simp only [ln, ym]; omega) | (repeat' first | assumption | exact yo _ | refine yp ?_ _)) only [go_sem]; with_reducible rfl))))
  refine cond_f rfl ?_
  by_cases hf : (K.length : Int) > 14
  · ((repeat (first | refine ya (by (with_reducible constructor) <;> first | rfl | decide) ?_ | apply yb | refine yc rfl ?_ | ((first | apply yd | apply ye); simp (disch := first | exact yn | omega | (simp only [go_sem]; done) | (simp only [ln, ym]; omega) | (repeat' first | assumption | exact yo _ | refine yp ?_ _)) only [go_sem, k0.len, k0.idx, k0.load, load_at g0, toneC, dec_t hf]; with_reducible rfl))))
    refine cond_t rfl ?_
    ((repeat (first | refine ya (by (with_reducible constructor) <;> first | rfl | decide) ?_ | apply yb | refine yc rfl ?_ | ((first | apply yd | apply ye); simp (disch := first | exact yn | omega | (simp only [go_sem]; done) | (simp only [ln, ym]; omega) | (repeat' first | assumption | exact yo _ | refine yp ?_ _)) only [go_sem]; with_reducible rfl))))
    exact fin_1 rfl
  have hst : storeR 5 (.pointer (some ⟨G.length, 0, none⟩)) (toneV A D s) (G ++ [.cells true 0 [.int .i64 0, .int .i64 0, .int .i64 0, .int .i64 0, .slice none 0 0]]) = some (undef, G ++ [.cells true 0 (toneC A D s)]) := store_newN (us := toneC A D s) (by simp [toneC, isAtom_int, Sl.atom hl]) rfl rfl
  have x1 : Ext G (G ++ [AObj.cells true 0 (toneC A D s)]) := (Ext.refl G).app _
  have c3 : (G ++ [AObj.cells true 0 (toneC A D s)])[G.length]? = some (.cells true 0 (toneC A D s)) := at_new
  obtain ⟨G1, hG1⟩ : ∃ G1, G ++ [AObj.cells true 0 (toneC A D s)] = G1 := ⟨_, rfl⟩
  rw [hG1] at hst x1 c3
  ((repeat (first | refine ya (by (with_reducible constructor) <;> first | rfl | decide) ?_ | apply yb | refine yc rfl ?_ | ((first | apply yd | apply ye); simp (disch := first | exact yn | omega | (simp only [go_sem]; done) | (simp only [ln, ym]; omega) | (repeat' first | assumption | exact yo _ | refine yp ?_ _)) only [go_sem, k0.len, k0.idx, k0.load, load_at g0, toneC, dec_f hf]; with_reducible rfl))))
  refine cond_f rfl ?_
  have g1 := x1.cell g0
  have k1 := k0.ext x1
  have hld : loadNR 5 (.pointer (some ⟨H.length, 0, none⟩)) G = some (toneV A D s, G) := load_tone g0
  ((repeat (first | refine ya (by (with_reducible constructor) <;> first | rfl | decide) ?_ | apply yb | refine yc rfl ?_ | ((first | apply yd | apply ye); simp (disch := first | exact yn | omega | (simp only [go_sem]; done) | (simp only [ln, ym]; omega) | (repeat' first | assumption | exact yo _ | refine yp ?_ _)) only [go_sem, k1.len, k1.idx, k1.load, hld, hst, load_at g1, toneC]; with_reducible rfl))))
  (refine aops_call_to (copyInts_c k1 (by omega)) ?_)
  obtain ⟨w, hw⟩ : ∃ w, w = Value.slice (some ⟨G1.length, 0, none⟩) K.length K.length := ⟨_, rfl⟩
  rw [← hw]
  have wa : isAtom w = true := by rw [hw]; rfl
  have wc : w.cells = ⟨[w]⟩ := by rw [hw]; rfl
  have l1 : G.length < G1.length := (List.getElem?_eq_some_iff.1 c3).1
  have c3' := at_app (N := [AObj.cells true 1 (K.map (.int .i64))]) c3
  have hst4 := store_t4 (w := w) c3' wa wc
  have kw : Ints ((G1 ++ [AObj.cells true 1 (K.map (.int .i64))]).set G.length (.cells true 0 (toneC A D w))) K w := by
    refine ⟨by simp, .inr ⟨G1.length, 0, K.length, hw, fun _ => ?_⟩⟩
    unfold cellsAt
    rw [List.getElem?_set_ne (by omega), List.getElem?_append_right (Nat.le_refl _), Nat.sub_self]
    simp only [List.getElem?_cons_zero]
    rw [if_pos (by simp), List.drop_zero, List.take_of_length_le (by simp)]
  have x2 : Ext G ((G1 ++ [AObj.cells true 1 (K.map (.int .i64))]).set G.length (.cells true 0 (toneC A D w))) := (x1.app _).set (Nat.le_refl _) _
  have c4 : ((G1 ++ [AObj.cells true 1 (K.map (.int .i64))]).set G.length (.cells true 0 (toneC A D w)))[G.length]? = some (.cells true 0 (toneC A D w)) := get_set_self c3'
  obtain ⟨G2, hG2⟩ : ∃ G2, (G1 ++ [AObj.cells true 1 (K.map (.int .i64))]).set G.length (.cells true 0 (toneC A D w)) = G2 := ⟨_, rfl⟩
  rw [hG2] at hst4 kw x2 c4
  have hld2 : loadNR 5 (.pointer (some ⟨G.length, 0, none⟩)) G2 = some (toneV A D w, G2) := load_tone c4
  ((repeat (first | refine ya (by (with_reducible constructor) <;> first | rfl | decide) ?_ | apply yb | refine yc rfl ?_ | ((first | apply yd | apply ye); simp (disch := first | exact yn | omega | (simp only [go_sem]; done) | (simp only [ln, ym]; omega) | (repeat' first | assumption | exact yo _ | refine yp ?_ _)) only [go_sem, hst4, hld2]; with_reducible rfl))))
  refine aops_call ((marksOf_c kw (by omega)).mono fun v1 J h => ?_)
  obtain ⟨r, rfl, hr, x3⟩ := h.use
  have g2 := x3.cell (x2.cell g0)
  have k2 := k0.ext (x2.trans x3)
  have hld3 : loadNR 5 (.pointer (some ⟨H.length, 0, none⟩)) J = some (toneV A D s, J) := load_tone g2
  ((repeat (first | refine ya (by (with_reducible constructor) <;> first | rfl | decide) ?_ | apply yb | refine yc rfl ?_ | ((first | apply yd | apply ye); simp (disch := first | exact yn | omega | (simp only [go_sem]; done) | (simp only [ln, ym]; omega) | (repeat' first | assumption | exact yo _ | refine yp ?_ _)) only [go_sem, hld3]; with_reducible rfl))))
  (refine aops_call_to (rToneErr_c k2 (by omega)) ?_)
  ((repeat (first | refine ya (by (with_reducible constructor) <;> first | rfl | decide) ?_ | apply yb | refine yc rfl ?_ | ((first | apply yd | apply ye); simp (disch := first | exact yn | omega | (simp only [go_sem]; done) | (simp only [ln, ym]; omega) | (repeat' first | assumption | exact yo _ | refine yp ?_ _)) only [go_sem]; with_reducible rfl))))
  refine cond_p rfl (fun hne => ?_) (fun heq => ?_)
  · rw [if_neg hne] at hr
    ((repeat (first | refine ya (by (with_reducible constructor) <;> first | rfl | decide) ?_ | apply yb | refine yc rfl ?_ | ((first | apply yd | apply ye); simp (disch := first | exact yn | omega | (simp only [go_sem]; done) | (simp only [ln, ym]; omega) | (repeat' first | assumption | exact yo _ | refine yp ?_ _)) only [go_sem, hr.len, hr.idx, hr.load, decide_eq_self]; with_reducible rfl))))
    exact fin_1 rfl
  have hz := Decidable.not_not.1 heq
  rw [if_pos hz] at hr
  have hh : toneHead A D K.length = 0 := Decidable.byContradiction fun hn => by unfold tonesE at hz; rw [if_pos hn] at hz; exact hn hz
  ((repeat (first | refine ya (by (with_reducible constructor) <;> first | rfl | decide) ?_ | apply yb | refine yc rfl ?_ | ((first | apply yd | apply ye); simp (disch := first | exact yn | omega | (simp only [go_sem]; done) | (simp only [ln, ym]; omega) | (repeat' first | assumption | exact yo _ | refine yp ?_ _)) only [go_sem, dec_t hz, hld3]; with_reducible rfl))))
  refine aops_call ((rMarksOf_c k2 hh).mono fun v1 J2 h => ?_)
  obtain ⟨hr2, x4⟩ := h.use
  ((repeat (first | refine ya (by (with_reducible constructor) <;> first | rfl | decide) ?_ | apply yb | refine yc rfl ?_ | ((first | apply yd | apply ye); simp (disch := first | exact yn | omega | (simp only [go_sem]; done) | (simp only [ln, ym]; omega) | (repeat' first | assumption | exact yo _ | refine yp ?_ _)) only [go_sem]; with_reducible rfl))))
  (refine aops_call_to (sameMarks_c (hr.ext x4) hr2 (by rw [tonesTo_len]; omega)) ?_)
  ((repeat (first | refine ya (by (with_reducible constructor) <;> first | rfl | decide) ?_ | apply yb | refine yc rfl ?_ | ((first | apply yd | apply ye); simp (disch := first | exact yn | omega | (simp only [go_sem]; done) | (simp only [ln, ym]; omega) | (repeat' first | assumption | exact yo _ | refine yp ?_ _)) only [go_sem, decide_eq_self]; with_reducible rfl))))
  exact fin_1 rfl
end Go.Lq

namespace Go.Lq
open Go Go.ChangeShapes Go.WideShapes Go.ChangeAt Go.RowKit
open Go.Proofs

set_option maxRecDepth 100000 in
theorem lifted8 (os : Os) (started : os.Started) (X : Type) (enc : TypeId × Value → X) :
    ReturnsInHanded {} Try.checked os 8 .any (Yteimgikhanhgiaa.Rows.speedTonesSpec.pre6 enc Try.prog Try.f8 [] false) (Yteimgikhanhgiaa.Rows.speedTonesSpec.post enc Try.prog Try.f8 false true false false) := by
  refine returnsInHanded_of_plain_shaped (C := Try.checked) own_knob started (by kernel_rfl) Try.func8
    (ChangeSpec.witness6 (enc := enc) (C := Try.checked) false ⟨#[], #[.agg #[.int .i64 0, .int .i64 0, .int .i64 0, .int .i64 0, .slice none 0 0]], []⟩ 12 (by kernel_rfl) (by kernel_rfl) (by kernel_rfl) (by kernel_rfl)) ?_
  intro W base args ds gs before hsh hval hW
  have hWw := hW
  obtain ⟨p, q, hA, _⟩ := hW
  refine (calls_of_law (d := 20) (of_shaped hsh) globs glob_at hA (fun j t v h1 h2 => hval j t v (by simpa using h1) (by simpa using h2)) (by kernel_rfl) fun H avs hx h => ?_).mono fun e W' ⟨he, hB⟩ => ?_
  · exact law8 (by rw [show Try.f8.params = #[84] from Try.params8] at h; exact h)
  · subst he
    exact ⟨_, rfl, law_post (bt := 4) laid_out rfl Try.underlying4 (by kernel_rfl) (by kernel_rfl) hWw (fun ds hd => by
      rw [show Try.f8.params = #[84] from Try.params8] at hd
      match ds, hd with
      | [a], _ => rfl) hB⟩
theorem unf8 : Try.prog.unfollowed 8 = true := by kernel_rfl
theorem rec8 : Try.prog.recurses 8 = true := by kernel_rfl
theorem named8 : Try.prog.varsNamed 8 = Yteimgikhanhgiaa.Rows.speedTonesRow.named := by kernel_rfl
theorem facts8 : joinedFacts Try.prog 8 Try.f8 Yteimgikhanhgiaa.Rows.speedTonesSpec Yteimgikhanhgiaa.Rows.speedTonesRow = true := by
  unfold joinedFacts
  rw [may_enter, stops_heard, maps_rowed, laid_out, lifts_final, make_is, unf8, rec8, named8]
  kernel_rfl
theorem holds8 : Yteimgikhanhgiaa.Rows.SpeedTonesSaid :=
  OpenClaim.holds_of_wide 8 Try.f8 rfl rfl rfl rfl rfl rfl rfl ⟨rfl, rfl, rfl, rfl, rfl⟩ rfl rfl rfl rfl rfl (by kernel_rfl) Try.func8 facts8
    (of_decide_eq_true (by kernel_rfl)) (by unfold Func.isWrapper; first | (rw [if_pos (by decide +kernel)]; kernel_rfl) | (rw [if_neg (by decide +kernel)]; exact ⟨rfl, rfl⟩))
    (fun os started H enc _ => lifted8 os started H enc)
end Go.Lq
namespace Go.Proofs.Yteimgikhanhgiaa
open Go Go.Lq
theorem speedTones_proved : Rows.SpeedTonesSaid := holds8
end Go.Proofs.Yteimgikhanhgiaa
