/- Towards TopSpeedEncloses of seat Yteimgikhanhgiaa: it returns true for every input. Made out of the proof's own texts, merged. -/
import Derived.Test.YteimgikhanhgiaaV52
set_option linter.unusedSimpArgs false
set_option linter.unnecessarySimpa false
set_option linter.unusedVariables false
set_option linter.unusedSectionVars false
set_option maxRecDepth 100000
namespace Go.Lq
open Go
open Go.Proofs

theorem fin_ld {c : RCode} {n a : Nat} {R : Value → AHeap → Prop} {e : Env} {H : AHeap} {w : Value} (h2 : loadR (e.getD a undef) H = some (w, H)) (h : R w H) : Fin ⟨c, n, [.load a]⟩ R .ret e H := by
  refine ⟨.inr rfl, _, ?_, h⟩
  unfold loadR at h2
  split at h2
  · rename_i id' off' hp'
    simp only [Option.map_eq_some_iff, Prod.mk.injEq, and_true] at h2
    obtain ⟨us', h4, rfl⟩ := h2
    simp only [resultA, List.mapM_cons, resA, hp', h4, Option.map_some, List.mapM_nil]
    rfl
  · cases h2
def encAtL (L : Int × Int) (M : List Mark) (q : Int) : (Int × Int) × Int :=
  if firstErr [evErrL L M, (if 0 ≤ q ∧ q ≤ 1000000 then 0 else 2), (if 0 < M.length then 0 else 12)] ≠ 0 then ((0, 0), firstErr [evErrL L M, (if 0 ≤ q ∧ q ≤ 1000000 then 0 else 2), (if 0 < M.length then 0 else 12)])
  else if clashL L M = none then (encTo L M q M.length, 0) else ((0, 0), 13)
theorem ok3 {a : Int} {p q : Prop} [Decidable p] [Decidable q] {x y : Int} (hx : x ≠ 0) (hy : y ≠ 0) (h : firstErr [a, (if p then 0 else x), (if q then 0 else y)] = 0) : a = 0 ∧ p ∧ q := by
  by_cases ha : a = 0
  · rw [ha, firstErr_z] at h
    exact ⟨ha, two_err hx hy h⟩
  · rw [firstErr_e ha] at h; exact absurd h ha
theorem Keeps.of {k : Nat} {G H : AHeap} (h : Ext G H) : Keeps k G H := Keeps.of_ext h

section
variable {H : AHeap} {L : Int × Int} {M : List Mark} {v : Value}
theorem isPossible_c (hl : Tris H M v) (hk : EvOk L M) : ACall Go.Proofs.Try.prog 81 [evV L v] H fun w H' => w = .bool (decide (clashL L M = none)) ∧ H' = H := by
  refine ACall.drop (.bool _) ?_
  (refine a81 ?_; simp only [n81, List.replicate, yq, yr, yt, yu]; first | refine q1 ?_ | refine q2 ?_ | refine q6 ?_ | refine q7 ?_ | refine qh rfl ?_ | skip)
  obtain ⟨G, hG⟩ : ∃ G, G = H ++ [AObj.cells true 0 (evC L v)] ++ [AObj.cells true 0 [.bool false]] := ⟨_, rfl⟩
  have g0 : G[H.length]? = some (.cells true 0 (evC L v)) := by rw [hG]; simp
  have g1 : G[H.length + 1]? = some (.cells true 0 [.bool false]) := by rw [hG]; simp
  have xG : Ext H G := by rw [hG]; exact ((Ext.refl H).app _).app _
  have lG : G.length = H.length + 2 := by rw [hG]; simp
  (repeat (first | refine yv ?_ | (apply yd; simp (disch := first|exact zz|fail) only [go_sem, box_ev hl.atom]; with_reducible rfl)))
  (simp only [List.length_append, List.length_cons, List.length_nil, Nat.zero_add, Nat.add_assoc, Nat.reduceAdd])
  rw [← hG]
  clear hG
  (repeat (first | refine yw ?_ | ((first | apply yd | apply ye); simp (disch := first|exact zz|fail) only [go_sem, load_ev g0]; with_reducible rfl)))
  have hlG := hl.ext xG
  refine awp_rangeB (f := 100) (xs := [evV L v]) (ys := []) mo rfl (fun l h => by cases h) (clashes_c hk)
    (fun B rest H' => rest = pairI (allPairs L M) ∧ (∀ b, B b → G.length < b) ∧ Ext G H')
    (fun x H' => x = .ret ∧ allPairs L M ≠ [] ∧ H'[H.length + 1]? = some (.cells true 0 [.bool false]) ∧ Ext H H') ?_ ?_ ?_ ?_ ?_ ?_ ?_ ?_ ?_ ?_
  · rintro B rest H' c ⟨h1, h2, h3⟩
    exact ⟨h1, h2, h3.set (Nat.le_refl _) _⟩
  · rintro x H' c ⟨h1, h2, h3, h4⟩
    exact ⟨h1, h2, by rw [List.getElem?_set_ne (by omega)]; exact h3, h4.set (by omega) _⟩
  · rintro B rest H' ⟨h1, h2, h3⟩
    exact hlG.ext h3
  · rintro B rest H' N ⟨h1, h2, h3⟩
    exact ⟨h1, h2, h3.app N⟩
  · rintro B rest H' c ⟨h1, h2, h3⟩ hlt
    refine ⟨h1, fun b hb => ?_, h3.app _⟩
    rcases hb with hb | rfl
    · exact h2 b hb
    · exact hlt
  · rintro B b rest H' c hB ⟨h1, h2, h3⟩
    exact ⟨h1, h2, h3.set (by have := h2 b hB; omega) _⟩
  · intro N
    exact ⟨rfl, fun b h => h.elim, (Ext.refl G).app N⟩
  · rintro B a rest H1 hBl ⟨h1, h2, h3⟩ hlt
    have hne : allPairs L M ≠ [] := fun h => by rw [h] at h1; cases h1
    have ha : a.length = 2 := by
      cases hp : allPairs L M with
      | nil => exact absurd hp hne
      | cons p l => rw [hp] at h1; obtain ⟨rfl, _⟩ := List.cons.inj h1; rfl
    match a, ha with
    | [a1, a2], _ =>
    refine ⟨rfl, fun R Rb _ hR => ?_⟩
    simp only [assignParams, List.zip_cons_cons, List.zip_nil_left, List.foldl_cons, List.foldl_nil]
    (refine yg ?_)
    refine ⟨rfl, hR, ?_⟩
    have hRb : (H1.set G.length Rb)[G.length]? = some Rb := get_set_self hR
    have x5 : Ext G (H1.set G.length Rb) := h3.set (Nat.le_refl _) _
    generalize (H1.set G.length Rb : AHeap) = H2 at hRb x5
    have b2 := x5.cell g1
    (repeat (first | refine yw ?_ | ((first | apply yd | apply ye); simp (disch := first|exact zz|fail) only [go_sem, store_b1 b2 (y := .bool false) rfl rfl]; with_reducible rfl)))
    refine rounded_r ?_ ⟨rfl, hne, get_set_self b2, (xG.trans x5).set (by omega) _⟩
    rw [List.getElem?_set_ne (by omega)]; exact hRb
  · rintro B H' ⟨h1, h2, h3⟩
    have b2 := h3.cell g1
    have hn : clashL L M = none := by
      rw [← pairs_head]
      cases hp : allPairs L M with
      | nil => rfl
      | cons p l => rw [hp] at h1; cases h1
    (repeat (first | refine yw ?_ | ((first | apply yd | apply ye); simp (disch := first|exact zz|fail) only [go_sem, store_b1 b2 (y := .bool true) rfl rfl]; with_reducible rfl)))
    refine fin_ld (w := .bool true) (load1 (get_set_self b2)) ⟨by simp [hn], (xG.trans h3).set (by omega) _⟩
  · rintro x H' hx ⟨rfl, h1, h2, h3⟩
    have hn : clashL L M ≠ none := by
      rw [← pairs_head]
      cases hp : allPairs L M with
      | nil => exact absurd hp h1
      | cons p l => simp
    (refine yg ?_)
    refine fin_ld (w := .bool false) (load1 h2) ⟨by simp [hn], h3⟩

set_option maxHeartbeats 4000000 in
theorem enclosure_c {q : Int} (hl : Tris H M v) (hk : EvOk L M) (h0 : 0 < M.length) (hq : 0 ≤ q ∧ q ≤ 1000000) : ACall Go.Proofs.Try.prog 82 [evV L v, .int .i64 q] H fun w H' => w = fracV (encTo L M q M.length) ∧ H' = H := by
  refine ACall.drop (closed_frac _) ?_
  have hlen := hk.len
  (refine a82 ?_; simp only [n82, List.replicate, yq, yr, yt, yu]; first | refine q1 ?_ | refine q2 ?_ | refine q6 ?_ | refine q7 ?_ | refine qh rfl ?_ | skip)
  obtain ⟨G, hG⟩ : ∃ G, G = H ++ [AObj.cells true 0 (evC L v)] ++ [AObj.cells true 0 [.int .i64 0, .int .i64 0]] := ⟨_, rfl⟩
  have g0 : G[H.length]? = some (.cells true 0 (evC L v)) := by rw [hG]; simp
  have g1 : G[H.length + 1]? = some (.cells true 0 [.int .i64 0, .int .i64 0]) := by rw [hG]; simp
  have xG : Ext H G := by rw [hG]; exact ((Ext.refl H).app _).app _
  have lG : G.length = H.length + 2 := by rw [hG]; simp
  (repeat (first | refine yv ?_ | (apply yd; simp (disch := first|exact zz|fail) only [go_sem, box_ev hl.atom]; with_reducible rfl)))
  (simp only [List.length_append, List.length_cons, List.length_nil, Nat.zero_add, Nat.add_assoc, Nat.reduceAdd])
  rw [← hG]
  clear hG
  have hlG := hl.ext xG
  have hm0 := (hlG.load (Ext.refl G) (i := 0) h0).1
  have hix := hlG.idx (H' := G) (i := 0) (k := .i64) (by omega) (by omega)
  rw [show ((0 : Int).toNat * 3) = 0 * 3 from rfl] at hix
  (repeat (first | refine yw ?_ | ((first | apply yd | apply ye); simp (disch := first|exact zz|fail) only [go_sem, load_ev g0, load_at g0, evC, hix, hm0]; with_reducible rfl)))
  refine adraw_call (N := []) (firstD (carried_c (v := v) hl.atom hk h0 hq)) ?_
  rw [List.append_nil]
  obtain ⟨r, hr⟩ : ∃ r, byR L (M.getD 0 (0, 0, 0)) q = r := ⟨_, rfl⟩
  have hr1 : encTo L M q (0 + 1) = r := hr
  rw [hr]
  have hfr := hlG.from (H' := G ++ [AObj.cells true 0 [.int .i64 r.1, .int .i64 r.2]]) (lo := 1) (k := .i64) (by omega) (by omega) (by omega)
  rw [show ((1 : Int).toNat) = 1 from rfl] at hfr
  obtain ⟨n, hn⟩ : ∃ n, n = M.length - 1 := ⟨_, rfl⟩
  have hlen2 : (M.drop 1).length = n := by rw [List.length_drop]; omega
  have hrest := hlG.rest (lo := 1) (by omega)
  have g2 := at_app (N := [AObj.cells true 0 [.int .i64 r.1, .int .i64 r.2]]) g0
  have g3 : (G ++ [AObj.cells true 0 [.int .i64 r.1, .int .i64 r.2]])[G.length]? = some (.cells true 0 [.int .i64 r.1, .int .i64 r.2]) := at_new
  have x2 : Ext G (G ++ [AObj.cells true 0 [.int .i64 r.1, .int .i64 r.2]]) := (Ext.refl G).app _
  (repeat (first | refine yw ?_ | ((first | apply yd | apply ye); simp (disch := first|exact zz|fail) only [go_sem, hrest.len, hrest.idx, hrest.load, load_at g2, evC, hfr, hlen2, fracV]; with_reducible rfl)))
  generalize (G ++ [AObj.cells true 0 [.int .i64 r.1, .int .i64 r.2]] : AHeap) = G2 at g2 g3 x2 hfr
  refine awp_loop_n [false, true, true, false, true, true, false, false, false, false, false, false, false, false, false, false, false, false, false, false, true, true, true, false, false, false, false, false, false, false, false, false, false, false, false, false, false, false, false, false, false, false, false] n (fun j e H' => e = [junk, .int .i64 q, .pointer (some ⟨H.length, 0, none⟩), junk, .pointer (some ⟨H.length + 1, 0, none⟩), .pointer (some ⟨G.length, 0, none⟩), junk, junk, junk, junk, junk, junk, junk, junk, junk, junk, junk, junk, junk, junk, fromV 3 v 1, .int .i64 n, .int .i64 j, junk, junk, junk, junk, junk, junk, junk, junk, junk, junk, junk, junk, junk, junk, junk, junk, junk, junk, junk, junk] ∧
    Ext G H' ∧ H'[G.length]? = some (.cells true 0 [.int .i64 (encTo L M q (j + 1)).1, .int .i64 (encTo L M q (j + 1)).2])) ?_ ?_
  · exact ⟨by simp [forget], x2, by rw [hr1]; exact g3⟩
  rintro j e H2 hj ⟨rfl, x3, hc⟩
  have hrest2 := hrest.ext x3
  (refine yg ?_)
  refine cond_p rfl (fun hlt2 => ?_) (fun hge2 => ?_)
  rotate_left 1
  · obtain rfl : j = n := by omega
    have k1 := x3.cell g1
    rw [show j + 1 = M.length by omega] at hc
    (repeat (first | refine yw ?_ | ((first | apply yd | apply ye); simp (disch := first|exact zz|fail) only [go_sem, n2_at hc, store_b2 k1]; with_reducible rfl)))
    refine fin_l1 (u := fracV (encTo L M q M.length)) (loadN_at (k := 0) (get_set_self k1) (by simp)) ⟨rfl, (xG.trans x3).set (by omega) _⟩
  have hj' : j < n := by omega
  have ey : (M.drop 1).getD j (0, 0, 0) = M.getD (1 + j) (0, 0, 0) := getD_drop_mark
  have k0 := x3.cell g0
  have b1 := encTo_bound hk hq (i := j + 1) (by omega)
  have es : encTo L M q (j + 1 + 1) = (max (encTo L M q (j + 1)).1 (byR L (M.getD (1 + j) (0, 0, 0)) q).1, min (encTo L M q (j + 1)).2 (byR L (M.getD (1 + j) (0, 0, 0)) q).2) := by
    rw [Nat.add_comm 1 j]; rfl
  obtain ⟨y, hy⟩ : ∃ y, M.getD (1 + j) (0, 0, 0) = y := ⟨_, rfl⟩
  have hcr := fun J => carried_c (H := J) (v := v) (L := L) (M := M) (i := 1 + j) hl.atom hk (by omega) hq
  rw [hy] at ey es hcr
  obtain ⟨s, hs⟩ : ∃ s, byR L y q = s := ⟨_, rfl⟩
  rw [hs] at es hcr
  (repeat (first | refine yv ?_ | (apply yd; simp (disch := first|exact zz|fail) only [go_sem, hrest2.len, hrest2.idx, hrest2.load, store_new3, ey]; with_reducible rfl)))
  rw [new_mark y]
  have k0 := at_app (N := [AObj.cells true 0 (markC y)]) k0
  have hc := at_app (N := [AObj.cells true 0 (markC y)]) hc
  have hc7 : (H2 ++ [AObj.cells true 0 (markC y)])[H2.length]? = some (AObj.cells true 0 (markC y)) := at_new
  have x3 := x3.app [AObj.cells true 0 (markC y)]
  generalize H2 ++ [AObj.cells true 0 (markC y)] = G3 at k0 hc hc7 x3
  (repeat (first | refine yw ?_ | ((first | apply yd | apply ye); simp (disch := first|exact zz|fail) only [go_sem, load_ev k0, load_mark hc7]; with_reducible rfl)))
  (refine aops_call_to (hcr G3) ?_)
  have hst : storeR 2 (.pointer (some ⟨G3.length, 0, none⟩)) (fracV s) (G3 ++ [.cells true 0 [.int .i64 0, .int .i64 0]]) = some (undef, G3 ++ [.cells true 0 [.int .i64 s.1, .int .i64 s.2]]) := store_new2
  (repeat (first | refine yw ?_ | ((first | apply yd | apply ye); simp (disch := first|exact zz|fail) only [go_sem, hst]; with_reducible rfl)))
  have hc8 : (G3 ++ [AObj.cells true 0 [.int .i64 s.1, .int .i64 s.2]])[G3.length]? = some (AObj.cells true 0 [.int .i64 s.1, .int .i64 s.2]) := at_new
  have hc := at_app (N := [AObj.cells true 0 [.int .i64 s.1, .int .i64 s.2]]) hc
  have x3 := x3.app [AObj.cells true 0 [.int .i64 s.1, .int .i64 s.2]]
  generalize G3 ++ [AObj.cells true 0 [.int .i64 s.1, .int .i64 s.2]] = G4 at hc hc8 x3
  generalize encTo L M q (j + 1) = u at *
  (repeat (first | refine yw ?_ | ((first | apply yd | apply ye); simp (disch := first|exact zz|fail) only [go_sem, load_at hc, load_at hc8, fill2i, store_b2 hc]; with_reducible rfl)))
  exact ⟨by omega, by simp [forget], x3.set (Nat.le_refl _) _, by rw [es]; exact get_set_self hc⟩
theorem encAt_c {q : Int} (hl : Tris H M v) (hb : M.length ≤ 1000000000) : ACall Go.Proofs.Try.prog 21 [evV L v, .int .i64 q] H fun w H' => w = .tuple #[fracV (encAtL L M q).1, .int .i64 (encAtL L M q).2] ∧ H' = H := by
  refine ACall.drop (closed_frac1 _ _) ?_
  (refine a21 ?_; simp only [n21, List.replicate, yq, yr, yt, yu]; first | refine q1 ?_ | refine q2 ?_ | refine q6 ?_ | refine q7 ?_ | refine qh rfl ?_ | skip)
  obtain ⟨G, hG⟩ : ∃ G, G = H ++ [AObj.cells true 0 (evC L v)] ++ [AObj.cells true 0 [.int .i64 0, .int .i64 0]] := ⟨_, rfl⟩
  have g0 : G[H.length]? = some (.cells true 0 (evC L v)) := by rw [hG]; simp
  have g1 : G[H.length + 1]? = some (.cells true 0 [.int .i64 0, .int .i64 0]) := by rw [hG]; simp
  have xG : Ext H G := by rw [hG]; exact ((Ext.refl H).app _).app _
  (repeat (first | refine yv ?_ | (apply yd; simp (disch := first|exact zz|fail) only [go_sem, box_ev hl.atom]; with_reducible rfl)))
  (simp only [List.length_append, List.length_cons, List.length_nil, Nat.zero_add, Nat.add_assoc, Nat.reduceAdd])
  rw [← hG]
  clear hG
  (repeat (first | refine yw ?_ | ((first | apply yd | apply ye); simp (disch := first|exact zz|fail) only [go_sem, load_ev g0]; with_reducible rfl)))
  refine aops_call ((open_c (hl.ext xG) hb).mono fun w G2 ⟨hw, x2⟩ => ?_)
  subst hw
  have hst : storeR 3 (.pointer (some ⟨G2.length, 0, none⟩)) (evV L v) (G2 ++ [.cells true 0 [.int .i64 0, .int .i64 0, .slice none 0 0]]) = some (undef, G2 ++ [.cells true 0 (evC L v)]) := store_newN (by simp [hl.atom, isAtom_int]) rfl rfl
  (repeat (first | refine yw ?_ | ((first | apply yd | apply ye); simp (disch := first|exact zz|fail) only [go_sem, hst]; with_reducible rfl)))
  have k6 : (G2 ++ [AObj.cells true 0 (evC L v)])[G2.length]? = some (.cells true 0 (evC L v)) := at_new
  have x3 := x2.app [AObj.cells true 0 (evC L v)]
  generalize (G2 ++ [AObj.cells true 0 (evC L v)] : AHeap) = G3 at k6 x3
  have xH3 := xG.trans x3
  have hl3 := hl.ext xH3
  have k0 := x3.cell g0
  have k1 := x3.cell g1
  (refine yg ?_)
  (refine adraw_call (N := []) (firstD (isPosition_c _)) ?_; rw [List.append_nil])
  (refine yg ?_)
  (refine adraw_call (N := []) (firstD (sunless_c _ _)) ?_; rw [List.append_nil])
  (repeat (first | refine yw ?_ | ((first | apply yd | apply ye); simp (disch := first|exact zz|fail) only [go_sem, hl3.len, hl3.idx, hl3.load, load_at k0, evC]; with_reducible rfl)))
  (refine adraw_call (N := []) (firstD (sunless_c _ _)) ?_; rw [List.append_nil])
  (refine yg ?_)
  (refine adraw_call (N := []) (firstD (sfirst_c (l := [_, _, _]) (Ints.last (l := [_, _, _]) 3) (by simp))) ?_; rw [List.append_nil])
  have e1 : firstErr [evErrL L M, (if decide (0 ≤ q ∧ q ≤ 1000000) = true then 0 else 2), (if decide ((0 : Int) < (M.length : Int)) = true then 0 else 12)] = firstErr [evErrL L M, (if 0 ≤ q ∧ q ≤ 1000000 then 0 else 2), (if 0 < M.length then 0 else 12)] := by
    simp only [decide_eq_true_eq, Int.natCast_pos]
  rw [e1]
  have x4 := x3.app [AObj.cells true 1 [.int .i64 (evErrL L M), .int .i64 (if decide (0 ≤ q ∧ q ≤ 1000000) = true then 0 else 2), .int .i64 (if decide ((0 : Int) < (M.length : Int)) = true then 0 else 12)]]
  have k6 := at_app (N := [AObj.cells true 1 [.int .i64 (evErrL L M), .int .i64 (if decide (0 ≤ q ∧ q ≤ 1000000) = true then 0 else 2), .int .i64 (if decide ((0 : Int) < (M.length : Int)) = true then 0 else 12)]]) k6
  generalize (G3 ++ [AObj.cells true 1 [.int .i64 (evErrL L M), .int .i64 (if decide (0 ≤ q ∧ q ≤ 1000000) = true then 0 else 2), .int .i64 (if decide ((0 : Int) < (M.length : Int)) = true then 0 else 12)]] : AHeap) = G4 at x4 k6
  have k1 := x4.cell g1
  have xH4 := xG.trans x4
  have hl4 := hl.ext xH4
  (refine yg ?_)
  refine cond_p rfl (fun hne => ?_) (fun heq => ?_)
  · have ev : encAtL L M q = ((0, 0), firstErr [evErrL L M, (if 0 ≤ q ∧ q ≤ 1000000 then 0 else 2), (if 0 < M.length then 0 else 12)]) := by unfold encAtL; rw [if_pos hne]
    rw [ev]
    (repeat (first | refine yw ?_ | ((first | apply yd | apply ye); simp (disch := first|exact zz|fail) only [go_sem, fill_none, store_b2 k1]; with_reducible rfl)))
    refine fin_l2f rfl (get_set_self k1) ⟨rfl, xH4.set (by omega) _⟩
  obtain ⟨z1, z2, z3⟩ := ok3 (by decide) (by decide) (Decidable.not_not.1 heq)
  have ev : encAtL L M q = if clashL L M = none then (encTo L M q M.length, 0) else ((0, 0), 13) := by unfold encAtL; rw [if_neg heq]
  have hk := evErr_ok z1
  (repeat (first | refine yw ?_ | ((first | apply yd | apply ye); simp (disch := first|exact zz|fail) only [go_sem, load_ev k6]; with_reducible rfl)))
  (refine aops_call_to (isPossible_c hl4 hk) ?_)
  by_cases hc : clashL L M = none
  · rw [if_pos hc] at ev
    rw [ev]
    (repeat (first | refine yw ?_ | ((first | apply yd | apply ye); simp (disch := first|exact zz|fail) only [go_sem, dec_t hc]; with_reducible rfl)))
    refine cond_f rfl ?_
    (repeat (first | refine yw ?_ | ((first | apply yd | apply ye); simp (disch := first|exact zz|fail) only [go_sem, load_ev k6]; with_reducible rfl)))
    (refine aops_call_to (enclosure_c hl4 hk z3 z2) ?_)
    have hst2 : storeR 2 (.pointer (some ⟨H.length + 1, 0, none⟩)) (fracV (encTo L M q M.length)) G4 = some (undef, G4.set (H.length + 1) (.cells true 0 [.int .i64 (encTo L M q M.length).1, .int .i64 (encTo L M q M.length).2])) := store_b2 k1
    (repeat (first | refine yw ?_ | ((first | apply yd | apply ye); simp (disch := first|exact zz|fail) only [go_sem, hst2]; with_reducible rfl)))
    refine fin_l2f rfl (get_set_self k1) ⟨rfl, xH4.set (by omega) _⟩
  · rw [if_neg hc] at ev
    rw [ev]
    (repeat (first | refine yw ?_ | ((first | apply yd | apply ye); simp (disch := first|exact zz|fail) only [go_sem, dec_f hc]; with_reducible rfl)))
    refine cond_t rfl ?_
    (repeat (first | refine yw ?_ | ((first | apply yd | apply ye); simp (disch := first|exact zz|fail) only [go_sem, fill_none, store_b2 k1]; with_reducible rfl)))
    refine fin_l2f rfl (get_set_self k1) ⟨rfl, xH4.set (by omega) _⟩
end
end Go.Lq


namespace Go.Lq
open Go
open Go.Proofs

def subV (sz : Nat) (v : Value) (lo hi : Nat) : Value := match v with | .slice (some ⟨id, off, none⟩) _ _ => .slice (some ⟨id, off + lo * sz, none⟩) (hi - lo) (if hi = lo then 1 else hi - lo) | v => v
theorem Sl.part {H : AHeap} {sz n : Nat} {vs : List Value} {v : Value} (h : Sl H sz n vs v) {H' : AHeap} {lo hi : Nat} (hn : 0 < n) (h0 : lo ≤ hi) (h1 : hi ≤ n) :
    sliceR sz v (some (.int .i64 (lo : Int))) (some (.int .i64 (hi : Int))) none H' = some (subV sz v lo hi, H') := by
  rcases h.2 with ⟨rfl, rfl⟩ | ⟨id, off, c, rfl, _⟩
  · omega
  · have e1 : ((hi : Int) - (lo : Int)).toNat = hi - lo := by omega
    have e2 : ((hi : Int) = (lo : Int)) = (hi = lo) := by simp; omega
    have hc : (0 : Int) ≤ (lo : Int) ∧ (lo : Int) ≤ (hi : Int) ∧ (hi : Int) ≤ (n : Int) := by omega
    simp only [sliceR, sliceA, loA, hiA, if_pos hc, Option.map_some, subV, e1, e2, Int.toNat_natCast]
theorem Sl.parted {H : AHeap} {sz n : Nat} {vs : List Value} {v : Value} (h : Sl H sz n vs v) {lo hi : Nat} (h0 : lo ≤ hi) (h1 : hi ≤ n) : Sl H sz (hi - lo) ((vs.drop (lo * sz)).take ((hi - lo) * sz)) (subV sz v lo hi) := by
  obtain ⟨hl, h⟩ := h
  have m1 := Nat.mul_le_mul_right sz h1
  have m2 : lo * sz + (hi - lo) * sz = hi * sz := by rw [← Nat.add_mul]; congr 1; omega
  refine ⟨by rw [List.length_take, List.length_drop, hl]; omega, ?_⟩
  rcases h with ⟨rfl, rfl⟩ | ⟨id, off, c, rfl, hc⟩
  · exact .inl ⟨rfl, by omega⟩
  · exact .inr ⟨id, off + lo * sz, _, rfl, fun hn => cellsAt_sub (hc (by omega)) (i := lo * sz) (m := (hi - lo) * sz) (by omega)⟩
theorem flat3_take (M : List Mark) : ∀ n, (flat3 M).take (n * 3) = flat3 (M.take n) := by
  induction M with
  | nil => intro n; simp [flat3]
  | cons p M ih =>
    intro n
    cases n with
    | zero => simp [flat3]
    | succ n =>
      rw [Nat.add_mul, Nat.one_mul]
      have := ih n
      simpa [flat3] using this
theorem Tris.part {H : AHeap} {M : List Mark} {v : Value} (h : Tris H M v) {H' : AHeap} {lo hi : Nat} (hn : 0 < M.length) (h0 : lo ≤ hi) (h1 : hi ≤ M.length) :
    sliceR 3 v (some (.int .i64 (lo : Int))) (some (.int .i64 (hi : Int))) none H' = some (subV 3 v lo hi, H') := Sl.part h hn h0 h1
theorem Tris.parted {H : AHeap} {M : List Mark} {v : Value} (h : Tris H M v) {lo hi : Nat} (h0 : lo ≤ hi) (h1 : hi ≤ M.length) : Tris H ((M.drop lo).take (hi - lo)) (subV 3 v lo hi) := by
  have := Sl.parted h h0 h1
  unfold Tris
  rw [List.length_take, List.length_drop, Nat.min_eq_left (by omega), ← flat3_take, ← flat3_drop]
  exact this
theorem getD_part {M : List Mark} {lo n j : Nat} (hj : j < n) : ((M.drop lo).take n).getD j (0, 0, 0) = M.getD (lo + j) (0, 0, 0) := by
  rw [List.getD_eq_getElem?_getD, List.getD_eq_getElem?_getD, List.getElem?_take_of_lt hj, List.getElem?_drop]
def idxF (p : Mark → Bool) (M : List Mark) (i : Nat) : Nat → Option Nat
  | 0 => none
  | n + 1 => if p (M.getD i (0, 0, 0)) = true then some i else idxF p M (i + 1) n
theorem idxF_succ {p : Mark → Bool} {M : List Mark} {i n : Nat} : idxF p M i (n + 1) = if p (M.getD i (0, 0, 0)) = true then some i else idxF p M (i + 1) n := rfl
theorem idxF_some {p : Mark → Bool} {M : List Mark} : ∀ {n i r : Nat}, idxF p M i n = some r → i ≤ r ∧ r < i + n ∧ p (M.getD r (0, 0, 0)) = true
  | 0, i, r, h => by cases h
  | n + 1, i, r, h => by
    unfold idxF at h
    split at h
    · rename_i hp; cases h; exact ⟨Nat.le_refl _, by omega, hp⟩
    · obtain ⟨a, b, c⟩ := idxF_some h; exact ⟨by omega, by omega, c⟩
theorem idxF_any {p : Mark → Bool} {M : List Mark} : ∀ {n i : Nat}, idxF p M i n = none ↔ ∀ k, i ≤ k → k < i + n → p (M.getD k (0, 0, 0)) = false
  | 0, i => ⟨fun _ k h1 h2 => by omega, fun _ => rfl⟩
  | n + 1, i => by
    unfold idxF
    by_cases hp : p (M.getD i (0, 0, 0)) = true
    · rw [if_pos hp]
      exact ⟨fun h => (by cases h), fun h => by rw [h i (Nat.le_refl _) (by omega)] at hp; cases hp⟩
    · rw [if_neg hp, idxF_any]
      refine ⟨fun h k h1 h2 => ?_, fun h k h1 h2 => h k (by omega) (by omega)⟩
      by_cases e : k = i
      · subst e; simpa using hp
      · exact h k (by omega) (by omega)
section
variable {H : AHeap} {L : Int × Int} {M : List Mark} {v : Value}
theorem keeps_c {p : (Int × Int) × (Int × Int)} (hL : (1 ≤ L.1 ∧ L.1 ≤ 100000) ∧ (1 ≤ L.2 ∧ L.2 ≤ 100000)) (p1 : 0 ≤ p.1.1 ∧ p.1.1 ≤ 1000000) (p2 : 0 ≤ p.2.1 ∧ p.2.1 ≤ 1000000) (p3 : 0 ≤ p.1.2 ∧ p.1.2 ≤ 1000000000000) (p4 : 0 ≤ p.2.2 ∧ p.2.2 ≤ 1000000000000) :
    ACall Go.Proofs.Try.prog 98 [pieceV p, .agg ⟨[.int .i64 L.1, .int .i64 L.2]⟩] H fun w H' => w = .bool (keepsB L p) ∧ H' = H := by
  refine ACall.drop (.bool _) ?_
  (refine a98 ?_; simp only [n98, List.replicate, yq, yr, yt, yu]; first | refine q1 ?_ | refine q2 ?_ | refine q6 ?_ | refine q7 ?_ | refine qh rfl ?_ | skip)
  obtain ⟨G, hG⟩ : ∃ G, G = H ++ [AObj.cells true 0 (pieceC p)] ++ [AObj.cells true 0 [.int .i64 L.1, .int .i64 L.2]] := ⟨_, rfl⟩
  have g0 : G[H.length]? = some (.cells true 0 (pieceC p)) := by rw [hG]; simp
  have g1 : G[H.length + 1]? = some (.cells true 0 [.int .i64 L.1, .int .i64 L.2]) := by rw [hG]; simp
  have xG : Ext H G := by rw [hG]; exact ((Ext.refl H).app _).app _
  (repeat (first | refine yv ?_ | (apply yd; simp (disch := first|exact zz|fail) only [go_sem, box_piece]; with_reducible rfl)))
  (simp only [List.length_append, List.length_cons, List.length_nil, Nat.zero_add, Nat.add_assoc, Nat.reduceAdd])
  rw [← hG]
  clear hG
  obtain ⟨d, hd⟩ : ∃ d, p.2.1 - p.1.1 = d := ⟨_, rfl⟩
  have m1 := mul_abs (x := L.1) (y := d) (a := 100000) (b := 1000000) ⟨by omega, by omega⟩ ⟨by omega, by omega⟩
  have m2 := mul_abs (x := L.2) (y := d) (a := 100000) (b := 1000000) ⟨by omega, by omega⟩ ⟨by omega, by omega⟩
  (repeat (first | refine yw ?_ | ((first | apply yd | apply ye); simp (disch := first|exact zz|fail) only [go_sem, load_piece g0]; with_reducible rfl)))
  (refine adraw_call (N := []) (firstD (times_c ⟨by omega, by omega⟩)) ?_; rw [List.append_nil])
  (repeat (first | refine yw ?_ | ((first | apply yd | apply ye); simp (disch := first|exact zz|fail) only [go_sem, load_at g1, load_piece g0]; with_reducible rfl)))
  (refine adraw_call (N := []) (firstD (positions_c ⟨by omega, by omega⟩)) ?_; rw [List.append_nil])
  rw [hd]
  (repeat (first | refine yw ?_ | ((first | apply yd | apply ye); simp (disch := first|exact zz|fail) only [go_sem, load_at g1, load_piece g0]; with_reducible rfl)))
  (refine adraw_call (N := []) (firstD (positions_c ⟨by omega, by omega⟩)) ?_; rw [List.append_nil])
  rw [hd]
  (refine yg ?_)
  (refine adraw_call (N := []) (firstD (swithin_c _ _ _)) ?_; rw [List.append_nil])
  (refine yg ?_)
  refine fin_1 ⟨?_, xG⟩
  unfold keepsB
  rw [hd]
  rfl
theorem meets_c {p : (Int × Int) × (Int × Int)} {x : Mark} (p1 : 0 ≤ p.1.1 ∧ p.1.1 ≤ 1000000) (p2 : 0 ≤ p.2.1 ∧ p.2.1 ≤ 1000000) (p3 : 0 ≤ p.1.2 ∧ p.1.2 ≤ 1000000000000) (p4 : 0 ≤ p.2.2 ∧ p.2.2 ≤ 1000000000000)
    (p5 : p.1.1 < p.2.1) (p6 : p.1.2 < p.2.2) (h1 : p.1.1 ≤ x.1) (h2 : x.1 ≤ p.2.1) (x1 : 0 ≤ x.2.1 ∧ x.2.1 ≤ 1000000000000) (x2 : 0 ≤ x.2.2 ∧ x.2.2 ≤ 1000000000000) :
    ACall Go.Proofs.Try.prog 99 [pieceV p, markV x] H fun w H' => w = .bool (meetsB p x) ∧ H' = H := by
  refine ACall.drop (.bool _) ?_
  (refine a99 ?_; simp only [n99, List.replicate, yq, yr, yt, yu]; first | refine q1 ?_ | refine q2 ?_ | refine q6 ?_ | refine q7 ?_ | refine qh rfl ?_ | skip)
  obtain ⟨G, hG⟩ : ∃ G, G = H ++ [AObj.cells true 0 (pieceC p)] ++ [AObj.cells true 0 (markC x)] := ⟨_, rfl⟩
  have g0 : G[H.length]? = some (.cells true 0 (pieceC p)) := by rw [hG]; simp
  have g1 : G[H.length + 1]? = some (.cells true 0 (markC x)) := by rw [hG]; simp
  have xG : Ext H G := by rw [hG]; exact ((Ext.refl H).app _).app _
  (repeat (first | refine yv ?_ | (apply yd; simp (disch := first|exact zz|fail) only [go_sem, box_piece, box_mark]; with_reducible rfl)))
  (simp only [List.length_append, List.length_cons, List.length_nil, Nat.zero_add, Nat.add_assoc, Nat.reduceAdd])
  rw [← hG]
  clear hG
  obtain ⟨d, hd⟩ : ∃ d, p.2.1 - p.1.1 = d := ⟨_, rfl⟩
  have m1 := mul_abs (x := x.2.1) (y := d) (a := 1000000000000) (b := 1000000) ⟨by omega, by omega⟩ ⟨by omega, by omega⟩
  have m2 := mul_abs (x := x.2.2) (y := d) (a := 1000000000000) (b := 1000000) ⟨by omega, by omega⟩ ⟨by omega, by omega⟩
  (repeat (first | refine yw ?_ | ((first | apply yd | apply ye); simp (disch := first|exact zz|fail) only [go_sem, load_piece g0, load_at g1, markC]; with_reducible rfl)))
  (refine adraw_call (N := []) (firstD (timeAtP_c p1 p2 p3 p4 p5 p6 h1 h2)) ?_; rw [List.append_nil])
  (repeat (first | refine yw ?_ | ((first | apply yd | apply ye); simp (disch := first|exact zz|fail) only [go_sem, load_piece g0, load_at g1, markC]; with_reducible rfl)))
  (refine adraw_call (N := []) (firstD (positions_c ⟨by omega, by omega⟩)) ?_; rw [List.append_nil])
  rw [hd]
  (repeat (first | refine yw ?_ | ((first | apply yd | apply ye); simp (disch := first|exact zz|fail) only [go_sem, load_piece g0, load_at g1, markC]; with_reducible rfl)))
  (refine adraw_call (N := []) (firstD (positions_c ⟨by omega, by omega⟩)) ?_; rw [List.append_nil])
  rw [hd]
  (refine yg ?_)
  (refine adraw_call (N := []) (firstD (swithin_c _ _ _)) ?_; rw [List.append_nil])
  (refine yg ?_)
  refine fin_1 ⟨?_, xG⟩
  unfold meetsB
  rw [hd]
  rfl
set_option maxHeartbeats 4000000 in
theorem indexM_c {g : FuncId} {ys : List Value} {p : Mark → Bool} (hl : Tris H M v) (hb : M.length ≤ 1000000000) (hg : ∀ (k : Nat) (J : AHeap), k < M.length → Ext H J → ACall Go.Proofs.Try.prog g (markV (M.getD k (0, 0, 0)) :: ys) J fun w H' => w = .bool (p (M.getD k (0, 0, 0))) ∧ H' = J) :
    ACall Go.Proofs.Try.prog 127 [v, .func (.func g) #[] ⟨ys⟩] H fun w H' => w = .int .i64 (match idxF p M 0 M.length with | some r => (r : Int) | none => -1) ∧ H' = H := by
  (refine a127 ?_; simp only [n127, List.replicate, yq, yr, yt, yu]; first | refine q1 ?_ | refine q2 ?_ | refine q6 ?_ | refine q7 ?_ | refine qh rfl ?_ | skip)
  (repeat (first | refine yw ?_ | ((first | apply yd | apply ye); simp (disch := first|exact zz|fail) only [go_sem, hl.len, hl.idx, hl.load]; with_reducible rfl)))
  refine awp_loop_n [true, true, false, false, false, false, false, true, true, false, false, false, false, false, false, false, false, false, false] M.length (fun i e H' => H' = H ∧ e = [v, .func (.func g) #[] ⟨ys⟩, junk, junk, junk, junk, junk, .int .i64 M.length, .int .i64 i, junk, junk, junk, junk, junk, junk, junk, junk, junk, junk] ∧ idxF p M 0 M.length = idxF p M i (M.length - i)) ?_ ?_
  · exact ⟨rfl, by simp [forget], by simp⟩
  rintro i e H' hi ⟨rfl, rfl, hp⟩
  (refine yg ?_)
  refine cond_p rfl (fun hlt => ?_) (fun hge => ?_)
  rotate_left 1
  · obtain rfl : i = M.length := by omega
    rw [Nat.sub_self] at hp
    (refine yg ?_)
    exact fin_1 ⟨by rw [hp]; rfl, rfl⟩
  have hi' : i < M.length := by omega
  rw [show M.length - i = M.length - (i + 1) + 1 by omega, idxF_succ] at hp
  have hgi := hg i H' hi' (Ext.refl _)
  (repeat (first | refine yw ?_ | ((first | apply yd | apply ye); simp (disch := first|exact zz|fail) only [go_sem, hl.len, hl.idx, hl.load]; with_reducible rfl)))
  refine aops_call_to hgi ?_
  generalize hpx : p (M.getD i (0, 0, 0)) = b at *
  cases b with
  | true =>
    rw [if_pos rfl] at hp
    (refine yg ?_)
    refine cond_t rfl ?_
    (refine yg ?_)
    exact fin_1 ⟨by rw [hp]; rfl, rfl⟩
  | false =>
    rw [if_neg (by simp)] at hp
    (refine yg ?_)
    refine cond_f rfl ?_
    (refine yg ?_)
    exact ⟨by omega, rfl, by simp [forget], hp⟩
theorem containsM_c {g : FuncId} {ys : List Value} {p : Mark → Bool} (hl : Tris H M v) (hb : M.length ≤ 1000000000) (hg : ∀ (k : Nat) (J : AHeap), k < M.length → Ext H J → ACall Go.Proofs.Try.prog g (markV (M.getD k (0, 0, 0)) :: ys) J fun w H' => w = .bool (p (M.getD k (0, 0, 0))) ∧ H' = J) :
    ACall Go.Proofs.Try.prog 102 [v, .func (.func g) #[] ⟨ys⟩] H fun w H' => w = .bool (idxF p M 0 M.length).isSome ∧ H' = H := by
  (refine a102 ?_; simp only [n102, List.replicate, yq, yr, yt, yu]; first | refine q1 ?_ | refine q2 ?_ | refine q6 ?_ | refine q7 ?_ | refine qh rfl ?_ | skip)
  (refine yg ?_)
  (refine aops_call_to (indexM_c hl hb hg) ?_)
  cases hx : idxF p M 0 M.length with
  | none =>
    (repeat (first | refine yw ?_ | ((first | apply yd | apply ye); simp (disch := first|exact zz|fail) only [go_sem, dec_f (show ¬ (0 : Int) ≤ -1 by omega)]; with_reducible rfl)))
    exact fin_1 ⟨rfl, rfl⟩
  | some r =>
    (repeat (first | refine yw ?_ | ((first | apply yd | apply ye); simp (disch := first|exact zz|fail) only [go_sem, dec_t (show (0 : Int) ≤ (r : Int) by omega)]; with_reducible rfl)))
    exact fin_1 ⟨rfl, rfl⟩
theorem joins1_c {p : (Int × Int) × (Int × Int)} {x : Mark} {id : Nat} (h : H[id]? = some (.cells true 0 (pieceC p))) (p1 : 0 ≤ p.1.1 ∧ p.1.1 ≤ 1000000) (p2 : 0 ≤ p.2.1 ∧ p.2.1 ≤ 1000000) (p3 : 0 ≤ p.1.2 ∧ p.1.2 ≤ 1000000000000) (p4 : 0 ≤ p.2.2 ∧ p.2.2 ≤ 1000000000000)
    (p5 : p.1.1 < p.2.1) (p6 : p.1.2 < p.2.2) (h1 : p.1.1 ≤ x.1) (h2 : x.1 ≤ p.2.1) (x1 : 0 ≤ x.2.1 ∧ x.2.1 ≤ 1000000000000) (x2 : 0 ≤ x.2.2 ∧ x.2.2 ≤ 1000000000000) :
    ACall Go.Proofs.Try.prog 136 [markV x, .pointer (some ⟨id, 0, none⟩)] H fun w H' => w = .bool (!meetsB p x) ∧ H' = H := by
  refine ACall.drop (.bool _) ?_
  (refine a136 ?_; simp only [n136, List.replicate, yq, yr, yt, yu]; first | refine q1 ?_ | refine q2 ?_ | refine q6 ?_ | refine q7 ?_ | refine qh rfl ?_ | skip)
  have g0 : (H ++ [AObj.cells true 0 (markC x)])[H.length]? = some (.cells true 0 (markC x)) := at_new
  have xG : Ext H (H ++ [AObj.cells true 0 (markC x)]) := (Ext.refl H).app _
  (repeat (first | refine yv ?_ | (apply yd; simp (disch := first|exact zz|fail) only [go_sem, box_mark]; with_reducible rfl)))
  generalize (H ++ [AObj.cells true 0 (markC x)] : AHeap) = G at g0 xG
  (repeat (first | refine yw ?_ | ((first | apply yd | apply ye); simp (disch := first|exact zz|fail) only [go_sem, load_mark g0, load_piece (xG.cell h)]; with_reducible rfl)))
  (refine aops_call_to (meets_c p1 p2 p3 p4 p5 p6 h1 h2 x1 x2) ?_)
  (refine yg ?_)
  exact fin_1 ⟨rfl, xG⟩
set_option maxHeartbeats 4000000 in
theorem joins_c {i k : Nat} {s t : Int} (hl : Tris H M v) (hk : EvOk L M) (hik : i < k) (hkl : k < M.length) (hs : inR M i s) (ht : inR M k t) :
    ACall Go.Proofs.Try.prog 129 [evV L v, .int .i64 i, .int .i64 k, pieceV (pieceK M i k s t)] H fun w H' => w = .bool (joinsB L M i k s t) ∧ H' = H := by
  refine ACall.drop (.bool _) ?_
  have hlen := hk.len
  have p1 : 0 ≤ (pieceK M i k s t).1.1 ∧ (pieceK M i k s t).1.1 ≤ 1000000 := hk.pos i (by omega)
  have p2 : 0 ≤ (pieceK M i k s t).2.1 ∧ (pieceK M i k s t).2.1 ≤ 1000000 := hk.pos k hkl
  have p3 : 0 ≤ (pieceK M i k s t).1.2 ∧ (pieceK M i k s t).1.2 ≤ 1000000000000 := by
    have a := hk.t1 i (by omega); have b := hk.t2 i (by omega); have c : (M.getD i (0, 0, 0)).2.1 ≤ s ∧ s ≤ (M.getD i (0, 0, 0)).2.2 := hs
    show 0 ≤ s ∧ s ≤ _; omega
  have p4 : 0 ≤ (pieceK M i k s t).2.2 ∧ (pieceK M i k s t).2.2 ≤ 1000000000000 := by
    have a := hk.t1 k hkl; have b := hk.t2 k hkl; have c : (M.getD k (0, 0, 0)).2.1 ≤ t ∧ t ≤ (M.getD k (0, 0, 0)).2.2 := ht
    show 0 ≤ t ∧ t ≤ _; omega
  have p5 : (pieceK M i k s t).1.1 < (pieceK M i k s t).2.1 := hk.lt hik hkl
  have hL := And.intro hk.lo hk.hi
  have eb : joinsB L M i k s t = (keepsB L (pieceK M i k s t) && meetsAll (pieceK M i k s t) M (i + 1) (k - i - 1)) := rfl
  rw [eb]
  have hpos : ∀ j, i + 1 ≤ j → j < k → (pieceK M i k s t).1.1 ≤ (M.getD j (0, 0, 0)).1 ∧ (M.getD j (0, 0, 0)).1 ≤ (pieceK M i k s t).2.1 := fun j h1 h2 => by
    have a := hk.lt (i := i) (j := j) (by omega) (by omega)
    have b := hk.lt (i := j) (j := k) (by omega) (by omega)
    show (M.getD i (0, 0, 0)).1 ≤ _ ∧ _ ≤ (M.getD k (0, 0, 0)).1
    omega
  generalize pieceK M i k s t = p at *
  (refine a129 ?_; simp only [n129, List.replicate, yq, yr, yt, yu]; first | refine q1 ?_ | refine q2 ?_ | refine q6 ?_ | refine q7 ?_ | refine qh rfl ?_ | skip)
  obtain ⟨G, hG⟩ : ∃ G, G = H ++ [AObj.cells true 0 (evC L v)] ++ [AObj.cells true 0 (pieceC p)] := ⟨_, rfl⟩
  have g0 : G[H.length]? = some (.cells true 0 (evC L v)) := by rw [hG]; simp
  have g1 : G[H.length + 1]? = some (.cells true 0 (pieceC p)) := by rw [hG]; simp
  have xG : Ext H G := by rw [hG]; exact ((Ext.refl H).app _).app _
  (repeat (first | refine yv ?_ | (apply yd; simp (disch := first|exact zz|fail) only [go_sem, box_ev hl.atom, box_piece]; with_reducible rfl)))
  (simp only [List.length_append, List.length_cons, List.length_nil, Nat.zero_add, Nat.add_assoc, Nat.reduceAdd])
  rw [← hG]
  clear hG
  have hlG := hl.ext xG
  (repeat (first | refine yw ?_ | ((first | apply yd | apply ye); simp (disch := first|exact zz|fail) only [go_sem, load_piece g1, load_lim g0]; with_reducible rfl)))
  (refine aops_call_to (keeps_c hL p1 p2 p3 p4) ?_)
  cases hkp : keepsB L p with
  | false =>
    (refine yg ?_)
    exact fin_1 ⟨rfl, xG⟩
  | true =>
    have hup := of_decide_eq_true hkp
    have m1 := Int.mul_le_mul hL.1.1 (show (1 : Int) ≤ p.2.1 - p.1.1 by omega) (by omega) (by omega)
    have p6 : p.1.2 < p.2.2 := by omega
    have en : ((i : Int) + 1) = ((i + 1 : Nat) : Int) := by omega
    have hpt := hlG.part (H' := G) (lo := i + 1) (hi := k) (by omega) (by omega) (by omega)
    have hpd := hlG.parted (lo := i + 1) (hi := k) (by omega) (by omega)
    have hpl : ((M.drop (i + 1)).take (k - (i + 1))).length = k - (i + 1) := by rw [List.length_take, List.length_drop]; omega
    (repeat (first | refine yw ?_ | ((first | apply yd | apply ye); simp (disch := first|exact zz|fail) only [go_sem, load_at g0, evC, en, hpt]; with_reducible rfl)))
    have hc := containsM_c (g := 136) (ys := [.pointer (some ⟨H.length + 1, 0, none⟩)]) (p := fun x => !meetsB p x) hpd (by rw [hpl]; omega) (fun j J hj hx => by
      rw [hpl] at hj
      rw [getD_part hj]
      obtain ⟨a, b⟩ := hpos (i + 1 + j) (by omega) (by omega)
      exact joins1_c (hx.cell g1) p1 p2 p3 p4 p5 p6 a b (hk.t1 _ (by omega)) (hk.t2 _ (by omega)))
    have key : (!(idxF (fun x => !meetsB p x) ((M.drop (i + 1)).take (k - (i + 1))) 0 ((M.drop (i + 1)).take (k - (i + 1))).length).isSome) = meetsAll p M (i + 1) (k - i - 1) := by
      rw [hpl]
      cases hx : idxF (fun x => !meetsB p x) ((M.drop (i + 1)).take (k - (i + 1))) 0 (k - (i + 1)) with
      | none =>
        have := idxF_any.1 hx
        symm
        show meetsAll p M (i + 1) (k - i - 1) = !false
        refine meetsAll_iff.2 fun j h1 h2 => ?_
        have := this (j - (i + 1)) (by omega) (by omega)
        rw [getD_part (by omega), show i + 1 + (j - (i + 1)) = j by omega] at this
        simpa using this
      | some r =>
        obtain ⟨h1, h2, h3⟩ := idxF_some hx
        rw [getD_part (by omega)] at h3
        show false = _
        cases hm : meetsAll p M (i + 1) (k - i - 1) with
        | false => rfl
        | true =>
          have := meetsAll_iff.1 hm (i + 1 + r) (by omega) (by omega)
          rw [this] at h3; cases h3
    (refine aops_call_to (hc) ?_)
    (refine yg ?_)
    exact fin_1 ⟨by rw [Bool.true_and, ← key]; rfl, xG⟩
end
end Go.Lq

namespace Go.Lq
open Go
open Go.Proofs

def wayV (w : Way) : Value := .agg ⟨[.int .i64 (w.1 : Int), .int .i64 w.2.1.1, .int .i64 w.2.1.2, .int .i64 (w.2.2 : Int)]⟩
def wayC (w : Way) : List Value := [.int .i64 (w.1 : Int), .int .i64 w.2.1.1, .int .i64 w.2.1.2, .int .i64 (w.2.2 : Int)]
theorem getP_look {m : Ents} {p : Int × Int} {z : Value} {ok : Bool} : gotA z ok (lookP p m 0) = match getP m p with | some v => (if ok then .tuple #[v, .bool true] else v) | none => (if ok then .tuple #[z, .bool false] else z) := by
  unfold getP
  cases lookP p m 0 with
  | none => rfl
  | some r => rfl
theorem get_way {J : AHeap} {idm : Nat} {m : Ents} (h : J[idm]? = some (.map (entsP m))) {a b : Int} {o : Option Way} (hg : getP m (a, b) = o.map wayV) :
    mapGetR (.agg #[.int .i64 0, .int .i64 0, .int .i64 0, .int .i64 0]) [(0, false), (1, false)] true (.map (some idm)) (.agg ⟨[.int .i64 a, .int .i64 b]⟩) J = some (.tuple ⟨[wayV (o.getD zeroW), .bool o.isSome]⟩, J) := by
  rw [map_get h rfl true a b, getP_look, hg]
  cases o <;> rfl
theorem get_way1 {J : AHeap} {idm : Nat} {m : Ents} (h : J[idm]? = some (.map (entsP m))) {a b : Int} {o : Option Way} (hg : getP m (a, b) = o.map wayV) :
    mapGetR (.agg #[.int .i64 0, .int .i64 0, .int .i64 0, .int .i64 0]) [(0, false), (1, false)] false (.map (some idm)) (.agg ⟨[.int .i64 a, .int .i64 b]⟩) J = some (wayV (o.getD zeroW), J) := by
  rw [map_get h rfl false a b, getP_look, hg]
  cases o <;> rfl
theorem load_way {G : AHeap} {id : Nat} {w : Way} (h : G[id]? = some (.cells true 0 (wayC w))) : loadNR 4 (.pointer (some ⟨id, 0, none⟩)) G = some (wayV w, G) := loadN_at h (by simp [wayC])
theorem store_newW {H : AHeap} {w : Way} {vs : List Value} (hl : vs.length = 4) : storeR 4 (.pointer (some ⟨H.length, 0, none⟩)) (wayV w) (H ++ [.cells true 0 vs]) = some (undef, H ++ [.cells true 0 (wayC w)]) := store_newN rfl (by rw [hl]; rfl) rfl
theorem store_atW {H : AHeap} {id : Nat} {w u : Way} (h : H[id]? = some (.cells true 0 (wayC u))) : storeR 4 (.pointer (some ⟨id, 0, none⟩)) (wayV w) H = some (undef, H.set id (.cells true 0 (wayC w))) := store_all h rfl rfl rfl
theorem fill_way {a b c d : Int} : fillA [.int .i64 0, .int .i64 0, .int .i64 0, .int .i64 0] [(0, 1, .int .i64 a), (1, 2, .agg ⟨[.int .i64 b, .int .i64 c]⟩), (3, 1, .int .i64 d)] = some [.int .i64 a, .int .i64 b, .int .i64 c, .int .i64 d] := rfl
theorem build_piece {a b c d : Int} : fillA [.int .i64 0, .int .i64 0, .int .i64 0, .int .i64 0] [(0, 2, .agg ⟨[.int .i64 a, .int .i64 b]⟩), (2, 2, .agg ⟨[.int .i64 c, .int .i64 d]⟩)] = some [.int .i64 a, .int .i64 b, .int .i64 c, .int .i64 d] := rfl
theorem shRow_succ {W : Nat → Int → Option Nat} {L : Int × Int} {M : List Mark} {i : Nat} {s : Int} {k n : Nat} {t : Int} {out : Way} : shRow W L M i s k (n + 1) t out = shRow W L M i s k n (t + 1) (shStep W L M i s k t out) := rfl
theorem shAll_succ {W : Nat → Int → Option Nat} {L : Int × Int} {M : List Mark} {i : Nat} {s : Int} {k n : Nat} {out : Way} : shAll W L M i s (n + 1) k out = shAll W L M i s n (k + 1) (shRow W L M i s k (widthN M k) (M.getD k (0, 0, 0)).2.1 out) := rfl
attribute [go_sem] Option.isSome_none Option.isSome_some
theorem closed_wayB (w : Way) (b : Bool) : Closed (.tuple #[wayV w, .bool b]) := .tuple _ (closed_list (l := [wayV w, .bool b]) fun v hv => by
  simp only [List.mem_cons, List.not_mem_nil, or_false] at hv
  rcases hv with rfl | rfl
  · exact .agg _ (closed_list (l := wayC w) fun v hv => by
      simp only [wayC, List.mem_cons, List.not_mem_nil, or_false] at hv
      rcases hv with rfl | rfl | rfl | rfl <;> exact .int _ _)
  · exact .bool _)
theorem fin_l2w {c : RCode} {n a b : Nat} {R : Value → AHeap → Prop} {e : Env} {H : AHeap} {id : Nat} {w : Way} (hp : e.getD a undef = .pointer (some ⟨id, 0, none⟩)) (h1 : H[id]? = some (.cells true 0 (wayC w))) (h : R (.tuple #[wayV w, e.getD b undef]) H) :
    Fin ⟨c, n, [.loadN 4 a, .tmp b]⟩ R .ret e H := fin_l2 (u := wayV w) (by rw [hp]; exact load_way h1) h

section
variable {H : AHeap} {L : Int × Int} {M : List Mark} {v : Value}
set_option maxHeartbeats 8000000 in
theorem shortest_c {i idm : Nat} {s : Int} {m : Ents} {T : Nat → Int → Option Way} (hl : Tris H M v) (hk : EvOk L M) (hi : i < M.length) (hs : inR M i s) (hm : H[idm]? = some (.map (entsP m)))
    (hT : ∀ k t, i < k → k < M.length → inR M k t → getP m (mP M k, t) = (T k t).map wayV) (hw : ∀ k t w, T k t = some w → w.1 ≤ 12) :
    ACall Go.Proofs.Try.prog 104 [evV L v, .int .i64 i, .agg ⟨[.int .i64 (mP M i), .int .i64 s]⟩, .map (some idm)] H fun w H' =>
      w = .tuple #[wayV (shAll (fun a b => (T a b).map (·.1)) L M i s (M.length - (i + 1)) (i + 1) zeroW), .bool (decide (0 < (shAll (fun a b => (T a b).map (·.1)) L M i s (M.length - (i + 1)) (i + 1) zeroW).1))] ∧ H' = H := by
  refine ACall.drop (closed_wayB _ _) ?_
  have hlen := hk.len
  obtain ⟨R, hR⟩ : ∃ R, shAll (fun a b => (T a b).map (·.1)) L M i s (M.length - (i + 1)) (i + 1) zeroW = R := ⟨_, rfl⟩
  rw [hR]
  obtain ⟨W, hW⟩ : ∃ W : Nat → Int → Option Nat, W = fun a b => (T a b).map (·.1) := ⟨_, rfl⟩
  rw [← hW] at hR
  (refine a104 ?_; simp only [n104, List.replicate, yq, yr, yt, yu]; first | refine q1 ?_ | refine q2 ?_ | refine q6 ?_ | refine q7 ?_ | refine qh rfl ?_ | skip)
  obtain ⟨G, hG⟩ : ∃ G, G = H ++ [AObj.cells true 0 (evC L v)] ++ [AObj.cells true 0 [.int .i64 (mP M i), .int .i64 s]] ++ [AObj.cells true 0 (wayC zeroW)] ++ [AObj.cells true 0 (wayC zeroW)] := ⟨_, rfl⟩
  have g0 : G[H.length]? = some (.cells true 0 (evC L v)) := by rw [hG]; simp
  have g1 : G[H.length + 1]? = some (.cells true 0 [.int .i64 (mP M i), .int .i64 s]) := by rw [hG]; simp
  have g2 : G[H.length + 2]? = some (.cells true 0 (wayC zeroW)) := by rw [hG]; simp
  have g3 : G[H.length + 3]? = some (.cells true 0 (wayC zeroW)) := by rw [hG]; simp
  have xG : Ext H G := by rw [hG]; exact ((((Ext.refl H).app _).app _).app _).app _
  have lG : G.length = H.length + 4 := by rw [hG]; simp
  have ez : wayC zeroW = [.int .i64 0, .int .i64 0, .int .i64 0, .int .i64 0] := rfl
  rw [ez] at hG
  have e1 : ((i : Int) + 1) = ((i + 1 : Nat) : Int) := by omega
  (repeat (first | refine yv ?_ | (apply yd; simp (disch := first|exact zz|fail) only [go_sem, box_ev hl.atom, e1]; with_reducible rfl)))
  (simp only [List.length_append, List.length_cons, List.length_nil, Nat.zero_add, Nat.add_assoc, Nat.reduceAdd])
  rw [← hG]
  clear hG
  refine awp_loop_n [false, true, false, true, true, false, true, false, true, false, true, true, false, false, false, false, false, false, false, false, false, false, false, false, false, false, false, false, false, false, false, false, false, false, false, false, false, false, false, false, false, false, false, false, false, false, false, false, false, false, false, false, false, false, false, false, false, false, false, false, false, false, false, false, false, false, false, false, false, false, false, false, false, false, false, false, false, false, false, false, false, false, false, false, false, false, false, false, false, false, false, false, false, false] (M.length - (i + 1)) (fun j e H' => ∃ out : Way, e = [junk, .int .i64 i, junk, .map (some idm), .pointer (some ⟨H.length, 0, none⟩), junk, .pointer (some ⟨H.length + 1, 0, none⟩), junk, .pointer (some ⟨H.length + 2, 0, none⟩), junk, .pointer (some ⟨H.length + 3, 0, none⟩), .int .i64 ((i + 1 + j : Nat) : Int), junk, junk, junk, junk, junk, junk, junk, junk, junk, junk, junk, junk, junk, junk, junk, junk, junk, junk, junk, junk, junk, junk, junk, junk, junk, junk, junk, junk, junk, junk, junk, junk, junk, junk, junk, junk, junk, junk, junk, junk, junk, junk, junk, junk, junk, junk, junk, junk, junk, junk, junk, junk, junk, junk, junk, junk, junk, junk, junk, junk, junk, junk, junk, junk, junk, junk, junk, junk, junk, junk, junk, junk, junk, junk, junk, junk, junk, junk, junk, junk, junk, junk] ∧
    Keeps (H.length + 3) G H' ∧ H'[H.length + 3]? = some (.cells true 0 (wayC out)) ∧ out.1 ≤ 13 ∧ shAll W L M i s (M.length - (i + 1) - j) (i + 1 + j) out = R) ?_ ?_
  · exact ⟨zeroW, by simp [forget], Keeps.of_ext (Ext.refl _), g3, by decide, hR⟩
  rintro j e H1 hj ⟨out, rfl, hK, hc, ho, hA⟩
  obtain ⟨k, hkk⟩ : ∃ k, i + 1 + j = k := ⟨_, rfl⟩
  rw [hkk] at hA
  simp only [hkk]
  have k0 := hK.get g0 (by omega)
  have k1 := hK.get g1 (by omega)
  have k2 := hK.get g2 (by omega)
  have xK := hK.ext xG (by omega)
  have hl1 := hl.ext xK
  (repeat (first | refine yw ?_ | ((first | apply yd | apply ye); simp (disch := first|exact zz|fail) only [go_sem, hl1.len, hl1.idx, hl1.load, load_at k0, evC]; with_reducible rfl)))
  refine cond_p rfl (fun hlt => ?_) (fun hge => ?_)
  rotate_left 1
  · have hjz : M.length - (i + 1) - j = 0 := by omega
    rw [hjz] at hA
    have hAo : out = R := hA
    subst hAo
    (refine yg ?_)
    refine yf (id := H.length + 2) (off := 0) (esz := 0) (vs := wayC zeroW) rfl k2 (by decide) ?_
    have d3 : (H1.set (H.length + 2) AObj.dead)[H.length + 3]? = some (.cells true 0 (wayC out)) := by rw [List.getElem?_set_ne (by omega)]; exact hc
    have hd2 : H.length + 2 < H1.length := (List.getElem?_eq_some_iff.1 k2).1
    (repeat (first | refine yw ?_ | ((first | apply yd | apply ye); simp (disch := first|exact zz|fail) only [go_sem, load_way d3, load_at d3, wayC]; with_reducible rfl)))
    refine ⟨rfl, rfl, ?_⟩
    have f2 : ((H1.set (H.length + 2) AObj.dead).set (H.length + 2) (.cells true 0 (setCells (wayC zeroW) 0 (wayV out).cells.toList)))[H.length + 2]? = some (.cells true 0 (wayC out)) := by
      rw [List.getElem?_set_self (by simpa using hd2)]; rfl
    have x9 : Ext H ((H1.set (H.length + 2) AObj.dead).set (H.length + 2) (.cells true 0 (setCells (wayC zeroW) 0 (wayV out).cells.toList))) := (xK.set (by omega) _).set (by omega) _
    (refine yg ?_)
    refine fin_l2w rfl f2 ⟨?_, x9⟩
    have eb : decide ((0 : Int) < (out.1 : Int)) = decide (0 < out.1) := by simp
    rw [← eb]
    rfl
  have hkl : k < M.length := by omega
  obtain ⟨x, hx⟩ : ∃ x, M.getD k (0, 0, 0) = x := ⟨_, rfl⟩
  have t1 := hk.t1 k hkl
  have t2 := hk.t2 k hkl
  have t3 := hk.lohi k hkl
  obtain ⟨n, hn⟩ : ∃ n, widthN M k = n := ⟨_, rfl⟩
  have hnx : (n : Int) = x.2.2 - x.2.1 + 1 := by rw [← hn, ← hx]; unfold widthN; omega
  rw [show M.length - (i + 1) - j = M.length - (k + 1) + 1 by omega, shAll_succ, hn] at hA
  rw [hx] at t1 t2 t3 hA
  (repeat (first | refine yw ?_ | ((first | apply yd | apply ye); simp (disch := first|exact zz|fail) only [go_sem, hl1.len, hl1.idx, hl1.load, load_at k0, evC, hx]; with_reducible rfl)))
  refine awp_loop_n [false, true, false, true, true, false, true, false, true, false, true, true, true, false, false, false, false, false, false, false, false, false, false, false, false, false, false, false, false, false, false, false, false, false, false, false, false, false, false, false, false, false, false, false, false, false, false, false, false, false, false, false, false, false, false, false, false, false, false, false, false, false, false, false, false, false, false, false, false, false, false, false, false, false, false, false, false, false, false, false, false, false, false, false, false, false, false, false, false, false, false, false, false, false] n (fun q e H' => ∃ out : Way, e = [junk, .int .i64 i, junk, .map (some idm), .pointer (some ⟨H.length, 0, none⟩), junk, .pointer (some ⟨H.length + 1, 0, none⟩), junk, .pointer (some ⟨H.length + 2, 0, none⟩), junk, .pointer (some ⟨H.length + 3, 0, none⟩), .int .i64 (k : Int), .int .i64 (x.2.1 + (q : Int)), junk, junk, junk, junk, junk, junk, junk, junk, junk, junk, junk, junk, junk, junk, junk, junk, junk, junk, junk, junk, junk, junk, junk, junk, junk, junk, junk, junk, junk, junk, junk, junk, junk, junk, junk, junk, junk, junk, junk, junk, junk, junk, junk, junk, junk, junk, junk, junk, junk, junk, junk, junk, junk, junk, junk, junk, junk, junk, junk, junk, junk, junk, junk, junk, junk, junk, junk, junk, junk, junk, junk, junk, junk, junk, junk, junk, junk, junk, junk, junk, junk] ∧
    Keeps (H.length + 3) G H' ∧ H'[H.length + 3]? = some (.cells true 0 (wayC out)) ∧ out.1 ≤ 13 ∧ shAll W L M i s (M.length - (k + 1)) (k + 1) (shRow W L M i s k (n - q) (x.2.1 + (q : Int)) out) = R) ?_ ?_
  · exact ⟨out, by simp [forget], hK, hc, ho, by simpa using hA⟩
  clear hA ho hc hK k0 k1 k2 xK hl1
  clear out
  rintro q e H2 hq ⟨out, rfl, hK, hc, ho, hA⟩
  have k0 := hK.get g0 (by omega)
  have k1 := hK.get g1 (by omega)
  have xK := hK.ext xG (by omega)
  have hl1 := hl.ext xK
  (repeat (first | refine yw ?_ | ((first | apply yd | apply ye); simp (disch := first|exact zz|fail) only [go_sem, hl1.len, hl1.idx, hl1.load, load_at k0, evC, hx]; with_reducible rfl)))
  refine cond_p rfl (fun hlt2 => ?_) (fun hge2 => ?_)
  rotate_left 1
  · have hqn : q = n := by omega
    subst hqn
    rw [Nat.sub_self] at hA
    have e2 : ((k : Int) + 1) = ((i + 1 + (j + 1) : Nat) : Int) := by omega
    (repeat (first | refine yw ?_ | ((first | apply yd | apply ye); simp (disch := first|exact zz|fail) only [go_sem, e2]; with_reducible rfl)))
    refine ⟨by omega, out, by simp [forget], hK, hc, ho, ?_⟩
    rw [show M.length - (i + 1) - (j + 1) = M.length - (k + 1) by omega, show i + 1 + (j + 1) = k + 1 by omega]
    exact hA
  have hqn : q < n := by omega
  obtain ⟨t, ht⟩ : ∃ t, x.2.1 + (q : Int) = t := ⟨_, rfl⟩
  have hin : inR M k t := by unfold inR; rw [hx]; omega
  rw [show n - q = n - (q + 1) + 1 by omega, shRow_succ, ht] at hA
  have ht2 : t + 1 = x.2.1 + ((q + 1 : Nat) : Int) := by omega
  rw [ht2] at hA
  have emp : mP M k = x.1 := by unfold mP; rw [hx]
  have hTk := hT k t (by omega) hkl hin
  rw [emp] at hTk
  (repeat (first | refine yv ?_ | (apply yd; simp (disch := first|exact zz|fail) only [go_sem, hl1.len, hl1.idx, hl1.load, load_at k0, evC, hx, ht, fill2i, store_new2]; with_reducible rfl)))
  have b13 : (H2 ++ [AObj.cells true 0 [.int .i64 x.1, .int .i64 t]])[H2.length]? = some (.cells true 0 [.int .i64 x.1, .int .i64 t]) := at_new
  have hK := hK.app [AObj.cells true 0 [.int .i64 x.1, .int .i64 t]]
  have hc := at_app (N := [AObj.cells true 0 [.int .i64 x.1, .int .i64 t]]) hc
  have k0 := at_app (N := [AObj.cells true 0 [.int .i64 x.1, .int .i64 t]]) k0
  have k1 := at_app (N := [AObj.cells true 0 [.int .i64 x.1, .int .i64 t]]) k1
  have xK := xK.app [AObj.cells true 0 [.int .i64 x.1, .int .i64 t]]
  generalize hb13 : H2.length = i13 at b13
  generalize (H2 ++ [AObj.cells true 0 [.int .i64 x.1, .int .i64 t]] : AHeap) = G3 at *
  have hmp := xK.cell hm
  have hstW := store_newW (H := G3) (w := (T k t).getD zeroW) (vs := [.int .i64 0, .int .i64 0, .int .i64 0, .int .i64 0]) rfl
  (repeat (first | refine yv ?_ | (apply yd; simp (disch := first|exact zz|fail) only [go_sem, n2_at b13, get_way hmp hTk, hstW]; with_reducible rfl)))
  have b14 : (G3 ++ [AObj.cells true 0 (wayC ((T k t).getD zeroW))])[G3.length]? = some (.cells true 0 (wayC ((T k t).getD zeroW))) := at_new
  have hK := hK.app [AObj.cells true 0 (wayC ((T k t).getD zeroW))]
  have hc := at_app (N := [AObj.cells true 0 (wayC ((T k t).getD zeroW))]) hc
  have k0 := at_app (N := [AObj.cells true 0 (wayC ((T k t).getD zeroW))]) k0
  have k1 := at_app (N := [AObj.cells true 0 (wayC ((T k t).getD zeroW))]) k1
  have b13 := at_app (N := [AObj.cells true 0 (wayC ((T k t).getD zeroW))]) b13
  have xK := xK.app [AObj.cells true 0 (wayC ((T k t).getD zeroW))]
  generalize hb14 : G3.length = i14 at b14
  generalize (G3 ++ [AObj.cells true 0 (wayC ((T k t).getD zeroW))] : AHeap) = G4 at *
  have hl4 := hl.ext xK
  have hWk : W k t = (T k t).map (·.1) := by rw [hW]
  unfold shStep at hA
  rw [hWk] at hA
  cases hTt : T k t with
  | none =>
    rw [hTt] at hA
    (refine yg ?_)
    refine cond_f rfl ?_
    (repeat (first | refine yw ?_ | ((first | apply yd | apply ye); simp (disch := first|exact zz|fail) only [go_sem, ht2]; with_reducible rfl)))
    exact ⟨by omega, out, by simp [forget], hK, hc, ho, hA⟩
  | some w =>
    have hw12 := hw k t w hTt
    rw [hTt] at hA b14
    simp only [Option.map_some] at hA
    have b14' : G4[i14]? = some (.cells true 0 (wayC w)) := b14
    have hjc := joins_c (H := G4) (v := v) (L := L) (M := M) (i := i) (k := k) (s := s) (t := t) hl4 hk (by omega) hkl hs hin
    have hpc : pieceK M i k s t = ((mP M i, s), (x.1, t)) := by unfold pieceK; rw [emp]
    rw [hpc] at hjc
    have take : joinsB L M i k s t = true → (out.1 = 0 ∨ w.1 + 1 < out.1) → shAll W L M i s (M.length - (k + 1)) (k + 1) (shRow W L M i s k (n - (q + 1)) (x.2.1 + ((q + 1 : Nat) : Int)) (w.1 + 1, (x.1, t), k)) = R := fun a b => by
      rw [if_pos ⟨b, a⟩, emp] at hA; exact hA
    have leave : ¬ ((out.1 = 0 ∨ w.1 + 1 < out.1) ∧ joinsB L M i k s t = true) → shAll W L M i s (M.length - (k + 1)) (k + 1) (shRow W L M i s k (n - (q + 1)) (x.2.1 + ((q + 1 : Nat) : Int)) out) = R := fun a => by
      rw [if_neg a] at hA; exact hA
    have ew : ((w.1 : Int) + 1) = ((w.1 + 1 : Nat) : Int) := by omega
    by_cases ho0 : out.1 = 0
    · (repeat (first | refine yw ?_ | ((first | apply yd | apply ye); simp (disch := first|exact zz|fail) only [go_sem, load_at hc, wayC, dec_t (show ((out.1 : Nat) : Int) = 0 by omega), load_ev k0, n2_at k1, n2_at b13, build_piece]; with_reducible rfl)))
      (refine aops_call_to (hjc) ?_)
      cases hjb : joinsB L M i k s t with
      | true =>
        (refine yg ?_)
        refine cond_t rfl ?_
        have hst := store_atW (w := (w.1 + 1, (x.1, t), k)) hc
        have hst' : storeR 4 (.pointer (some ⟨H.length + 3, 0, none⟩)) (.agg ⟨[.int .i64 ((w.1 + 1 : Nat) : Int), .int .i64 x.1, .int .i64 t, .int .i64 (k : Int)]⟩) G4 = _ := hst
        (repeat (first | refine yw ?_ | ((first | apply yd | apply ye); simp (disch := first|exact zz|fail) only [go_sem, load_at b14', wayC, n2_at b13, ew, fill_way, hst', ht2]; with_reducible rfl)))
        exact ⟨by omega, (w.1 + 1, (x.1, t), k), by simp [forget], hK.set (.inl rfl) _, get_set_self hc, by show w.1 + 1 ≤ 13; omega, take hjb (.inl ho0)⟩
      | false =>
        (refine yg ?_)
        refine cond_f rfl ?_
        (repeat (first | refine yw ?_ | ((first | apply yd | apply ye); simp (disch := first|exact zz|fail) only [go_sem, ht2]; with_reducible rfl)))
        exact ⟨by omega, out, by simp [forget], hK, hc, ho, leave (fun h => by rw [hjb] at h; cases h.2)⟩
    · by_cases hwo : w.1 + 1 < out.1
      · (repeat (first | refine yw ?_ | ((first | apply yd | apply ye); simp (disch := first|exact zz|fail) only [go_sem, load_at hc, load_at b14', wayC, dec_f (show ¬ ((out.1 : Nat) : Int) = 0 by omega), dec_t (show (w.1 : Int) + 1 < ((out.1 : Nat) : Int) by omega), load_ev k0, n2_at k1, n2_at b13, build_piece]; with_reducible rfl)))
        (refine aops_call_to (hjc) ?_)
        cases hjb : joinsB L M i k s t with
        | true =>
          (refine yg ?_)
          refine cond_t rfl ?_
          have hst := store_atW (w := (w.1 + 1, (x.1, t), k)) hc
          have hst' : storeR 4 (.pointer (some ⟨H.length + 3, 0, none⟩)) (.agg ⟨[.int .i64 ((w.1 + 1 : Nat) : Int), .int .i64 x.1, .int .i64 t, .int .i64 (k : Int)]⟩) G4 = _ := hst
          (repeat (first | refine yw ?_ | ((first | apply yd | apply ye); simp (disch := first|exact zz|fail) only [go_sem, load_at b14', wayC, n2_at b13, ew, fill_way, hst', ht2]; with_reducible rfl)))
          exact ⟨by omega, (w.1 + 1, (x.1, t), k), by simp [forget], hK.set (.inl rfl) _, get_set_self hc, by show w.1 + 1 ≤ 13; omega, take hjb (.inr hwo)⟩
        | false =>
          (refine yg ?_)
          refine cond_f rfl ?_
          (repeat (first | refine yw ?_ | ((first | apply yd | apply ye); simp (disch := first|exact zz|fail) only [go_sem, ht2]; with_reducible rfl)))
          exact ⟨by omega, out, by simp [forget], hK, hc, ho, leave (fun h => by rw [hjb] at h; cases h.2)⟩
      · (repeat (first | refine yw ?_ | ((first | apply yd | apply ye); simp (disch := first|exact zz|fail) only [go_sem, load_at hc, load_at b14', wayC, dec_f (show ¬ ((out.1 : Nat) : Int) = 0 by omega), dec_f (show ¬ (w.1 : Int) + 1 < ((out.1 : Nat) : Int) by omega)]; with_reducible rfl)))
        refine cond_f rfl ?_
        (repeat (first | refine yw ?_ | ((first | apply yd | apply ye); simp (disch := first|exact zz|fail) only [go_sem, ht2]; with_reducible rfl)))
        exact ⟨by omega, out, by simp [forget], hK, hc, ho, leave (fun h => by rcases h.1 with a | a <;> omega)⟩
end
end Go.Lq

namespace Go.Lq
open Go
open Go.Proofs

theorem Chain.few {L : Int × Int} {M : List Mark} {i : Nat} {s : Int} {n : Nat} (h : Chain L M i s n) : n + i ≤ M.length := by
  induction h with
  | last hi _ => omega
  | step _ hik _ _ ih => omega
theorem tab_low {L : Int × Int} {M : List Mark} : ∀ {r k : Nat} {t : Int} {w : Way}, r ≤ M.length → tabN L M r k t = some w → M.length - r ≤ k ∧ k < M.length
  | 0, k, t, w, _, h => by cases h
  | r + 1, k, t, w, hr, h => by
    unfold tabN at h
    by_cases hk : k = M.length - 1 - r
    · omega
    · rw [if_neg hk] at h
      have := tab_low (by omega) h
      omega
theorem tab_stable {L : Int × Int} {M : List Mark} {k : Nat} {t : Int} (hk : k < M.length) : ∀ {d : Nat}, M.length - k + d ≤ M.length → tabN L M (M.length - k + d) k t = tabN L M (M.length - k) k t
  | 0, _ => rfl
  | d + 1, h => by
    have ih := tab_stable (L := L) (t := t) hk (d := d) (by omega)
    rw [← ih]
    show tabN L M (M.length - k + d + 1) k t = _
    rw [tabN, if_neg (by omega)]
noncomputable def tabK (L : Int × Int) (M : List Mark) (k : Nat) (t : Int) : Option Way := tabN L M (M.length - k) k t
noncomputable def outK (L : Int × Int) (M : List Mark) (k : Nat) (t : Int) : Way := shAll (fun a b => (tabN L M (M.length - (k + 1)) a b).map (·.1)) L M k t (M.length - (k + 1)) (k + 1) zeroW
section
variable {L : Int × Int} {M : List Mark} {k : Nat} {t : Int}
theorem tabK_last (hk : k + 1 = M.length) (h : inR M k t) : tabK L M k t = some (1, (0, 0), 0) := by
  unfold tabK
  have h' : (M.getD k (0, 0, 0)).2.1 ≤ t ∧ t ≤ (M.getD k (0, 0, 0)).2.2 := h
  rw [show M.length - k = 0 + 1 by omega, tabN, if_pos (by omega), if_pos h', if_pos rfl]
theorem tabK_mid (hk : k + 1 < M.length) (h : inR M k t) : tabK L M k t = if 0 < (outK L M k t).1 then some (outK L M k t) else none := by
  unfold tabK outK
  have h' : (M.getD k (0, 0, 0)).2.1 ≤ t ∧ t ≤ (M.getD k (0, 0, 0)).2.2 := h
  rw [show M.length - k = M.length - (k + 1) + 1 by omega, tabN, if_pos (by omega), if_pos h', if_neg (by omega)]
theorem tabK_of (hk : k < M.length) {r : Nat} (h1 : M.length - k ≤ r) (h2 : r ≤ M.length) : tabN L M r k t = tabK L M k t := by
  have := tab_stable (L := L) (t := t) hk (d := r - (M.length - k)) (by omega)
  rw [show M.length - k + (r - (M.length - k)) = r by omega] at this
  exact this
theorem tabK_spec (hk : k < M.length) : (∀ w, tabK L M k t = some w → Chain L M k t w.1 ∧ ∀ n, Chain L M k t n → w.1 ≤ n) ∧ (tabK L M k t = none → ∀ n, ¬ Chain L M k t n) := tabN_spec (by omega) (by omega) hk
theorem tab_few {r : Nat} (hr : r ≤ M.length) (h12 : M.length ≤ 12) {w : Way} (h : tabN L M r k t = some w) : w.1 ≤ 12 := by
  obtain ⟨a, b⟩ := tab_low hr h
  rw [tabK_of b (by omega) hr] at h
  have := ((tabK_spec b).1 w h).1.few
  omega
theorem tab_next (hk : k < M.length) {w : Way} (h : tabK L M k t = some w) (h1 : 1 < w.1) : ∃ a c w', k < a ∧ a < M.length ∧ inR M a c ∧ Joins L M k a t c ∧ w.2 = ((mP M a, c), a) ∧ tabK L M a c = some w' ∧ w'.1 + 1 = w.1 := by
  have hch := ((tabK_spec hk).1 w h).1
  have hin := hch.inR
  by_cases hl : k + 1 = M.length
  · rw [tabK_last hl hin] at h
    cases h
    exact absurd h1 (Nat.lt_irrefl 1)
  · rw [tabK_mid (by omega) hin] at h
    have kept := Kept.all (W := fun a b => (tabN L M (M.length - (k + 1)) a b).map (·.1)) (L := L) (M := M) (i := k) (s := t) (n := M.length - (k + 1)) (k := k + 1) (Kept.zero (z := ((0, 0), 0)))
    have kept : Kept (fun a b => (tabN L M (M.length - (k + 1)) a b).map (·.1)) L M k t (fun a b => False ∨ (k + 1 ≤ a ∧ a < k + 1 + (M.length - (k + 1)) ∧ inR M a b)) (outK L M k t) := kept
    split at h
    · rename_i h0
      cases h
      obtain ⟨a, c, hc, hj, hw, he⟩ := kept.is h0
      obtain ⟨c1, c2, c3⟩ := hc.resolve_left id
      have hw : (tabN L M (M.length - (k + 1)) a c).map (·.1) = some ((outK L M k t).1 - 1) := hw
      rw [tabK_of (by omega) (by omega) (by omega)] at hw
      cases hq : tabK L M a c with
      | none => rw [hq] at hw; cases hw
      | some q =>
        rw [hq] at hw
        have hq1 : q.1 = (outK L M k t).1 - 1 := by simpa using hw
        exact ⟨a, c, q, by omega, by omega, c3, (joinsB_iff (by omega)).1 hj, he, hq, by omega⟩
    · cases h
theorem tab_one (hk : k < M.length) {w : Way} (h : tabK L M k t = some w) (h1 : w.1 ≤ 1) : k + 1 = M.length ∧ inR M k t := by
  have hch := ((tabK_spec hk).1 w h).1
  have h0 := hch.lt.2
  have : w.1 = 1 := by omega
  rw [this] at hch
  refine ⟨?_, hch.inR⟩
  cases hch with
  | last hi _ => exact hi
  | step _ _ _ hc => exact absurd hc.lt.2 (by omega)
end
theorem mP_inj {L : Int × Int} {M : List Mark} (h : EvOk L M) {i k : Nat} (hi : i < M.length) (hk : k < M.length) (e : mP M i = mP M k) : i = k := by
  rcases Nat.lt_trichotomy i k with a | a | a
  · have := h.lt a hk; unfold mP at e; omega
  · exact a
  · have := h.lt a hi; unfold mP at e; omega

structure MapAt (L : Int × Int) (M : List Mark) (i : Nat) (t : Int) (m : Ents) : Prop where
  get : ∀ k b, k < M.length → (i < k ∨ (k = i ∧ b < t)) → inR M k b → getP m (mP M k, b) = (tabK L M k b).map wayV
  only : ∀ p, getP m p ≠ none → ∃ k b, p = (mP M k, b) ∧ k < M.length ∧ (i < k ∨ (k = i ∧ b < t)) ∧ inR M k b
section
variable {L : Int × Int} {M : List Mark} {i : Nat} {t : Int} {m : Ents}
theorem MapAt.start (hi : i + 1 = M.length) (ht : t ≤ (M.getD i (0, 0, 0)).2.1) : MapAt L M i t [] :=
  ⟨fun k b hk h hr => by
    unfold inR at hr
    rcases h with h | ⟨rfl, h⟩ <;> omega, fun p h => absurd (getP_none p) h⟩
theorem MapAt.down (h : MapAt L M (i + 1) t m) (ht : (M.getD (i + 1) (0, 0, 0)).2.2 < t) : MapAt L M i (M.getD i (0, 0, 0)).2.1 m := by
  refine ⟨fun k b hk hc hr => h.get k b hk ?_ hr, fun p hp => ?_⟩
  · unfold inR at hr
    rcases hc with hc | ⟨rfl, hc⟩
    · by_cases e : k = i + 1
      · subst e; exact .inr ⟨rfl, by omega⟩
      · exact .inl (by omega)
    · omega
  · obtain ⟨k, b, e, hk, hc, hr⟩ := h.only p hp
    exact ⟨k, b, e, hk, .inl (by omega), hr⟩
theorem MapAt.some (he : EvOk L M) (h : MapAt L M i t m) (hi : i < M.length) (hr : inR M i t) {w : Way} (hw : tabK L M i t = .some w) : MapAt L M i (t + 1) (putP (mP M i, t) (wayV w) m) := by
  refine ⟨fun k b hk hc hrb => ?_, fun p hp => ?_⟩
  · rw [getP_put]
    by_cases e : (mP M i, t) = (mP M k, b)
    · rw [if_pos e]
      have e1 := mP_inj he hi hk (Prod.mk.inj e).1
      have e2 : t = b := (Prod.mk.inj e).2
      subst e1; subst e2
      rw [hw]; rfl
    · rw [if_neg e]
      refine h.get k b hk ?_ hrb
      rcases hc with hc | ⟨rfl, hc⟩
      · exact .inl hc
      · refine .inr ⟨rfl, ?_⟩
        by_cases e2 : b = t
        · subst e2; exact absurd rfl e
        · omega
  · rw [getP_put] at hp
    by_cases e : (mP M i, t) = p
    · exact ⟨i, t, e.symm, hi, .inr ⟨rfl, by omega⟩, hr⟩
    · rw [if_neg e] at hp
      obtain ⟨k, b, e, hk, hc, hr⟩ := h.only p hp
      refine ⟨k, b, e, hk, ?_, hr⟩
      rcases hc with hc | ⟨rfl, hc⟩
      · exact .inl hc
      · exact .inr ⟨rfl, by omega⟩
theorem MapAt.none (he : EvOk L M) (h : MapAt L M i t m) (hi : i < M.length) (hw : tabK L M i t = .none) : MapAt L M i (t + 1) m := by
  refine ⟨fun k b hk hc hrb => ?_, fun p hp => ?_⟩
  · by_cases e : k = i ∧ b = t
    · obtain ⟨rfl, rfl⟩ := e
      rw [hw]
      cases hp : getP m (mP M k, b) with
      | none => rfl
      | some x =>
        obtain ⟨k', b', e, hk', hc', _⟩ := h.only _ (by rw [hp]; simp)
        have e1 := mP_inj he hk hk' (Prod.mk.inj e).1
        have e2 : b = b' := (Prod.mk.inj e).2
        omega
    · refine h.get k b hk ?_ hrb
      rcases hc with hc | ⟨rfl, hc⟩
      · exact .inl hc
      · refine .inr ⟨rfl, ?_⟩
        by_cases e2 : b = t
        · exact absurd ⟨rfl, e2⟩ e
        · omega
  · obtain ⟨k, b, e, hk, hc, hr⟩ := h.only p hp
    refine ⟨k, b, e, hk, ?_, hr⟩
    rcases hc with hc | ⟨rfl, hc⟩
    · exact .inl hc
    · exact .inr ⟨rfl, by omega⟩
theorem MapAt.any (h : MapAt L M i t m) (p : Int × Int) : ∃ o : Option Way, getP m p = o.map wayV := by
  cases hp : getP m p with
  | none => exact ⟨.none, rfl⟩
  | some x =>
    obtain ⟨k, b, rfl, hk, hc, hr⟩ := h.only p (by rw [hp]; simp)
    have := h.get k b hk hc hr
    rw [hp] at this
    exact ⟨_, this⟩
end
def BestAt (L : Int × Int) (M : List Mark) (t : Int) (best : Int × Int) : Prop :=
  (best = (0, 0) ∧ ∀ b, inR M 0 b → b < t → tabK L M 0 b = none) ∨
  ∃ b w, best = (mP M 0, b) ∧ inR M 0 b ∧ b < t ∧ tabK L M 0 b = some w ∧ ∀ b' w', inR M 0 b' → b' < t → tabK L M 0 b' = some w' → w.1 ≤ w'.1
section
variable {L : Int × Int} {M : List Mark} {t : Int} {best : Int × Int}
theorem BestAt.start (ht : t ≤ (M.getD 0 (0, 0, 0)).2.1) : BestAt L M t (0, 0) := .inl ⟨rfl, fun b hb h => by unfold inR at hb; omega⟩
theorem BestAt.skip (h : BestAt L M t best) (hw : tabK L M 0 t = none) : BestAt L M (t + 1) best := by
  rcases h with ⟨h1, h2⟩ | ⟨b, w, h1, h2, h3, h4, h5⟩
  · refine .inl ⟨h1, fun b hb h => ?_⟩
    by_cases e : b = t
    · subst e; exact hw
    · exact h2 b hb (by omega)
  · refine .inr ⟨b, w, h1, h2, by omega, h4, fun b' w' hb h hw' => ?_⟩
    by_cases e : b' = t
    · subst e; rw [hw] at hw'; cases hw'
    · exact h5 b' w' hb (by omega) hw'
end
end Go.Lq

namespace Go.Lq
open Go
open Go.Proofs

def backM (M : List Mark) : Nat → List (List Value)
  | 0 => []
  | n + 1 => [.int .i64 n, markV (M.getD n (0, 0, 0))] :: backM M n
def wideB (x : Mark) : Bool := decide (40 ≤ x.2.2 - x.2.1)
def fewE (L : Int × Int) (M : List Mark) : Int := firstErr [evErrL L M, (if 2 ≤ M.length then 0 else 10)]
def fewErr (L : Int × Int) (M : List Mark) : Int := if fewE L M ≠ 0 then fewE L M else if (idxF wideB M 0 M.length).isSome = true then 8 else 0
theorem fewE_ok {L : Int × Int} {M : List Mark} (h : fewE L M = 0) : EvOk L M ∧ 2 ≤ M.length := by
  unfold fewE at h
  by_cases h1 : evErrL L M = 0
  · refine ⟨evErr_ok h1, ?_⟩
    refine Decidable.byContradiction fun hn => ?_
    rw [h1, firstErr_z, if_neg hn, firstErr_e (by decide)] at h; cases h
  · rw [firstErr_e h1] at h; exact absurd h h1
def FewRes (L : Int × Int) (M : List Mark) (l : List (Int × Int)) (e : Int) : Prop :=
  (fewErr L M ≠ 0 ∧ e = fewErr L M ∧ l = []) ∨ (fewErr L M = 0 ∧ e = 13 ∧ l = [] ∧ ∀ s n, ¬ Chain L M 0 s n) ∨
  (fewErr L M = 0 ∧ e = 0 ∧ ∃ s, ChainL L M 0 s l ∧ ∀ s' n, Chain L M 0 s' n → l.length ≤ n)

section
variable {H : AHeap} {L : Int × Int} {M : List Mark} {v : Value}
theorem wide_c {x : Mark} (x1 : 0 ≤ x.2.1 ∧ x.2.1 ≤ 1000000000000) (x2 : 0 ≤ x.2.2 ∧ x.2.2 ≤ 1000000000000) : ACall Go.Proofs.Try.prog 101 [markV x] H fun w H' => w = .bool (wideB x) ∧ H' = H := by
  refine ACall.drop (.bool _) ?_
  (refine a101 ?_; simp only [n101, List.replicate, yq, yr, yt, yu]; first | refine q1 ?_ | refine q2 ?_ | refine q6 ?_ | refine q7 ?_ | refine qh rfl ?_ | skip)
  have g0 : (H ++ [AObj.cells true 0 (markC x)])[H.length]? = some (.cells true 0 (markC x)) := at_new
  have xG : Ext H (H ++ [AObj.cells true 0 (markC x)]) := (Ext.refl H).app _
  (repeat (first | refine yv ?_ | (apply yd; simp (disch := first|exact zz|fail) only [go_sem, box_mark]; with_reducible rfl)))
  generalize (H ++ [AObj.cells true 0 (markC x)] : AHeap) = G at g0 xG
  (repeat (first | refine yw ?_ | ((first | apply yd | apply ye); simp (disch := first|exact zz|fail) only [go_sem, load_at g0, markC]; with_reducible rfl)))
  exact fin_1 ⟨rfl, xG⟩
theorem backward_c (hv : isAtom v = true) : ACall Go.Proofs.Try.prog 103 [v] H fun v1 H' =>
    v1 = .func (.func 128) #[] #[.pointer (some ⟨H.length, 0, none⟩)] ∧ H' = H ++ [.cells true 0 [v]] := by
  have hbx : ∀ J : AHeap, boxR v J = some (.pointer (some ⟨J.length, 0, none⟩), J ++ [.cells true 0 [v]]) := fun J => by
    have e1 : v.cells.toList = [v] := by cases v <;> first | rfl | cases hv
    simp [boxR, e1, hv]
  (refine a103 ?_; simp only [n103, List.replicate, yq, yr, yt, yu]; first | refine q1 ?_ | refine q2 ?_ | refine q6 ?_ | refine q7 ?_ | refine qh rfl ?_ | skip)
  (repeat (first | refine yw ?_ | ((first | apply yd | apply ye); simp (disch := first|exact zz|fail) only [go_sem, hbx]; with_reducible rfl)))
  refine fin_1 ⟨?_, rfl⟩
  simp [go_sem]
theorem back1_c {idb : Nat} (hb : M.length ≤ 1000) : GenA Go.Proofs.Try.prog 128 [] [.pointer (some ⟨idb, 0, none⟩)] (fun H => H[idb]? = some (.cells true 0 [v]) ∧ Tris H M v) (backM M M.length) := by
  intro lp I S H hF hround hI0
  show ACall _ _ [.func (.yield lp) #[] #[], .pointer (some ⟨idb, 0, none⟩)] _ _
  obtain ⟨f1, f2⟩ := hF _ _ hI0
  (refine a128 ?_; simp only [n128, List.replicate, yq, yr, yt, yu]; first | refine q1 ?_ | refine q2 ?_ | refine q6 ?_ | refine q7 ?_ | refine qh rfl ?_ | skip)
  (repeat (first | refine yw ?_ | ((first | apply yd | apply ye); simp (disch := first|exact zz|fail) only [go_sem, f2.len, f2.idx, f2.load, load1 f1]; with_reducible rfl)))
  refine awp_loop_n [true, true, false, true, false, false, false, false, false, false, false, false, false, false, false, false, false, false, false] M.length (fun j e H' => ∃ i, i + j = M.length ∧ e = [.func (.yield lp) #[] #[], .pointer (some ⟨idb, 0, none⟩), junk, .int .i64 ((i : Int) - 1), junk, junk, junk, junk, junk, junk, junk, junk, junk, junk, junk, junk, junk, junk, junk] ∧ I (backM M i) H') ?_ ?_
  · exact ⟨M.length, by omega, by simp [forget], hI0⟩
  rintro j e H1 hj ⟨i, hij, rfl, hI⟩
  obtain ⟨f1', f2'⟩ := hF _ _ hI
  (refine yg ?_)
  refine cond_p rfl (fun hlt => ?_) (fun hge => ?_)
  rotate_left 1
  · obtain rfl : i = 0 := by omega
    (refine yg ?_)
    exact ⟨.inl rfl, undef, rfl, .inl hI⟩
  match i, hij, hI, hlt with
  | i + 1, hij, hI, _ =>
  have e1 : ((i + 1 : Nat) : Int) - 1 = (i : Int) := by omega
  rw [e1]
  have hix := f2'.idx (H' := H1) (i := (i : Int)) (k := .i64) (by omega) (by omega)
  rw [Int.toNat_natCast] at hix
  have hm0 := (f2'.load (Ext.refl H1) (i := i) (by omega)).1
  (repeat (first | refine yw ?_ | ((first | apply yd | apply ye); simp (disch := first|exact zz|fail) only [go_sem, load1 f1', hix, hm0]; with_reducible rfl)))
  refine aops_call ((hround _ _ _ hI).mono fun w H3 h => ?_)
  rcases h with ⟨rfl, hI3⟩ | ⟨rfl, hS⟩
  · (refine yg ?_)
    refine cond_f rfl ?_
    (refine yg ?_)
    exact ⟨by omega, i, by omega, by simp [forget], hI3⟩
  · (refine yg ?_)
    refine cond_t rfl ?_
    (refine yg ?_)
    exact ⟨.inr rfl, undef, rfl, .inr hS⟩
end
end Go.Lq

namespace Go.Lq
open Go
open Go.Proofs

theorem isAtom_map (x : Option Nat) : isAtom (.map x) = true := rfl
theorem constOk_mapN : constOk (.map none) = true := rfl
attribute [go_sem] isAtom_map constOk_mapN
theorem store_newI {H : AHeap} {n : Int} {x : Value} {e : Nat} : storeR 1 (.pointer (some ⟨H.length, 0, none⟩)) (.int .i64 n) (H ++ [.cells true e [x]]) = some (undef, H ++ [.cells true e [.int .i64 n]]) :=
  (store_b1 (at_new (H := H) (o := true) (e := e) (vs := [x])) rfl rfl).trans (by rw [List.set_append_right _ _ (Nat.le_refl _), Nat.sub_self]; rfl)
theorem store_newM {H : AHeap} {id : Nat} {x : Value} {e : Nat} : storeR 1 (.pointer (some ⟨H.length, 0, none⟩)) (.map (some id)) (H ++ [.cells true e [x]]) = some (undef, H ++ [.cells true e [.map (some id)]]) :=
  (store_b1 (at_new (H := H) (o := true) (e := e) (vs := [x])) rfl rfl).trans (by rw [List.set_append_right _ _ (Nat.le_refl _), Nat.sub_self]; rfl)
theorem store_newA {H : AHeap} {w x : Value} {e : Nat} (hw : isAtom w = true) : storeR 1 (.pointer (some ⟨H.length, 0, none⟩)) (.agg ⟨[w]⟩) (H ++ [.cells true e [x]]) = some (undef, H ++ [.cells true e [w]]) := store_newN (by simp [hw]) rfl rfl

structure FewIds (h0 a4 a7 idm a8 a9 idb base : Nat) : Prop where
  o1 : h0 + 1 < a4
  o2 : a4 < a7
  o3 : a7 < idm
  o4 : idm < a8
  o5 : a8 < a9
  o6 : a9 < idb
  o7 : idb < base
structure FewSt (H0 : AHeap) (a4 a7 idm a8 a9 idb : Nat) (L : Int × Int) (M : List Mark) (v : Value) (m : Ents) (best : Int × Int) (H : AHeap) : Prop where
  ext : Ext H0 H
  b1 : H[H0.length]? = some (.cells true 0 (evC L v))
  b2 : H[H0.length + 1]? = some (.cells true 0 [.slice none 0 0])
  b4 : H[a4]? = some (.cells true 0 (evC L v))
  b7 : H[a7]? = some (.cells true 0 [.int .i64 ((M.length : Int) - 1)])
  mp : H[idm]? = some (.map (entsP m))
  b8 : H[a8]? = some (.cells true 0 [.map (some idm)])
  b9 : H[a9]? = some (.cells true 0 [.int .i64 best.1, .int .i64 best.2])
  bb : H[idb]? = some (.cells true 0 [v])
section
variable {H0 H : AHeap} {a4 a7 idm a8 a9 idb base : Nat} {L : Int × Int} {M : List Mark} {v : Value} {m m' : Ents} {best best' : Int × Int}
theorem FewSt.app (h : FewSt H0 a4 a7 idm a8 a9 idb L M v m best H) (N : AHeap) : FewSt H0 a4 a7 idm a8 a9 idb L M v m best (H ++ N) :=
  ⟨h.ext.app N, at_app h.b1, at_app h.b2, at_app h.b4, at_app h.b7, at_app h.mp, at_app h.b8, at_app h.b9, at_app h.bb⟩
theorem FewSt.set (h : FewSt H0 a4 a7 idm a8 a9 idb L M v m best H) (o : FewIds H0.length a4 a7 idm a8 a9 idb base) {j : Nat} (hj : base ≤ j) (c : AObj) : FewSt H0 a4 a7 idm a8 a9 idb L M v m best (H.set j c) := by
  obtain ⟨o1, o2, o3, o4, o5, o6, o7⟩ := o
  obtain ⟨x, b1, b2, b4, b7, mp, b8, b9, bb⟩ := h
  refine ⟨x.set (by omega) _, ?_, ?_, ?_, ?_, ?_, ?_, ?_, ?_⟩ <;> rw [List.getElem?_set_ne (by omega)] <;> assumption
theorem FewSt.put (h : FewSt H0 a4 a7 idm a8 a9 idb L M v m best H) (o : FewIds H0.length a4 a7 idm a8 a9 idb base) (m' : Ents) : FewSt H0 a4 a7 idm a8 a9 idb L M v m' best (H.set idm (.map (entsP m'))) := by
  obtain ⟨o1, o2, o3, o4, o5, o6, o7⟩ := o
  obtain ⟨x, b1, b2, b4, b7, mp, b8, b9, bb⟩ := h
  refine ⟨x.set (by omega) _, ?_, ?_, ?_, ?_, get_set_self mp, ?_, ?_, ?_⟩ <;> rw [List.getElem?_set_ne (by omega)] <;> assumption
theorem FewSt.setBest (h : FewSt H0 a4 a7 idm a8 a9 idb L M v m best H) (o : FewIds H0.length a4 a7 idm a8 a9 idb base) (best' : Int × Int) : FewSt H0 a4 a7 idm a8 a9 idb L M v m best' (H.set a9 (.cells true 0 [.int .i64 best'.1, .int .i64 best'.2])) := by
  obtain ⟨o1, o2, o3, o4, o5, o6, o7⟩ := o
  obtain ⟨x, b1, b2, b4, b7, mp, b8, b9, bb⟩ := h
  refine ⟨x.set (by omega) _, ?_, ?_, ?_, ?_, ?_, ?_, get_set_self b9, ?_⟩ <;> rw [List.getElem?_set_ne (by omega)] <;> assumption
end
def TabJ (L : Int × Int) (M : List Mark) (i : Nat) (m : Ents) (best : Int × Int) : Prop :=
  (i = 0 → MapAt L M 0 ((M.getD 0 (0, 0, 0)).2.2 + 1) m ∧ BestAt L M ((M.getD 0 (0, 0, 0)).2.2 + 1) best) ∧ (0 < i → MapAt L M (i - 1) (M.getD (i - 1) (0, 0, 0)).2.1 m ∧ best = (0, 0))
def TabI (L : Int × Int) (M : List Mark) (k : Nat) (t : Int) (m : Ents) (best : Int × Int) : Prop :=
  MapAt L M k t m ∧ (k = 0 → BestAt L M t best) ∧ (k ≠ 0 → best = (0, 0))
section
variable {L : Int × Int} {M : List Mark} {m : Ents} {best : Int × Int} {k : Nat} {t : Int}
theorem TabJ.open (h : TabJ L M (k + 1) m best) : TabI L M k (M.getD k (0, 0, 0)).2.1 m best := by
  obtain ⟨a, b⟩ := h.2 (Nat.succ_pos _)
  rw [Nat.add_sub_cancel] at a
  refine ⟨a, fun hk => ?_, fun _ => b⟩
  subst hk; rw [b]; exact BestAt.start (Int.le_refl _)
theorem TabI.close (h : TabI L M k ((M.getD k (0, 0, 0)).2.2 + 1) m best) : TabJ L M k m best := by
  obtain ⟨a, b, c⟩ := h
  refine ⟨fun hk => ?_, fun hk => ?_⟩
  · subst hk; exact ⟨a, b rfl⟩
  · match k, hk with
    | k + 1, _ =>
      rw [Nat.add_sub_cancel]
      exact ⟨a.down (by omega), c (by omega)⟩
theorem TabI.skip (he : EvOk L M) (hk : k < M.length) (h : TabI L M k t m best) (hw : tabK L M k t = none) : TabI L M k (t + 1) m best :=
  ⟨h.1.none he hk hw, fun h0 => by subst h0; exact (h.2.1 rfl).skip hw, h.2.2⟩
theorem TabI.other (he : EvOk L M) (hk : k < M.length) (hr : inR M k t) (h : TabI L M k t m best) {w : Way} (hw : tabK L M k t = some w) (h0 : k ≠ 0) : TabI L M k (t + 1) (putP (mP M k, t) (wayV w) m) best :=
  ⟨h.1.some he hk hr hw, fun h => absurd h h0, h.2.2⟩
theorem TabI.first (he : EvOk L M) (h1 : 0 < M.length) (hr : inR M 0 t) (h : TabI L M 0 t m best) {w : Way} (hw : tabK L M 0 t = some w) :
    ∃ o : Option Way, getP (putP (mP M 0, t) (wayV w) m) best = o.map wayV ∧ ((o = none ∧ TabI L M 0 (t + 1) (putP (mP M 0, t) (wayV w) m) (mP M 0, t)) ∨
      ∃ u : Way, o = some u ∧ best.1 = mP M 0 ∧ (w.1 < u.1 → TabI L M 0 (t + 1) (putP (mP M 0, t) (wayV w) m) (mP M 0, t)) ∧ (¬ w.1 < u.1 → TabI L M 0 (t + 1) (putP (mP M 0, t) (wayV w) m) best)) := by
  have hm := h.1.some he h1 hr hw
  rcases h.2.1 rfl with ⟨e1, e2⟩ | ⟨b, u, e1, e2, e3, e4, e5⟩
  · rw [e1, getP_put]
    have hnew : BestAt L M (t + 1) (mP M 0, t) := .inr ⟨t, w, rfl, hr, by omega, hw, fun b' w' hb hlt hw' => by
      by_cases e : b' = t
      · subst e; rw [hw] at hw'; cases hw'; exact Nat.le_refl _
      · rw [e2 b' hb (by omega)] at hw'; cases hw'⟩
    by_cases e : (mP M 0, t) = (0, 0)
    · rw [if_pos e]
      refine ⟨some w, rfl, .inr ⟨w, rfl, (Prod.mk.inj e).1.symm, fun hlt => absurd hlt (Nat.lt_irrefl _), fun _ => ⟨hm, fun _ => ?_, fun h => absurd rfl h⟩⟩⟩
      rw [← e]; exact hnew
    · rw [if_neg e]
      refine ⟨none, ?_, .inl ⟨rfl, hm, fun _ => hnew, fun h => absurd rfl h⟩⟩
      cases hp : getP m (0, 0) with
      | none => rfl
      | some x =>
        obtain ⟨k', b, e3, hk', hc, hrb⟩ := h.1.only (0, 0) (by rw [hp]; simp)
        have hb1 : (0 : Int) = mP M k' := (Prod.mk.inj e3).1
        have p0 := he.pos 0 h1
        rcases hc with hc | ⟨rfl, hc⟩
        · have := he.lt hc hk'
          unfold mP at hb1; omega
        · have := h.1.get 0 b h1 (.inr ⟨rfl, hc⟩) hrb
          rw [← e3, hp, e2 b hrb hc] at this; cases this
  · subst e1
    have hne : ¬ (mP M 0, t) = (mP M 0, b) := fun h => by have := (Prod.mk.inj h).2; omega
    refine ⟨some u, ?_, .inr ⟨u, rfl, rfl, fun hlt => ⟨hm, fun _ => .inr ⟨t, w, rfl, hr, by omega, hw, fun b' w' hb hlt' hw' => ?_⟩, fun h => absurd rfl h⟩, fun hge => ⟨hm, fun _ => .inr ⟨b, u, rfl, e2, by omega, e4, fun b' w' hb hlt' hw' => ?_⟩, fun h => absurd rfl h⟩⟩⟩
    · rw [getP_put, if_neg hne, h.1.get 0 b h1 (.inr ⟨rfl, e3⟩) e2, e4]
    · by_cases e : b' = t
      · subst e; rw [hw] at hw'; cases hw'; exact Nat.le_refl _
      · have := e5 b' w' hb (by omega) hw'; omega
    · by_cases e : b' = t
      · subst e; rw [hw] at hw'; cases hw'; omega
      · exact e5 b' w' hb (by omega) hw'
end

end Go.Lq

namespace Go.Lq
open Go
open Go.Proofs

theorem pairs_nil (H : AHeap) : Pairs H [] (.slice none 0 0) := (OwnP.nil H H).pairs
theorem fin_l2a {c : RCode} {n a b : Nat} {R : Value → AHeap → Prop} {e : Env} {H : AHeap} {id : Nat} {s : Value} (hp : e.getD a undef = .pointer (some ⟨id, 0, none⟩)) (h1 : H[id]? = some (.cells true 0 [s])) (h : R (.tuple #[.agg ⟨[s]⟩, e.getD b undef]) H) :
    Fin ⟨c, n, [.loadN 1 a, .tmp b]⟩ R .ret e H := fin_l2 (u := .agg ⟨[s]⟩) (by rw [hp]; exact n1_at h1) h
theorem store_a1 {H : AHeap} {id e : Nat} {x y : Value} (h : H[id]? = some (.cells true e [x])) (ha : isAtom y = true) : storeR 1 (.pointer (some ⟨id, 0, none⟩)) (.agg ⟨[y]⟩) H = some (undef, H.set id (.cells true e [y])) := store_all h rfl (by simp [ha]) rfl
theorem pushP_at {H : AHeap} {v : Value} {l : List (Int × Int)} {x : Int × Int} {i : Nat} {c : AObj} (h : H[i]? = some c) (hv : v = .slice none 0 0 ∨ idOf v ≠ i) : (pushPH H v l x)[i]? = some c := by
  have hi := (List.getElem?_eq_some_iff.1 h).1
  unfold pushPH
  rw [appH_at (by simp; omega) hv, List.getElem?_append_left hi]; exact h
theorem pushP_len {H : AHeap} {v : Value} {l : List (Int × Int)} {x : Int × Int} : (pushPH H v l x).length = H.length + 2 := by unfold pushPH; rw [appH_len]; simp
theorem OwnP.aside {H0 H : AHeap} {l : List (Int × Int)} {v : Value} (h : OwnP H0 H l v) {j : Nat} (hj : j < H0.length) : v = .slice none 0 0 ∨ idOf v ≠ j := by
  rcases h.2 with ⟨rfl, h0⟩ | ⟨id, rfl, h1, _, _⟩
  · exact .inl rfl
  · exact .inr (by show id ≠ j; omega)
theorem OwnP.set_ne {H0 H : AHeap} {l : List (Int × Int)} {v : Value} (h : OwnP H0 H l v) {j : Nat} (hj : v = .slice none 0 0 ∨ idOf v ≠ j) (c : AObj) : OwnP H0 (H.set j c) l v := by
  refine Own.set_ne h ?_ c
  rcases hj with rfl | hj
  · rcases h.2 with ⟨_, h0⟩ | ⟨id, e, _⟩
    · exact .inl h0
    · cases e
  · exact .inr hj
theorem OwnP.pushedL {H0 H : AHeap} {l : List (Int × Int)} {v : Value} (h : OwnP H0 H l v) (hx : H0.length ≤ H.length) (x : Int × Int) : OwnP H0 (pushPH H v l x) (l ++ [x]) (pushV H l.length) := by
  have := Own.appended (h.app [.cells true 2 [.int .i64 x.1, .int .i64 x.2]]) (m := 1) (cs := [.int .i64 x.1, .int .i64 x.2]) rfl (by omega) (by simp; omega)
  unfold OwnP
  simpa [pushV, pushPH, flatP] using this
theorem FewSt.push {H0 H F : AHeap} {a4 a7 idm a8 a9 idb base : Nat} {L : Int × Int} {M : List Mark} {v sv : Value} {m : Ents} {best : Int × Int} {l : List (Int × Int)} (h : FewSt H0 a4 a7 idm a8 a9 idb L M v m best H) (o : FewIds H0.length a4 a7 idm a8 a9 idb base)
    (ho : OwnP F H l sv) (hF : base ≤ F.length) (x : Int × Int) : FewSt H0 a4 a7 idm a8 a9 idb L M v m best (pushPH H sv l x) := by
  obtain ⟨o1, o2, o3, o4, o5, o6, o7⟩ := o
  obtain ⟨y, b1, b2, b4, b7, mp, b8, b9, bb⟩ := h
  have hw : OwnP H0 H l sv := ho.weaken (by omega)
  exact ⟨OwnP.ext hw y x, pushP_at b1 (ho.aside (by omega)), pushP_at b2 (ho.aside (by omega)), pushP_at b4 (ho.aside (by omega)), pushP_at b7 (ho.aside (by omega)), pushP_at mp (ho.aside (by omega)), pushP_at b8 (ho.aside (by omega)), pushP_at b9 (ho.aside (by omega)), pushP_at bb (ho.aside (by omega))⟩
theorem load_way2 {G : AHeap} {id : Nat} {w : Way} (h : G[id]? = some (.cells true 0 (wayC w))) : loadNR 2 (.pointer (some ⟨id, 1, none⟩)) G = some (.agg ⟨[.int .i64 w.2.1.1, .int .i64 w.2.1.2]⟩, G) := loadN_at h (by simp [wayC])
theorem fill_pair {a b : Int} : fillA [.int .i64 0, .int .i64 0] [(0, 2, .agg ⟨[.int .i64 a, .int .i64 b]⟩)] = some [.int .i64 a, .int .i64 b] := rfl
theorem none_chain {L : Int × Int} {M : List Mark} (h0 : 0 < M.length) (h : ∀ b, inR M 0 b → b < (M.getD 0 (0, 0, 0)).2.2 + 1 → tabK L M 0 b = none) (s : Int) (n : Nat) : ¬ Chain L M 0 s n := fun hc => by
  have hr := hc.inR
  exact (tabK_spec h0).2 (h s hr (by unfold inR at hr; omega)) n hc
theorem first_min {L : Int × Int} {M : List Mark} (h0 : 0 < M.length) {w : Way} (h : ∀ b' w', inR M 0 b' → b' < (M.getD 0 (0, 0, 0)).2.2 + 1 → tabK L M 0 b' = some w' → w.1 ≤ w'.1) (s : Int) (n : Nat) (hc : Chain L M 0 s n) : w.1 ≤ n := by
  have hr := hc.inR
  cases hw : tabK L M 0 s with
  | none => exact absurd hc ((tabK_spec h0).2 hw n)
  | some w' =>
    have a := h s w' hr (by unfold inR at hr; omega) hw
    have b := ((tabK_spec h0).1 w' hw).2 n hc
    omega
section
variable {H : AHeap} {L : Int × Int} {M : List Mark} {v : Value}
set_option maxHeartbeats 32000000 in
set_option maxRecDepth 100000 in
theorem fewest_c (hl : Tris H M v) (hb : M.length ≤ 1000000000) : ACall Go.Proofs.Try.prog 43 [evV L v] H fun w H' => Ext H H' ∧ ∃ s l e, w = .tuple #[.agg ⟨[s]⟩, .int .i64 e] ∧ Pairs H' l s ∧ FewRes L M l e := by
  (refine a43 ?_; simp only [n43, List.replicate, yq, yr, yt, yu]; first | refine Go.Lq.q1 ?_ | refine Go.Lq.q2 ?_ | refine Go.Lq.q6 ?_ | refine Go.Lq.q7 ?_ | refine Go.Lq.qh rfl ?_ | skip)
  obtain ⟨G, hG⟩ : ∃ G, G = H ++ [AObj.cells true 0 (evC L v)] ++ [AObj.cells true 0 [.slice none 0 0]] := ⟨_, rfl⟩
  have g0 : G[H.length]? = some (.cells true 0 (evC L v)) := by rw [hG]; simp
  have g1 : G[H.length + 1]? = some (.cells true 0 [.slice none 0 0]) := by rw [hG]; simp
  have xG : Ext H G := by rw [hG]; exact ((Ext.refl H).app _).app _
  have lG : G.length = H.length + 2 := by rw [hG]; simp
  (repeat (first | refine yv ?_ | (apply yd; simp (disch := first|exact zz|fail) only [go_sem, box_ev hl.atom]; with_reducible rfl)))
  (simp only [List.length_append, List.length_cons, List.length_nil, Nat.zero_add, Nat.add_assoc, Nat.reduceAdd])
  rw [← hG]
  clear hG
  (repeat (first | refine yw ?_ | ((first | apply yd | apply ye); simp (disch := first|exact zz|fail) only [go_sem, load_ev g0]; with_reducible rfl)))
  refine aops_call ((open_c (hl.ext xG) hb).mono fun w G2 ⟨hw, x2⟩ => ?_)
  subst hw
  have l2 := x2.len
  have hst : storeR 3 (.pointer (some ⟨G2.length, 0, none⟩)) (evV L v) (G2 ++ [.cells true 0 [.int .i64 0, .int .i64 0, .slice none 0 0]]) = some (undef, G2 ++ [.cells true 0 (evC L v)]) := store_newN (by simp [hl.atom, isAtom_int]) rfl rfl
  (repeat (first | refine yw ?_ | ((first | apply yd | apply ye); simp (disch := first|exact zz|fail) only [go_sem, hst]; with_reducible rfl)))
  have k4 : (G2 ++ [AObj.cells true 0 (evC L v)])[G2.length]? = some (.cells true 0 (evC L v)) := at_new
  have x3 := x2.app [AObj.cells true 0 (evC L v)]
  obtain ⟨a4, ha4⟩ : ∃ a4, G2.length = a4 := ⟨_, rfl⟩
  have l3 : (G2 ++ [AObj.cells true 0 (evC L v)]).length = a4 + 1 := by simp [ha4]
  rw [ha4] at k4 l2 ⊢
  generalize (G2 ++ [AObj.cells true 0 (evC L v)] : AHeap) = G3 at k4 x3 l3
  have xH3 := xG.trans x3
  have hl3 := hl.ext xH3
  have k0 := x3.cell g0
  have k1 := x3.cell g1
  clear hst
  (repeat (first | refine yw ?_ | ((first | apply yd | apply ye); simp (disch := first|exact zz|fail) only [go_sem, hl3.len, hl3.idx, hl3.load, load_at k0, evC]; with_reducible rfl)))
  (refine aops_call_to (sunless_c _ _) ?_)
  (refine yg ?_)
  (refine aops_call_to (sfirst_c (l := [_, _]) (Ints.last (l := [_, _]) 2) (by simp)) ?_)
  have e1 : firstErr [evErrL L M, (if decide ((2 : Int) ≤ (M.length : Int)) = true then 0 else 10)] = fewE L M := by
    unfold fewE
    have e0 : ((2 : Int) ≤ (M.length : Int)) = (2 ≤ M.length) := by simp; omega
    simp only [decide_eq_true_eq, e0]
  rw [e1]
  have x4 := x3.app [AObj.cells true 1 [.int .i64 (evErrL L M), .int .i64 (if decide ((2 : Int) ≤ (M.length : Int)) = true then 0 else 10)]]
  have k4 := at_app (N := [AObj.cells true 1 [.int .i64 (evErrL L M), .int .i64 (if decide ((2 : Int) ≤ (M.length : Int)) = true then 0 else 10)]]) k4
  have l4 : (G3 ++ [AObj.cells true 1 [.int .i64 (evErrL L M), .int .i64 (if decide ((2 : Int) ≤ (M.length : Int)) = true then 0 else 10)]]).length = a4 + 2 := by simp [l3]
  generalize (G3 ++ [AObj.cells true 1 [.int .i64 (evErrL L M), .int .i64 (if decide ((2 : Int) ≤ (M.length : Int)) = true then 0 else 10)]] : AHeap) = G4 at x4 k4 l4
  have xH4 := xG.trans x4
  have hl4 := hl.ext xH4
  have k0 := x4.cell g0
  have k1 := x4.cell g1
  by_cases hfe : fewE L M = 0
  rotate_left 1
  · have ee : fewErr L M = fewE L M := by unfold fewErr; rw [if_pos hfe]
    (repeat (first | refine yw ?_ | ((first | apply yd | apply ye); simp (disch := first|exact zz|fail) only [go_sem, dec_f hfe]; with_reducible rfl)))
    refine cond_f rfl ?_
    (repeat (first | refine yw ?_ | ((first | apply yd | apply ye); simp (disch := first|exact zz|fail) only [go_sem, dec_t (show fewE L M ≠ 0 from hfe)]; with_reducible rfl)))
    refine cond_t rfl ?_
    (repeat (first | refine yw ?_ | ((first | apply yd | apply ye); simp (disch := first|exact zz|fail) only [go_sem, fill_none, store_a1 (y := .slice none 0 0) k1 rfl]; with_reducible rfl)))
    exact fin_l2a rfl (get_set_self k1) ⟨xH4.set (by omega) _, _, [], _, rfl, pairs_nil _, .inl ⟨by rw [ee]; exact hfe, ee.symm, rfl⟩⟩
  obtain ⟨hk, h2⟩ := fewE_ok hfe
  have hlen := hk.len
  have hcw := containsM_c (H := G4) (g := 101) (ys := []) (p := wideB) hl4 hb (fun j J hj _ => wide_c (hk.t1 j hj) (hk.t2 j hj))
  (repeat (first | refine yw ?_ | ((first | apply yd | apply ye); simp (disch := first|exact zz|fail) only [go_sem, hl4.len, hl4.idx, hl4.load, load_at k0, evC, dec_t hfe]; with_reducible rfl)))
  (refine aops_call_to (hcw) ?_)
  cases hwd : (idxF wideB M 0 M.length).isSome with
  | true =>
    have ee : fewErr L M = 8 := by unfold fewErr; rw [if_neg (by rw [hfe]; decide), if_pos hwd]
    (refine yg ?_)
    refine cond_t rfl ?_
    (refine yg ?_)
    refine cond_t rfl ?_
    (repeat (first | refine yw ?_ | ((first | apply yd | apply ye); simp (disch := first|exact zz|fail) only [go_sem, fill_none, store_a1 (y := .slice none 0 0) k1 rfl]; with_reducible rfl)))
    exact fin_l2a rfl (get_set_self k1) ⟨xH4.set (by omega) _, _, [], _, rfl, pairs_nil _, .inl ⟨by rw [ee]; decide, ee.symm, rfl⟩⟩
  | false =>
  have ee : fewErr L M = 0 := by unfold fewErr; rw [if_neg (by rw [hfe]; decide), if_neg (by rw [hwd]; simp)]
  (refine yg ?_)
  refine cond_f rfl ?_
  (repeat (first | refine yw ?_ | ((first | apply yd | apply ye); simp (disch := first|exact zz|fail) only [go_sem, hfe]; with_reducible rfl)))
  refine cond_f rfl ?_
  obtain ⟨B, hB⟩ : ∃ B, B = G4 ++ [AObj.cells true 0 [.int .i64 ((M.length : Int) - 1)]] ++ [AObj.map []] ++ [AObj.cells true 0 [.map (some (a4 + 3))]] ++ [AObj.cells true 0 [.int .i64 0, .int .i64 0]] := ⟨_, rfl⟩
  have hgB : ∀ (i : Nat) (c : AObj), G4[i]? = some c → B[i]? = some c := fun i c h => by rw [hB]; exact at_app (at_app (at_app (at_app h)))
  have xB : Ext H B := by rw [hB]; exact (((xH4.app _).app _).app _).app _
  have lB : B.length = a4 + 6 := by rw [hB]; simp [l4]
  have n0 : B[a4 + 2]? = some (.cells true 0 [.int .i64 ((M.length : Int) - 1)]) := by rw [hB, ← l4]; simp
  have n1 : B[a4 + 3]? = some (.map []) := by rw [hB, show a4 + 3 = G4.length + 1 by omega]; simp
  have n2 : B[a4 + 4]? = some (.cells true 0 [.map (some (a4 + 3))]) := by rw [hB, show a4 + 4 = G4.length + 2 by omega]; simp
  have n3 : B[a4 + 5]? = some (.cells true 0 [.int .i64 0, .int .i64 0]) := by rw [hB, show a4 + 5 = G4.length + 3 by omega]; simp
  have b0 := hgB _ _ k0
  have b1 := hgB _ _ k1
  have b4 := hgB _ _ k4
  (repeat (first | refine yv ?_ | (apply yd; simp (disch := first|exact zz|fail) only [go_sem, hl4.len, hl4.idx, hl4.load, load_at k0, evC, store_newI, store_newM]; with_reducible rfl)))
  (simp only [List.length_append, List.length_cons, List.length_nil, Nat.zero_add, Nat.add_assoc, Nat.reduceAdd])
  rw [l4]
  simp only [Nat.add_assoc, Nat.reduceAdd]
  rw [← hB]
  clear hB hgB
  have hlB := hl.ext xB
  (repeat (first | refine yw ?_ | ((first | apply yd | apply ye); simp (disch := first|exact zz|fail) only [go_sem, load_at b0, evC]; with_reducible rfl)))
  refine aops_call ((backward_c (H := B) hl.atom).mono fun w G5 ⟨hw, hG5⟩ => ?_)
  subst hw
  have x5 : Ext B G5 := by rw [hG5]; exact (Ext.refl B).app _
  have c5 : G5[a4 + 6]? = some (.cells true 0 [v]) := by rw [hG5, ← lB]; exact at_new
  have l5 : G5.length = a4 + 7 := by rw [hG5]; simp [lB]
  rw [lB]
  clear hG5
  have o : FewIds H.length a4 (a4 + 2) (a4 + 3) (a4 + 4) (a4 + 5) (a4 + 6) (a4 + 7) := ⟨by omega, by omega, by omega, by omega, by omega, by omega, by omega⟩
  have hS5 : FewSt H a4 (a4 + 2) (a4 + 3) (a4 + 4) (a4 + 5) (a4 + 6) L M v [] (0, 0) G5 := ⟨xB.trans x5, x5.cell b0, x5.cell b1, x5.cell b4, x5.cell n0, x5.cell n1, x5.cell n2, x5.cell n3, c5⟩
  refine yx ?_
  refine awp_rangeA mo rfl (fun l h => by cases h) (back1_c (idb := a4 + 6) (M := M) (v := v) (by omega))
    (fun rest H' => ∃ i m best, rest = backM M i ∧ i ≤ M.length ∧ TabJ L M i m best ∧ FewSt H a4 (a4 + 2) (a4 + 3) (a4 + 4) (a4 + 5) (a4 + 6) L M v m best H')
    (fun _ _ => False) ?_ ?_ ?_ ?_ ?_ ?_ ?_
  · rintro rest H' c ⟨i, m, best, h1, h2, h3, h4⟩
    exact ⟨i, m, best, h1, h2, h3, h4.set o (by omega) _⟩
  · rintro x H' c h
    exact h.elim
  · rintro rest H' ⟨i, m, best, h1, h2, h3, h4⟩
    exact ⟨h4.bb, hl.ext h4.ext⟩
  · intro N
    exact ⟨M.length, [], (0, 0), rfl, Nat.le_refl _, ⟨fun h => by omega, fun h => ⟨MapAt.start (by omega) (Int.le_refl _), rfl⟩⟩, hS5.app N⟩
  · rintro a rest H1 ⟨i, m, best, h1, h2i, h3, h4⟩ hlt
    match i, h1 with
    | k + 1, h1 =>
    obtain ⟨rfl, rfl⟩ := List.cons.inj h1
    have hkl : k < M.length := by omega
    have h3 := h3.open
    obtain ⟨x, hx⟩ : ∃ x, M.getD k (0, 0, 0) = x := ⟨_, rfl⟩
    have t1 := hk.t1 k hkl
    have t2 := hk.t2 k hkl
    have t3 := hk.lohi k hkl
    have px := hk.pos k hkl
    have emp : mP M k = x.1 := by unfold mP; rw [hx]
    obtain ⟨n, hn⟩ : ∃ n, widthN M k = n := ⟨_, rfl⟩
    have hnx : (n : Int) = x.2.2 - x.2.1 + 1 := by rw [← hn, ← hx]; unfold widthN; rw [hx] at t3 ⊢; omega
    rw [hx] at t1 t2 t3 px h3 ⊢
    refine ⟨rfl, fun R Rb _ hR => ?_⟩
    simp only [assignParams, List.zip_cons_cons, List.zip_nil_left, List.foldl_cons, List.foldl_nil]
    have hstm : storeR 3 (.pointer (some ⟨H1.length, 0, none⟩)) (markV x) (H1 ++ [.cells true 0 [.int .i64 0, .int .i64 0, .int .i64 0]]) = some (undef, H1 ++ [.cells true 0 (markC x)]) := store_new3
    (repeat (first | refine yw ?_ | ((first | apply yd | apply ye); simp (disch := first|exact zz|fail) only [go_sem, hstm]; with_reducible rfl)))
    refine ⟨rfl, at_app hR, ?_⟩
    have hS := (h4.app [AObj.cells true 0 (markC x)]).set o (j := G5.length) (by omega) Rb
    have hRb : ((H1 ++ [AObj.cells true 0 (markC x)]).set G5.length Rb)[G5.length]? = some Rb := get_set_self (at_app hR)
    have c11 : ((H1 ++ [AObj.cells true 0 (markC x)]).set G5.length Rb)[H1.length]? = some (.cells true 0 (markC x)) := by rw [List.getElem?_set_ne (by omega)]; exact at_new
    obtain ⟨i11, h11⟩ : ∃ i11, H1.length = i11 := ⟨_, rfl⟩
    rw [h11] at c11 hlt ⊢
    generalize ((H1 ++ [AObj.cells true 0 (markC x)]).set G5.length Rb : AHeap) = Hb at hS hRb c11
    clear h4 hR hstm
    (repeat (first | refine yw ?_ | ((first | apply yd | apply ye); simp (disch := first|exact zz|fail) only [go_sem, load_at c11, markC]; with_reducible rfl)))
    refine awp_loop_n [false, true, true, false, true, false, false, true, true, true, true, true, true, false, false, false, false, false, false, false, false, false, false, false, false, false, false, false, false, false, false, false, false, false, false, false, false, false, false, false, false, false, false, false, false, false, false, false, false, false, false, false, false, false, false, false, false, false, false, false, false, false, false, false, false, false, false, false, false, false, false, false, false, false, false, false, false, false, false, false, false, false, false, false, false, false, false, false, false, false, false, false, false, false, false, false, false, false, false, false, false, false, false, false, false, false, false, false, false, false, false, false, false, false, false, false, false, false, false, false, false, false, false, false, false, false, false, false, false, false, false, false, false, false, false, false, false, false, false, false, false, false, false, false, false, false, false, false, false, false, false, false] n (fun q e H' => ∃ m best, e = [junk, .pointer (some ⟨H.length, 0, none⟩), .pointer (some ⟨H.length + 1, 0, none⟩), junk, .pointer (some ⟨a4, 0, none⟩), junk, junk, .pointer (some ⟨a4 + 2, 0, none⟩), .pointer (some ⟨a4 + 4, 0, none⟩), .pointer (some ⟨a4 + 5, 0, none⟩), .int .i64 (k : Int), .pointer (some ⟨i11, 0, none⟩), .int .i64 (x.2.1 + (q : Int)), junk, junk, junk, junk, junk, junk, junk, junk, junk, junk, junk, junk, junk, junk, junk, junk, junk, junk, junk, junk, junk, junk, junk, junk, junk, junk, junk, junk, junk, junk, junk, junk, junk, junk, junk, junk, junk, junk, junk, junk, junk, junk, junk, junk, junk, junk, junk, junk, junk, junk, junk, junk, junk, junk, junk, junk, junk, junk, junk, junk, junk, junk, junk, junk, junk, junk, junk, junk, junk, junk, junk, junk, junk, junk, junk, junk, junk, junk, junk, junk, junk, junk, junk, junk, junk, junk, junk, junk, junk, junk, junk, junk, junk, junk, junk, junk, junk, junk, junk, junk, junk, junk, junk, junk, junk, junk, junk, junk, junk, junk, junk, junk, junk, junk, junk, junk, junk, junk, junk, junk, junk, junk, junk, junk, junk, junk, junk, junk, junk, junk, junk, junk, junk, junk, junk, junk, junk, junk, junk] ∧
      TabI L M k (x.2.1 + (q : Int)) m best ∧ FewSt H a4 (a4 + 2) (a4 + 3) (a4 + 4) (a4 + 5) (a4 + 6) L M v m best H' ∧ H'[G5.length]? = some Rb ∧ H'[i11]? = some (.cells true 0 (markC x))) ?_ ?_
    · exact ⟨m, best, by simp [forget], by simpa using h3, hS, hRb, c11⟩
    rintro q e H2 hq ⟨m, best, rfl, hT, hS, hRb, c11⟩
    (repeat (first | refine yw ?_ | ((first | apply yd | apply ye); simp (disch := first|exact zz|fail) only [go_sem, load_at c11, markC]; with_reducible rfl)))
    refine cond_p rfl (fun hlt2 => ?_) (fun hge2 => ?_)
    rotate_left 1
    · have hqn : q = n := by omega
      subst hqn
      (refine yg ?_)
      refine rounded_n hRb ⟨k, m, best, rfl, by omega, ?_, hS⟩
      refine TabI.close ?_
      rw [hx]
      rw [show x.2.2 + 1 = x.2.1 + (q : Int) by omega]
      exact hT
    have hqn : q < n := by omega
    obtain ⟨t, ht⟩ : ∃ t, x.2.1 + (q : Int) = t := ⟨_, rfl⟩
    have hin : inR M k t := by unfold inR; rw [hx]; omega
    have ht2 : t + 1 = x.2.1 + ((q + 1 : Nat) : Int) := by omega
    rw [ht] at hT
    have lH2 : a4 + 7 ≤ H2.length ∧ G5.length < H2.length ∧ i11 < H2.length := by
      have q1 := (List.getElem?_eq_some_iff.1 hS.bb).1
      have q2 := (List.getElem?_eq_some_iff.1 hRb).1
      have q3 := (List.getElem?_eq_some_iff.1 c11).1
      omega
    (repeat (first | refine yv ?_ | (apply yd; simp (disch := first|exact zz|fail) only [go_sem, load_at c11, markC, ht, fill2i, store_new2]; with_reducible rfl)))
    have hS := hS.app [AObj.cells true 0 [.int .i64 x.1, .int .i64 t]]
    have hRb := at_app (N := [AObj.cells true 0 [.int .i64 x.1, .int .i64 t]]) hRb
    have c11 := at_app (N := [AObj.cells true 0 [.int .i64 x.1, .int .i64 t]]) c11
    have c13 : (H2 ++ [AObj.cells true 0 [.int .i64 x.1, .int .i64 t]])[H2.length]? = some (.cells true 0 [.int .i64 x.1, .int .i64 t]) := at_new
    obtain ⟨i13, h13⟩ : ∃ i13, H2.length = i13 := ⟨_, rfl⟩
    rw [h13] at c13 lH2 ⊢
    generalize (H2 ++ [AObj.cells true 0 [.int .i64 x.1, .int .i64 t]] : AHeap) = G6 at hS hRb c11 c13
    have hne : ∀ (c : AObj), (G6.set (a4 + 3) c)[G5.length]? = some Rb ∧ (G6.set (a4 + 3) c)[i11]? = some (.cells true 0 (markC x)) ∧ (G6.set (a4 + 3) c)[i13]? = some (.cells true 0 [.int .i64 x.1, .int .i64 t]) := fun c =>
      ⟨by rw [List.getElem?_set_ne (by omega)]; exact hRb, by rw [List.getElem?_set_ne (by omega)]; exact c11, by rw [List.getElem?_set_ne (by omega)]; exact c13⟩
    (repeat (first | refine yw ?_ | ((first | apply yd | apply ye); simp (disch := first|exact zz|fail) only [go_sem, load_at hS.b7]; with_reducible rfl)))
    refine cond_p rfl (fun hlast => ?_) (fun hnl => ?_)
    · have hkl1 : k + 1 = M.length := by omega
      have hw := tabK_last (L := L) hkl1 hin
      have hput : mapPutR [(0, false), (1, false)] (.map (some (a4 + 3))) (.agg ⟨[.int .i64 x.1, .int .i64 t]⟩) (.agg ⟨[.int .i64 1, .int .i64 0, .int .i64 0, .int .i64 0]⟩) G6 = some (undef, G6.set (a4 + 3) (.map (entsP (putP (x.1, t) (wayV (1, (0, 0), 0)) m)))) := map_put hS.mp x.1 t _
      have hT2 := hT.other hk hkl hin hw (by omega)
      rw [emp, ht2] at hT2
      obtain ⟨q1, q2, q3⟩ := hne (.map (entsP (putP (x.1, t) (wayV (1, (0, 0), 0)) m)))
      (repeat (first | refine yw ?_ | ((first | apply yd | apply ye); simp (disch := first|exact zz|fail) only [go_sem, load_at hS.b8, n2_at c13, hput, ht2]; with_reducible rfl)))
      exact ⟨by omega, _, best, by simp [forget], hT2, hS.put o _, q1, q2⟩
    have hkl1 : k + 1 < M.length := by omega
    have hl6 := hl.ext hS.ext
    have hsh : ACall Go.Proofs.Try.prog 104 [evV L v, .int .i64 k, .agg ⟨[.int .i64 (mP M k), .int .i64 t]⟩, .map (some (a4 + 3))] G6 fun w H' => w = .tuple #[wayV (outK L M k t), .bool (decide (0 < (outK L M k t).1))] ∧ H' = G6 :=
      shortest_c (T := tabN L M (M.length - (k + 1))) hl6 hk hkl hin hS.mp (fun a b h1 h2 h3 => by rw [tabK_of h2 (by omega) (by omega)]; exact hT.1.get a b h2 (.inl h1) h3) (fun a b w hw => tab_few (by omega) hlen hw)
    have hmid := tabK_mid (L := L) hkl1 hin
    obtain ⟨out, ho⟩ : ∃ out, outK L M k t = out := ⟨_, rfl⟩
    rw [ho] at hsh hmid
    rw [emp] at hsh
    have hst14 := store_newW (H := G6) (w := out) (vs := [.int .i64 0, .int .i64 0, .int .i64 0, .int .i64 0]) rfl
    (repeat (first | refine yw ?_ | ((first | apply yd | apply ye); simp (disch := first|exact zz|fail) only [go_sem, load_ev hS.b4, n2_at c13, load_at hS.b8]; with_reducible rfl)))
    (refine aops_call_to (hsh) ?_)
    (repeat (first | refine yv ?_ | (apply yd; simp (disch := first|exact zz|fail) only [go_sem, hst14]; with_reducible rfl)))
    have hS7 := hS.app [AObj.cells true 0 (wayC out)]
    have hRb := at_app (N := [AObj.cells true 0 (wayC out)]) hRb
    have c11 := at_app (N := [AObj.cells true 0 (wayC out)]) c11
    have l13 : i13 < G6.length := (List.getElem?_eq_some_iff.1 c13).1
    have c13 := at_app (N := [AObj.cells true 0 (wayC out)]) c13
    have c14 : (G6 ++ [AObj.cells true 0 (wayC out)])[G6.length]? = some (.cells true 0 (wayC out)) := at_new
    obtain ⟨i14, h14⟩ : ∃ i14, G6.length = i14 := ⟨_, rfl⟩
    rw [h14] at c14 l13 ⊢
    clear hne hst14
    generalize (G6 ++ [AObj.cells true 0 (wayC out)] : AHeap) = G7 at hS7 hRb c11 c13 c14
    refine cond_p (p := 0 < out.1) rfl (fun h0 => ?_) (fun h0 => ?_)
    rotate_left 1
    · rw [if_neg h0] at hmid
      have hT2 := hT.skip hk hkl hmid
      rw [ht2] at hT2
      (repeat (first | refine yw ?_ | ((first | apply yd | apply ye); simp (disch := first|exact zz|fail) only [go_sem, ht2]; with_reducible rfl)))
      exact ⟨by omega, m, best, by simp [forget], hT2, hS7, hRb, c11⟩
    rw [if_pos h0] at hmid
    obtain ⟨m', hm'⟩ : ∃ m', putP (x.1, t) (wayV out) m = m' := ⟨_, rfl⟩
    have hput : mapPutR [(0, false), (1, false)] (.map (some (a4 + 3))) (.agg ⟨[.int .i64 x.1, .int .i64 t]⟩) (wayV out) G7 = some (undef, G7.set (a4 + 3) (.map (entsP m'))) := by rw [← hm']; exact map_put hS7.mp x.1 t _
    have hS8 := hS7.put o m'
    have hRb := (show (G7.set (a4 + 3) (.map (entsP m')))[G5.length]? = some Rb by rw [List.getElem?_set_ne (by omega)]; exact hRb)
    have c11 := (show (G7.set (a4 + 3) (.map (entsP m')))[i11]? = some (.cells true 0 (markC x)) by rw [List.getElem?_set_ne (by omega)]; exact c11)
    have d13 := (show (G7.set (a4 + 3) (.map (entsP m')))[i13]? = some (.cells true 0 [.int .i64 x.1, .int .i64 t]) by rw [List.getElem?_set_ne (by omega)]; exact c13)
    have d14 := (show (G7.set (a4 + 3) (.map (entsP m')))[i14]? = some (.cells true 0 (wayC out)) by rw [List.getElem?_set_ne (by omega)]; exact c14)
    (repeat (first | refine yv ?_ | (apply yd; simp (disch := first|exact zz|fail) only [go_sem, load_at hS7.b8, n2_at c13, load_way c14, hput]; with_reducible rfl)))
    generalize (G7.set (a4 + 3) (.map (entsP m')) : AHeap) = G8 at hS8 hRb c11 d13 d14
    obtain ⟨og, hog, hcase⟩ : ∃ og : Option Way, getP m' best = og.map wayV ∧ ((k ≠ 0 ∧ TabI L M k (t + 1) m' best) ∨ (k = 0 ∧ ((og = none ∧ TabI L M k (t + 1) m' (x.1, t)) ∨ ∃ u : Way, og = some u ∧ best.1 = x.1 ∧ (out.1 < u.1 → TabI L M k (t + 1) m' (x.1, t)) ∧ (¬ out.1 < u.1 → TabI L M k (t + 1) m' best)))) := by
      by_cases hk0 : k = 0
      · subst hk0
        obtain ⟨og, h1, h2⟩ := hT.first hk (by omega) hin hmid
        rw [emp, hm'] at h1 h2
        exact ⟨og, h1, .inr ⟨rfl, h2⟩⟩
      · have h2 := hT.other hk hkl hin hmid hk0
        rw [emp, hm'] at h2
        obtain ⟨og, h1⟩ := h2.1.any best
        exact ⟨og, h1, .inl ⟨hk0, h2⟩⟩
    have hst16 := store_newW (H := G8) (w := og.getD zeroW) (vs := [.int .i64 0, .int .i64 0, .int .i64 0, .int .i64 0]) rfl
    (repeat (first | refine yv ?_ | (apply yd; simp (disch := first|exact zz|fail) only [go_sem, load_at hS8.b8, n2_at hS8.b9, get_way hS8.mp hog, hst16]; with_reducible rfl)))
    have hS9 := hS8.app [AObj.cells true 0 (wayC (og.getD zeroW))]
    have hRb := at_app (N := [AObj.cells true 0 (wayC (og.getD zeroW))]) hRb
    have c11 := at_app (N := [AObj.cells true 0 (wayC (og.getD zeroW))]) c11
    have d13 := at_app (N := [AObj.cells true 0 (wayC (og.getD zeroW))]) d13
    have d14 := at_app (N := [AObj.cells true 0 (wayC (og.getD zeroW))]) d14
    have d16 : (G8 ++ [AObj.cells true 0 (wayC (og.getD zeroW))])[G8.length]? = some (.cells true 0 (wayC (og.getD zeroW))) := at_new
    obtain ⟨i16, h16⟩ : ∃ i16, G8.length = i16 := ⟨_, rfl⟩
    rw [h16] at d16 ⊢
    clear hst16 hput
    generalize (G8 ++ [AObj.cells true 0 (wayC (og.getD zeroW))] : AHeap) = G9 at hS9 hRb c11 d13 d14 d16
    have better : TabI L M k (t + 1) m' (x.1, t) → ∃ m best, ([junk, .pointer (some ⟨H.length, 0, none⟩)] : List Value) = [junk, .pointer (some ⟨H.length, 0, none⟩)] ∧ TabI L M k (x.2.1 + ((q + 1 : Nat) : Int)) m best ∧ FewSt H a4 (a4 + 2) (a4 + 3) (a4 + 4) (a4 + 5) (a4 + 6) L M v m best (G9.set (a4 + 5) (.cells true 0 [.int .i64 x.1, .int .i64 t])) ∧ (G9.set (a4 + 5) (.cells true 0 [.int .i64 x.1, .int .i64 t]))[G5.length]? = some Rb ∧ (G9.set (a4 + 5) (.cells true 0 [.int .i64 x.1, .int .i64 t]))[i11]? = some (.cells true 0 (markC x)) := fun hT2 =>
      ⟨m', (x.1, t), rfl, ht2 ▸ hT2, hS9.setBest o (x.1, t), by rw [List.getElem?_set_ne (by omega)]; exact hRb, by rw [List.getElem?_set_ne (by omega)]; exact c11⟩
    rcases hcase with ⟨hk0, hT2⟩ | ⟨hk0, ⟨rfl, hT2⟩ | ⟨u, rfl, hb1, hT2, hT3⟩⟩
    · (repeat (first | refine yw ?_ | ((first | apply yd | apply ye); simp (disch := first|exact zz|fail) only [go_sem, dec_f (show ¬ (k : Int) = 0 by omega)]; with_reducible rfl)))
      refine cond_f rfl ?_
      (repeat (first | refine yw ?_ | ((first | apply yd | apply ye); simp (disch := first|exact zz|fail) only [go_sem, ht2]; with_reducible rfl)))
      exact ⟨by omega, m', best, by simp [forget], ht2 ▸ hT2, hS9, hRb, c11⟩
    · obtain ⟨m2, best2, _, r1, r2, r3, r4⟩ := better hT2
      (repeat (first | refine yw ?_ | ((first | apply yd | apply ye); simp (disch := first|exact zz|fail) only [go_sem, dec_t (show (k : Int) = 0 by omega)]; with_reducible rfl)))
      refine cond_t rfl ?_
      (repeat (first | refine yw ?_ | ((first | apply yd | apply ye); simp (disch := first|exact zz|fail) only [go_sem, n2_at d13, store_b2 hS9.b9, ht2]; with_reducible rfl)))
      exact ⟨by omega, m2, best2, by simp [forget], r1, r2, r3, r4⟩
    · have d16' : G9[i16]? = some (.cells true 0 (wayC u)) := d16
      by_cases hwu : out.1 < u.1
      · obtain ⟨m2, best2, _, r1, r2, r3, r4⟩ := better (hT2 hwu)
        (repeat (first | refine yw ?_ | ((first | apply yd | apply ye); simp (disch := first|exact zz|fail) only [go_sem, dec_t (show (k : Int) = 0 by omega), load_at hS9.b9, load_at c11, markC, hb1, load_at d14, load_at d16', wayC, dec_t (show (out.1 : Int) < (u.1 : Int) by omega)]; with_reducible rfl)))
        refine cond_t rfl ?_
        (repeat (first | refine yw ?_ | ((first | apply yd | apply ye); simp (disch := first|exact zz|fail) only [go_sem, n2_at d13, store_b2 hS9.b9, ht2]; with_reducible rfl)))
        exact ⟨by omega, m2, best2, by simp [forget], r1, r2, r3, r4⟩
      · (repeat (first | refine yw ?_ | ((first | apply yd | apply ye); simp (disch := first|exact zz|fail) only [go_sem, dec_t (show (k : Int) = 0 by omega), load_at hS9.b9, load_at c11, markC, hb1, load_at d14, load_at d16', wayC, dec_f (show ¬ (out.1 : Int) < (u.1 : Int) by omega)]; with_reducible rfl)))
        refine cond_f rfl ?_
        (repeat (first | refine yw ?_ | ((first | apply yd | apply ye); simp (disch := first|exact zz|fail) only [go_sem, ht2]; with_reducible rfl)))
        exact ⟨by omega, m', best, by simp [forget], ht2 ▸ hT3 hwu, hS9, hRb, c11⟩
  · rintro H' ⟨i, m, best, h1, h2i, h3, h4⟩
    match i, h1 with
    | 0, _ =>
    obtain ⟨hM, hBs⟩ := h3.1 rfl
    clear h3 x5 c5 l5 hS5 n0 n1 n2 n3 b0 b1 b4 xB lB hlB
    have hl9 := hl.ext h4.ext
    rcases hBs with ⟨e1, e2⟩ | ⟨b, w, e1, e2, e3, e4, e5⟩
    · have hg0 : getP m best = (none : Option Way).map wayV := by
        rw [e1]
        cases hp : getP m (0, 0) with
        | none => rfl
        | some x =>
          obtain ⟨k', b, e3, hk', hc, hrb⟩ := hM.only (0, 0) (by rw [hp]; simp)
          have hb1 : (0 : Int) = mP M k' := (Prod.mk.inj e3).1
          have p0 := hk.pos 0 (by omega)
          rcases hc with hc | ⟨rfl, hc⟩
          · have := hk.lt hc hk'
            unfold mP at hb1; omega
          · have := hM.get 0 b (by omega) (.inr ⟨rfl, hc⟩) hrb
            rw [← e3, hp, e2 b hrb hc] at this; cases this
      have hst := store_newW (H := H') (w := zeroW) (vs := [.int .i64 0, .int .i64 0, .int .i64 0, .int .i64 0]) rfl
      have hg1 := get_way h4.mp hg0
      (repeat (first | refine yw ?_ | ((first | apply yd | apply ye); simp (disch := first|exact zz|fail) only [go_sem, load_at h4.b8, n2_at h4.b9, hg1, Option.getD_none, hst]; with_reducible rfl)))
      refine cond_t rfl ?_
      have k1 := at_app (N := [AObj.cells true 0 (wayC zeroW)]) h4.b2
      (repeat (first | refine yw ?_ | ((first | apply yd | apply ye); simp (disch := first|exact zz|fail) only [go_sem, fill_none, store_a1 (y := .slice none 0 0) k1 rfl]; with_reducible rfl)))
      exact fin_l2a rfl (get_set_self k1) ⟨(h4.ext.app _).set (by omega) _, _, [], _, rfl, pairs_nil _, .inr (.inl ⟨ee, rfl, rfl, none_chain (by omega) e2⟩)⟩
    have hw12 := ((tabK_spec (show 0 < M.length by omega)).1 w e4).1.few
    have hg0 : getP m best = (some w).map wayV := by rw [e1, hM.get 0 b (by omega) (.inr ⟨rfl, e3⟩) e2, e4]
    have hst := store_newW (H := H') (w := w) (vs := [.int .i64 0, .int .i64 0, .int .i64 0, .int .i64 0]) rfl
    have hg1 := get_way h4.mp hg0
    subst e1
    (repeat (first | refine yv ?_ | (apply yd; simp (disch := first|exact zz|fail) only [go_sem, load_at h4.b8, n2_at h4.b9, hg1, Option.getD_some, hst]; with_reducible rfl)))
    have hS := h4.app [AObj.cells true 0 (wayC w)]
    have c18 : (H' ++ [AObj.cells true 0 (wayC w)])[H'.length]? = some (.cells true 0 (wayC w)) := at_new
    have li : a4 + 7 ≤ H'.length := (List.getElem?_eq_some_iff.1 h4.bb).1
    obtain ⟨i18, h18⟩ : ∃ i18, H'.length = i18 := ⟨_, rfl⟩
    have lF : (H' ++ [AObj.cells true 0 (wayC w)]).length = i18 + 1 := by simp [h18]
    rw [h18] at c18 li ⊢
    clear h4 hst hg1
    generalize (H' ++ [AObj.cells true 0 (wayC w)] : AHeap) = F at hS c18 lF
    have hl10 := hl.ext hS.ext
    have hm0 := (hl10.load (Ext.refl F) (i := 0) (by omega)).2.2.2.2.2.2.2.1
    have hf0 := (hl10.load (Ext.refl F) (i := 0) (by omega)).2.2.1
    have hix := hl10.idx (H' := F) (i := 0) (k := .i64) (by omega) (by omega)
    rw [show ((0 : Int).toNat * 3) = 0 * 3 from rfl] at hix
    (repeat (first | refine yw ?_ | ((first | apply yd | apply ye); simp (disch := first|exact zz|fail) only [go_sem, load_at hS.b9, load_at hS.b1, evC, hix, hf0, hm0]; with_reducible rfl)))
    refine cond_f rfl ?_
    have hsl : ∀ J : AHeap, storeR 1 (.pointer (some ⟨J.length, 0, none⟩)) (.agg ⟨[.slice (some ⟨i18 + 1, 0, none⟩) 1 1]⟩) (J ++ [.cells true 0 [.slice none 0 0]]) = some (undef, J ++ [.cells true 0 [.slice (some ⟨i18 + 1, 0, none⟩) 1 1]]) := fun J => store_newA rfl
    (repeat (first | refine yv ?_ | (apply yd; simp (disch := first|exact zz|fail) only [go_sem, n2_at hS.b9, fill_pair, fillA_slice, lF, hsl]; with_reducible rfl)))
    obtain ⟨F2, hF2⟩ : ∃ F2, F2 = F ++ [AObj.cells true 2 [.int .i64 (mP M 0), .int .i64 b]] ++ [AObj.cells true 0 [.slice (some ⟨i18 + 1, 0, none⟩) 1 1]] := ⟨_, rfl⟩
    have hS2 : FewSt H a4 (a4 + 2) (a4 + 3) (a4 + 4) (a4 + 5) (a4 + 6) L M v m (mP M 0, b) F2 := by rw [hF2]; exact (hS.app _).app _
    have c18 : F2[i18]? = some (.cells true 0 (wayC w)) := by rw [hF2]; exact at_app (at_app c18)
    have c19 : F2[i18 + 1]? = some (.cells true 2 [.int .i64 (mP M 0), .int .i64 b]) := by rw [hF2, ← lF]; exact at_app at_new
    have c20 : F2[i18 + 2]? = some (.cells true 0 [.slice (some ⟨i18 + 1, 0, none⟩) 1 1]) := by rw [hF2, show i18 + 2 = F.length + 1 by omega]; simp
    have hown : OwnP F F2 [(mP M 0, b)] (.slice (some ⟨i18 + 1, 0, none⟩) 1 1) := ⟨rfl, .inr ⟨i18 + 1, rfl, by omega, Nat.one_pos, c19⟩⟩
    try (simp only [List.length_append, List.length_cons, List.length_nil, Nat.zero_add, Nat.add_assoc, Nat.reduceAdd])
    try simp only [lF, Nat.add_assoc, Nat.reduceAdd]
    rw [← hF2]
    clear hF2 c19 hsl
    refine awp_loop_n [false, true, true, false, false, false, false, false, true, false, false, false, false, false, false, false, false, false, true, false, true, false, false, false, false, false, false, false, false, false, false, false, false, false, false, false, false, false, false, false, false, false, false, false, false, false, false, false, false, false, false, false, false, false, false, false, false, false, false, false, false, false, false, false, false, false, false, false, false, false, false, false, false, false, false, false, false, false, false, false, false, false, false, false, false, false, false, false, false, false, false, false, false, false, false, false, false, false, false, false, false, false, false, false, false, false, false, false, false, false, false, false, false, false, false, false, false, false, false, false, false, false, false, false, false, false, false, false, false, false, false, false, false, false, false, false, false, false, false, false, false, false, false, false, false, false, false, false, false, false, false, false] (w.1 - 1) (fun j e J => ∃ k c u pre sv, e = [junk, .pointer (some ⟨H.length, 0, none⟩), .pointer (some ⟨H.length + 1, 0, none⟩), junk, junk, junk, junk, junk, .pointer (some ⟨a4 + 4, 0, none⟩), junk, junk, junk, junk, junk, junk, junk, junk, junk, .pointer (some ⟨i18, 0, none⟩), junk, .pointer (some ⟨i18 + 2, 0, none⟩), junk, junk, junk, junk, junk, junk, junk, junk, junk, junk, junk, junk, junk, junk, junk, junk, junk, junk, junk, junk, junk, junk, junk, junk, junk, junk, junk, junk, junk, junk, junk, junk, junk, junk, junk, junk, junk, junk, junk, junk, junk, junk, junk, junk, junk, junk, junk, junk, junk, junk, junk, junk, junk, junk, junk, junk, junk, junk, junk, junk, junk, junk, junk, junk, junk, junk, junk, junk, junk, junk, junk, junk, junk, junk, junk, junk, junk, junk, junk, junk, junk, junk, junk, junk, junk, junk, junk, junk, junk, junk, junk, junk, junk, junk, junk, junk, junk, junk, junk, junk, junk, junk, junk, junk, junk, junk, junk, junk, junk, junk, junk, junk, junk, junk, junk, junk, junk, junk, junk, junk, junk, junk, junk, junk, junk, junk, junk, junk, junk, junk, junk] ∧
      k < M.length ∧ tabK L M k c = some u ∧ u.1 + j = w.1 ∧ pre.length = j ∧ (∀ l, ChainL L M k c l → ChainL L M 0 b (pre ++ l)) ∧ FewSt H a4 (a4 + 2) (a4 + 3) (a4 + 4) (a4 + 5) (a4 + 6) L M v m (mP M 0, b) J ∧ J[i18]? = some (.cells true 0 (wayC u)) ∧ J[i18 + 2]? = some (.cells true 0 [sv]) ∧ OwnP F J (pre ++ [(mP M k, c)]) sv ∧ idOf sv ≠ i18 + 2 ∧ i18 + 2 < J.length) ?_ ?_
    · exact ⟨0, b, w, [], _, by simp [forget], by omega, e4, rfl, rfl, fun l h => h, hS2, c18, c20, hown, by show i18 + 1 ≠ i18 + 2; omega, (List.getElem?_eq_some_iff.1 c20).1⟩
    clear hS2 c18 c20 hown
    rintro j e J hj ⟨k, c, u, pre, sv, rfl, hkl, hu, huj, hpl, hch, hS3, c18, c20, hown, hid, hlJ⟩
    have hu0 := ((tabK_spec hkl).1 u hu).1.lt.2
    have hpl2 : (pre ++ [(mP M k, c)]).length = j + 1 := by simp [hpl]
    (repeat (first | refine yw ?_ | ((first | apply yd | apply ye); simp (disch := first|exact zz|fail) only [go_sem, load_at c18, wayC]; with_reducible rfl)))
    refine cond_p (p := (1 : Int) < (u.1 : Int)) rfl (fun hlt => ?_) (fun hge => ?_)
    rotate_left 1
    · obtain ⟨hk1, hin⟩ := tab_one hkl hu (by omega)
      have hfin := hch _ (ChainL.last hk1 hin)
      have k1 := hS3.b2
      have hsv : isAtom sv = true := hown.pairs.atom
      (repeat (first | refine yw ?_ | ((first | apply yd | apply ye); simp (disch := first|exact zz|fail) only [go_sem, n1_at c20, store_a1 (y := sv) k1 hsv]; with_reducible rfl)))
      refine fin_l2a rfl (get_set_self k1) ⟨hS3.ext.set (by omega) _, sv, pre ++ [(mP M k, c)], 0, rfl, (hown.set_ne (hown.aside (by omega)) _).pairs, .inr (.inr ⟨ee, rfl, b, hfin, fun s' n hc => ?_⟩)⟩
      have := first_min (by omega) e5 s' n hc
      omega
    obtain ⟨a, d, w', n1, n2, n3, n4, n5, n6, n7⟩ := tab_next hkl hu (by omega)
    have en1 : u.2.1.1 = mP M a := by rw [n5]
    have en2 : u.2.1.2 = d := by rw [n5]
    have hgw : getP m (mP M a, d) = (some w').map wayV := by
      rw [hM.get a d n2 ?_ n3, n6]
      by_cases ha : a = 0
      · omega
      · exact .inl (by omega)
    have hpush := hown.push (by rw [hpl2]; omega) (mP M a) d
    have hlF : F.length ≤ J.length := by omega
    have own2 := hown.pushedL hlF (mP M a, d)
    have hasd : ∀ i, i < i18 + 1 → sv = .slice none 0 0 ∨ idOf sv ≠ i := fun i hi => hown.aside (by omega)
    have p20 := pushP_at (l := pre ++ [(mP M k, c)]) (x := (mP M a, d)) c20 (.inr hid)
    have p18 := pushP_at (l := pre ++ [(mP M k, c)]) (x := (mP M a, d)) c18 (hasd _ (by omega))
    have hst20 := store_b1 (y := pushV J (pre ++ [(mP M k, c)]).length) p20 rfl rfl
    rw [hpl2] at hpush own2 hst20
    have hS4 := (hS3.push o hown (by omega) (mP M a, d)).set o (j := i18 + 2) (by omega) (.cells true 0 [pushV J (j + 1)])
    have q18 := (show ((pushPH J sv (pre ++ [(mP M k, c)]) (mP M a, d)).set (i18 + 2) (.cells true 0 [pushV J (j + 1)]))[i18]? = some (.cells true 0 (wayC u)) by rw [List.getElem?_set_ne (by omega)]; exact p18)
    have q20 := (show ((pushPH J sv (pre ++ [(mP M k, c)]) (mP M a, d)).set (i18 + 2) (.cells true 0 [pushV J (j + 1)]))[i18 + 2]? = some (.cells true 0 [pushV J (j + 1)]) from get_set_self p20)
    have own3 := own2.set_ne (j := i18 + 2) (.inr (by show J.length + 1 ≠ i18 + 2; omega)) (.cells true 0 [pushV J (j + 1)])
    have l4' : ((pushPH J sv (pre ++ [(mP M k, c)]) (mP M a, d)).set (i18 + 2) (.cells true 0 [pushV J (j + 1)])).length = J.length + 2 := by rw [List.length_set, pushP_len]
    (repeat (first | refine yv ?_ | (apply yd; simp (disch := first|exact zz|fail) only [go_sem, load1 c20, load_way2 c18, en1, en2, fill_pair, hpush, hst20]; with_reducible rfl)))
    generalize ((pushPH J sv (pre ++ [(mP M k, c)]) (mP M a, d)).set (i18 + 2) (.cells true 0 [pushV J (j + 1)]) : AHeap) = J2 at hS4 q18 q20 own3 l4'
    have hst18 := store_atW (w := w') q18
    (repeat (first | refine yw ?_ | ((first | apply yd | apply ye); simp (disch := first|exact zz|fail) only [go_sem, load_at hS4.b8, load_way2 q18, en1, en2, get_way1 hS4.mp hgw, Option.getD_some, hst18]; with_reducible rfl)))
    refine ⟨by omega, a, d, w', pre ++ [(mP M k, c)], pushV J (j + 1), by simp [forget], n2, n6, by omega, hpl2, fun l hl => ?_, hS4.set o (by omega) _, get_set_self q18, ?_, own3.set_ne (.inr ?_) _, ?_, ?_⟩
    · rw [List.append_assoc]
      exact hch _ (ChainL.step ((tabK_spec hkl).1 u hu).1.inR n1 n4 hl)
    · rw [List.getElem?_set_ne (by omega)]; exact q20
    · show J.length + 1 ≠ i18; omega
    · show J.length + 1 ≠ i18 + 2; omega
    · rw [List.length_set]; omega
  · rintro x H' hx h
    exact h.elim
end
end Go.Lq

namespace Go.Lq
open Go
open Go.Proofs

def mapX : List (Int × Int) := [(0, 0), (10, 100), (20, 220)]
def evX : List Mark := [(0, 0, 0), (10, 90, 130), (20, 150, 210)]
theorem posX : posAtL mapX 105 = ((666, 667), 0) := by decide +kernel
theorem encX : encAtL (8, 12) evX 10 = ((90, 120), 0) := by decide +kernel
theorem fbt : (false != true) = true := rfl
section
variable {H : AHeap}
theorem map0_c : ACall Go.Proofs.Try.prog 69 [] H fun w H' => ∃ s, w = .agg ⟨[s]⟩ ∧ Pairs H' mapX s ∧ Ext H H' := by
  (refine a69 ?_; simp only [n69, List.replicate, yq, yr, yt, yu]; first | refine q1 ?_ | refine q2 ?_ | refine q6 ?_ | refine q7 ?_ | refine qh rfl ?_ | skip)
  have g0 : (H ++ [AObj.cells true 0 [.slice none 0 0]])[H.length]? = some (.cells true 0 [.slice none 0 0]) := at_new
  have xG : Ext H (H ++ [AObj.cells true 0 [.slice none 0 0]]) := (Ext.refl H).app _
  (refine yh ?_)
  generalize (H ++ [AObj.cells true 0 [.slice none 0 0]] : AHeap) = G at g0 xG
  have hf : fillA [.int .i64 0, .int .i64 0, .int .i64 0, .int .i64 0, .int .i64 0, .int .i64 0] [(0, 2, .agg ⟨[.int .i64 0, .int .i64 0]⟩), (2, 2, .agg ⟨[.int .i64 10, .int .i64 100]⟩), (4, 2, .agg ⟨[.int .i64 20, .int .i64 220]⟩)] = some (flatP mapX) := rfl
  have hm : mkSliceL 2 3 (some (flatP mapX)) G = some (.slice (some ⟨G.length, 0, none⟩) 3 3, G ++ [.cells true 2 (flatP mapX)]) := mkSliceL_some rfl
  have k0 := at_app (N := [AObj.cells true 2 (flatP mapX)]) g0
  have hP : Pairs (G ++ [AObj.cells true 2 (flatP mapX)]) mapX (.slice (some ⟨G.length, 0, none⟩) 3 3) := Pairs.last (l := mapX) 3
  have hst := store_a1 (y := .slice (some ⟨G.length, 0, none⟩) 3 3) k0 rfl
  (repeat (first | refine yw ?_ | ((first | apply yd | apply ye); simp (disch := first|exact zz|fail) only [go_sem, fill_none, fill2i, hf, hm, fillA_slice, hst]; with_reducible rfl)))
  refine fin_l1 (u := .agg ⟨[.slice (some ⟨G.length, 0, none⟩) 3 3]⟩) (n1_at (get_set_self k0)) ⟨_, rfl, ?_, (xG.app _).set (Nat.le_refl _) _⟩
  have hl := (List.getElem?_eq_some_iff.1 g0).1
  exact Sl.of (e := 2) (o := true) (by rw [List.getElem?_set_ne (by omega)]; exact at_new) rfl
theorem ev0_c : ACall Go.Proofs.Try.prog 70 [] H fun w H' => ∃ s, w = evV (8, 12) s ∧ Tris H' evX s ∧ Ext H H' := by
  (refine a70 ?_; simp only [n70, List.replicate, yq, yr, yt, yu]; first | refine q1 ?_ | refine q2 ?_ | refine q6 ?_ | refine q7 ?_ | refine qh rfl ?_ | skip)
  have g0 : (H ++ [AObj.cells true 0 [.int .i64 0, .int .i64 0, .slice none 0 0]])[H.length]? = some (.cells true 0 [.int .i64 0, .int .i64 0, .slice none 0 0]) := at_new
  have xG : Ext H (H ++ [AObj.cells true 0 [.int .i64 0, .int .i64 0, .slice none 0 0]]) := (Ext.refl H).app _
  (refine yh ?_)
  generalize (H ++ [AObj.cells true 0 [.int .i64 0, .int .i64 0, .slice none 0 0]] : AHeap) = G at g0 xG
  have hf1 : ∀ a b c : Int, fillA [.int .i64 0, .int .i64 0, .int .i64 0] [(0, 1, .int .i64 a), (1, 2, .agg ⟨[.int .i64 b, .int .i64 c]⟩)] = some [.int .i64 a, .int .i64 b, .int .i64 c] := fun _ _ _ => rfl
  have hf : fillA [.int .i64 0, .int .i64 0, .int .i64 0, .int .i64 0, .int .i64 0, .int .i64 0, .int .i64 0, .int .i64 0, .int .i64 0] [(0, 3, .agg ⟨[.int .i64 0, .int .i64 0, .int .i64 0]⟩), (3, 3, .agg ⟨[.int .i64 10, .int .i64 90, .int .i64 130]⟩), (6, 3, .agg ⟨[.int .i64 20, .int .i64 150, .int .i64 210]⟩)] = some (flat3 evX) := rfl
  have hm : mkSliceL 3 3 (some (flat3 evX)) G = some (.slice (some ⟨G.length, 0, none⟩) 3 3, G ++ [.cells true 3 (flat3 evX)]) := mkSliceL_some rfl
  have hf2 : fillA [.int .i64 0, .int .i64 0, .slice none 0 0] [(0, 2, .agg ⟨[.int .i64 8, .int .i64 12]⟩), (2, 1, .slice (some ⟨G.length, 0, none⟩) 3 3)] = some (evC (8, 12) (.slice (some ⟨G.length, 0, none⟩) 3 3)) := rfl
  have k0 := at_app (N := [AObj.cells true 3 (flat3 evX)]) g0
  have hst := store_all (n := 3) (us := evC (8, 12) (.slice (some ⟨G.length, 0, none⟩) 3 3)) k0 rfl rfl rfl
  (repeat (first | refine yw ?_ | ((first | apply yd | apply ye); simp (disch := first|exact zz|fail) only [go_sem, fill_none, fill2i, hf1, hf, hm, hf2, hst]; with_reducible rfl)))
  refine fin_l1 (u := evV (8, 12) (.slice (some ⟨G.length, 0, none⟩) 3 3)) (load_ev (get_set_self k0)) ⟨_, rfl, ?_, (xG.app _).set (Nat.le_refl _) _⟩
  have hl := (List.getElem?_eq_some_iff.1 g0).1
  exact Sl.of (e := 3) (o := true) (by rw [List.getElem?_set_ne (by omega)]; exact at_new) rfl
set_option maxHeartbeats 4000000 in
theorem sawake_c : ACall Go.Proofs.Try.prog 33 [] H fun w H' => w = .bool true ∧ H' = H := by
  refine ACall.drop (.bool _) ?_
  (refine a33 ?_; simp only [n33, List.replicate, yq, yr, yt, yu]; first | refine q1 ?_ | refine q2 ?_ | refine q6 ?_ | refine q7 ?_ | refine qh rfl ?_ | skip)
  (refine yg ?_)
  refine aops_call (map0_c.mono fun w G1 ⟨s1, hw, hP, x1⟩ => ?_)
  subst hw
  (refine yg ?_)
  (refine aops_call_to (positionAt_c hP (by decide)) ?_)
  rw [posX]
  (repeat (first | refine yw ?_ | ((first | apply yd | apply ye); simp (disch := first|exact zz|fail) only [go_sem, store_newF]; with_reducible rfl)))
  have c1 : (G1 ++ [AObj.cells true 0 [.int .i64 666, .int .i64 667]])[G1.length]? = some (.cells true 0 [.int .i64 666, .int .i64 667]) := at_new
  have xH1 := x1.app [AObj.cells true 0 [.int .i64 666, .int .i64 667]]
  obtain ⟨i1, h1⟩ : ∃ i1, G1.length = i1 := ⟨_, rfl⟩
  rw [h1] at c1 ⊢
  generalize (G1 ++ [AObj.cells true 0 [.int .i64 666, .int .i64 667]] : AHeap) = G2 at c1 xH1
  refine aops_call (ev0_c.mono fun w G3 ⟨s3, hw, hE, x3⟩ => ?_)
  subst hw
  have c1 := x3.cell c1
  have xH3 := xH1.trans x3
  (refine yg ?_)
  (refine aops_call_to (encAt_c hE (by decide)) ?_)
  rw [encX]
  (repeat (first | refine yw ?_ | ((first | apply yd | apply ye); simp (disch := first|exact zz|fail) only [go_sem, store_newF]; with_reducible rfl)))
  have c3 : (G3 ++ [AObj.cells true 0 [.int .i64 90, .int .i64 120]])[G3.length]? = some (.cells true 0 [.int .i64 90, .int .i64 120]) := at_new
  have c1 := at_app (N := [AObj.cells true 0 [.int .i64 90, .int .i64 120]]) c1
  have xH4 := xH3.app [AObj.cells true 0 [.int .i64 90, .int .i64 120]]
  obtain ⟨i3, h3⟩ : ∃ i3, G3.length = i3 := ⟨_, rfl⟩
  rw [h3] at c3 ⊢
  generalize (G3 ++ [AObj.cells true 0 [.int .i64 90, .int .i64 120]] : AHeap) = G4 at c1 c3 xH4
  (repeat (first | refine yw ?_ | ((first | apply yd | apply ye); simp (disch := first|exact zz|fail) only [go_sem, n2_at c1, n2_at c3, fill2i, fbt]; with_reducible rfl)))
  exact fin_1 ⟨rfl, xH4⟩
end
end Go.Lq

namespace Go.Lq
open Go
open Go.Proofs

theorem wraps_ev {L : Int × Int} : Wraps fun s => evV L s := fun s n a b h => .agg rfl fun i u u' h1 h2 => by
  match i with
  | 0 => simp at h1 h2; subst h1; subst h2; exact .int _ _
  | 1 => simp at h1 h2; subst h1; subst h2; exact .int _ _
  | 2 => simp at h1 h2; subst h1; subst h2; exact h
  | i + 3 => simp at h1
theorem Tris.mark {H H' : AHeap} {M : List Mark} {v : Value} (h : Tris H M v) (hx : Ext H H') {i : Nat} (hi : i < M.length) : loadNR 3 (addrOf v (i * 3)) H' = some (markV (M.getD i (0, 0, 0)), H') := (h.load hx hi).1
section
variable {H : AHeap} {L : Int × Int} {M : List Mark} {v : Value}
theorem copyEv_c (hl : Tris H M v) (hb : M.length ≤ 1000000) : ACall Go.Proofs.Try.prog 20 [evV L v] H fun w H' =>
    w = evV L (.slice (some ⟨H.length, 0, none⟩) M.length M.length) ∧ H' = H ++ [.cells true 3 (flat3 M)] := by
  refine ACall.tidyE (f := fun s => evV L s) (n := M.length) (sz := 3) wraps_ev (closed_flat3 M) ?_
  (refine a20 ?_; simp only [n20, List.replicate, yq, yr, yt, yu]; first | refine q1 ?_ | refine q2 ?_ | refine q6 ?_ | refine q7 ?_ | refine qh rfl ?_ | skip)
  obtain ⟨G, hG⟩ : ∃ G, G = H ++ [AObj.cells true 0 (evC L v)] ++ [AObj.cells true 0 [.int .i64 0, .int .i64 0, .slice none 0 0]] := ⟨_, rfl⟩
  have g0 : G[H.length]? = some (.cells true 0 (evC L v)) := by rw [hG]; simp
  have g1 : G[H.length + 1]? = some (.cells true 0 [.int .i64 0, .int .i64 0, .slice none 0 0]) := by rw [hG]; simp
  have xG : Ext H G := by rw [hG]; exact ((Ext.refl H).app _).app _
  have lG : G.length = H.length + 2 := by rw [hG]; simp
  (repeat (first | refine yv ?_ | (apply yd; simp (disch := first|exact zz|fail) only [go_sem, box_ev hl.atom]; with_reducible rfl)))
  (simp only [List.length_append, List.length_cons, List.length_nil, Nat.zero_add, Nat.add_assoc, Nat.reduceAdd])
  rw [← hG]
  clear hG
  obtain ⟨s, H2, ha, hx2, id, rfl, hid, hc2⟩ := append_copy (bytes := 24) (hl.ext xG) (isAtom_flat3 M) (roomOk_of (by omega) (by omega))
  have h1 := hx2.cell g1
  have hms : mkSliceL 3 0 (some []) G = some (.slice (some ⟨G.length, 0, none⟩) 0 0, G ++ [.cells true 3 []]) := rfl
  have k0 := at_app (N := [AObj.cells true 3 []]) g0
  have hf : fillA [.int .i64 0, .int .i64 0, .slice none 0 0] [(0, 2, .agg ⟨[.int .i64 L.1, .int .i64 L.2]⟩), (2, 1, .slice (some ⟨id, 0, none⟩) M.length M.length)] = some (evC L (.slice (some ⟨id, 0, none⟩) M.length M.length)) := rfl
  have hst : storeR 3 (.pointer (some ⟨H.length + 1, 0, none⟩)) (.agg ⟨[.int .i64 L.1, .int .i64 L.2, .slice (some ⟨id, 0, none⟩) M.length M.length]⟩) H2 = some (undef, H2.set (H.length + 1) (.cells true 0 (evC L (.slice (some ⟨id, 0, none⟩) M.length M.length)))) := store_all (n := 3) (us := evC L (.slice (some ⟨id, 0, none⟩) M.length M.length)) h1 rfl rfl rfl
  (repeat (first | refine yw ?_ | ((first | apply yd | apply ye); simp (disch := first|exact zz|fail) only [go_sem, load_lim g0, hms, load_at k0, evC, ha, hf, hst]; with_reducible rfl)))
  refine fin_l1 (m := 3) (u := evV L (.slice (some ⟨id, 0, none⟩) M.length M.length)) (load_ev (L := L) (v := .slice (some ⟨id, 0, none⟩) M.length M.length) (get_set_self h1)) ?_
  refine ⟨_, id, rfl, (xG.trans hx2).set (by omega) _, rfl, by omega, ?_⟩
  rw [List.getElem?_set_ne (by omega)]; exact hc2
theorem rMarkErr_c (x : Mark) : ACall Go.Proofs.Try.prog 83 [markV x] H fun v H' => v = .int .i64 (markE x) ∧ H' = H := by
  refine ACall.drop (.int _ _) ?_
  (refine a83 ?_; simp only [n83, List.replicate, yq, yr, yt, yu]; first | refine q1 ?_ | refine q2 ?_ | refine q6 ?_ | refine q7 ?_ | refine qh rfl ?_ | skip)
  have g0 : (H ++ [AObj.cells true 0 (markC x)])[H.length]? = some (.cells true 0 (markC x)) := at_new
  have xG : Ext H (H ++ [AObj.cells true 0 (markC x)]) := (Ext.refl H).app _
  (repeat (first | refine yv ?_ | (apply yd; simp (disch := first|exact zz|fail) only [go_sem, box_mark]; with_reducible rfl)))
  generalize (H ++ [AObj.cells true 0 (markC x)] : AHeap) = G at g0 xG
  have bad : ¬ ((0 ≤ x.1 ∧ x.1 ≤ 1000000) ∧ (0 ≤ x.2.1 ∧ x.2.1 ≤ 1000000000000) ∧ (0 ≤ x.2.2 ∧ x.2.2 ≤ 1000000000000)) → markE x = 2 := fun h => by
    unfold markE; rw [if_neg h, firstErr_e (by decide)]
  (repeat (first | refine yw ?_ | ((first | apply yd | apply ye); simp (disch := first|exact zz|fail) only [go_sem, load_at g0, markC]; with_reducible rfl)))
  (refine aops_call_to (rIsPosition_c _) ?_)
  by_cases h1 : 0 ≤ x.1 ∧ x.1 ≤ 1000000
  rotate_left 1
  · rw [bad (fun h => h1 h.1)]
    (repeat (first | refine yw ?_ | ((first | apply yd | apply ye); simp (disch := first|exact zz|fail) only [go_sem, dec_f h1]; with_reducible rfl)))
    refine cond_t rfl ?_
    (refine yg ?_)
    exact fin_1 ⟨rfl, xG⟩
  (repeat (first | refine yw ?_ | ((first | apply yd | apply ye); simp (disch := first|exact zz|fail) only [go_sem, dec_t h1, load_at g0, markC]; with_reducible rfl)))
  (refine aops_call_to (rIsTick_c _) ?_)
  by_cases h2 : 0 ≤ x.2.1 ∧ x.2.1 ≤ 1000000000000
  rotate_left 1
  · rw [bad (fun h => h2 h.2.1)]
    (repeat (first | refine yw ?_ | ((first | apply yd | apply ye); simp (disch := first|exact zz|fail) only [go_sem, dec_f h2]; with_reducible rfl)))
    refine cond_t rfl ?_
    (refine yg ?_)
    exact fin_1 ⟨rfl, xG⟩
  (repeat (first | refine yw ?_ | ((first | apply yd | apply ye); simp (disch := first|exact zz|fail) only [go_sem, dec_t h2, load_at g0, markC]; with_reducible rfl)))
  (refine aops_call_to (rIsTick_c _) ?_)
  by_cases h3 : 0 ≤ x.2.2 ∧ x.2.2 ≤ 1000000000000
  rotate_left 1
  · rw [bad (fun h => h3 h.2.2)]
    (repeat (first | refine yw ?_ | ((first | apply yd | apply ye); simp (disch := first|exact zz|fail) only [go_sem, dec_f h3]; with_reducible rfl)))
    refine cond_t rfl ?_
    (refine yg ?_)
    exact fin_1 ⟨rfl, xG⟩
  have em : markE x = if x.2.1 ≤ x.2.2 then 0 else 9 := by
    unfold markE
    rw [if_pos ⟨h1, h2, h3⟩, firstErr_z]
    by_cases h : x.2.1 ≤ x.2.2
    · rw [if_pos h]; rfl
    · rw [if_neg h]; rfl
  rw [em]
  (repeat (first | refine yw ?_ | ((first | apply yd | apply ye); simp (disch := first|exact zz|fail) only [go_sem, dec_t h3]; with_reducible rfl)))
  refine cond_f rfl ?_
  by_cases h4 : x.2.1 ≤ x.2.2
  · (repeat (first | refine yw ?_ | ((first | apply yd | apply ye); simp (disch := first|exact zz|fail) only [go_sem, load_at g0, markC, dec_f (show ¬ x.2.2 < x.2.1 by omega)]; with_reducible rfl)))
    refine cond_f rfl ?_
    (refine yg ?_)
    exact fin_1 ⟨by rw [if_pos h4]; rfl, xG⟩
  · (repeat (first | refine yw ?_ | ((first | apply yd | apply ye); simp (disch := first|exact zz|fail) only [go_sem, load_at g0, markC, dec_t (show x.2.2 < x.2.1 by omega)]; with_reducible rfl)))
    refine cond_t rfl ?_
    (refine yg ?_)
    exact fin_1 ⟨by rw [if_neg h4]; rfl, xG⟩
theorem limE_cases (L : Int × Int) (n : Nat) : limE L n = if ¬ ((1 ≤ L.1 ∧ L.1 ≤ 100000) ∧ (1 ≤ L.2 ∧ L.2 ≤ 100000)) then 2 else if L.2 < L.1 then 9 else if (12 : Int) < (n : Int) then 8 else 0 := by
  unfold limE
  by_cases h1 : (1 ≤ L.1 ∧ L.1 ≤ 100000) ∧ (1 ≤ L.2 ∧ L.2 ≤ 100000)
  · rw [if_pos h1, if_neg (show ¬ ¬ ((1 ≤ L.1 ∧ L.1 ≤ 100000) ∧ (1 ≤ L.2 ∧ L.2 ≤ 100000)) from fun h => h h1), firstErr_z]
    by_cases h2 : L.1 ≤ L.2
    · rw [if_pos h2, if_neg (show ¬ L.2 < L.1 by omega), firstErr_z]
      by_cases h3 : (n : Int) ≤ 12
      · rw [if_pos h3, if_neg (show ¬ (12 : Int) < (n : Int) by omega)]; rfl
      · rw [if_neg h3, if_pos (show (12 : Int) < (n : Int) by omega)]; rfl
    · rw [if_neg h2, if_pos (show L.2 < L.1 by omega), firstErr_e (by decide)]
  · rw [if_neg h1, if_pos h1, firstErr_e (by decide)]
theorem markO_cases (M : List Mark) (i : Nat) (h0 : ∀ j, j < M.length → 0 ≤ (M.getD j (0, 0, 0)).1 ∨ markE (M.getD j (0, 0, 0)) ≠ 0) (hi : i < M.length) : markO (lastAt M i) (M.getD i (0, 0, 0)) = if markE (M.getD i (0, 0, 0)) ≠ 0 then markE (M.getD i (0, 0, 0)) else if 0 < i ∧ (M.getD i (0, 0, 0)).1 ≤ lastAt M i then 9 else 0 := by
  unfold markO
  by_cases h1 : markE (M.getD i (0, 0, 0)) = 0
  · have hp := (h0 i hi).resolve_right (fun h => h h1)
    rw [h1, firstErr_z, if_neg (show ¬ (0 : Int) ≠ 0 from fun h => h rfl)]
    by_cases h2 : lastAt M i < (M.getD i (0, 0, 0)).1
    · rw [if_pos h2, if_neg (show ¬ (0 < i ∧ (M.getD i (0, 0, 0)).1 ≤ lastAt M i) by omega)]; rfl
    · rw [if_neg h2, if_pos (show 0 < i ∧ (M.getD i (0, 0, 0)).1 ≤ lastAt M i from ?_)]
      · rfl
      · refine ⟨?_, by omega⟩
        rcases Nat.eq_zero_or_pos i with rfl | h
        · have e : lastAt M 0 = -1 := rfl
          omega
        · exact h
  · rw [if_pos h1, firstErr_e h1]
theorem markE_pos (x : Mark) : 0 ≤ x.1 ∨ markE x ≠ 0 := by
  by_cases h : (0 ≤ x.1 ∧ x.1 ≤ 1000000) ∧ (0 ≤ x.2.1 ∧ x.2.1 ≤ 1000000000000) ∧ (0 ≤ x.2.2 ∧ x.2.2 ≤ 1000000000000)
  · exact .inl h.1.1
  · right
    unfold markE; rw [if_neg h, firstErr_e (by decide)]; decide
set_option maxHeartbeats 4000000 in
theorem rCheckEv_c (hl : Tris H M v) (hb : M.length ≤ 1000000000) : ACall Go.Proofs.Try.prog 22 [evV L v] H fun w H' => w = .tuple #[.int .i64 (ckEv L M).1, .int .i64 (ckEv L M).2] ∧ H' = H := by
  refine ACall.drop (closed_two _ _) ?_
  (refine a22 ?_; simp only [n22, List.replicate, yq, yr, yt, yu]; first | refine q1 ?_ | refine q2 ?_ | refine q6 ?_ | refine q7 ?_ | refine qh rfl ?_ | skip)
  have g0 : (H ++ [AObj.cells true 0 (evC L v)])[H.length]? = some (.cells true 0 (evC L v)) := at_new
  have xG : Ext H (H ++ [AObj.cells true 0 (evC L v)]) := (Ext.refl H).app _
  (repeat (first | refine yv ?_ | (apply yd; simp (disch := first|exact zz|fail) only [go_sem, box_ev hl.atom]; with_reducible rfl)))
  generalize (H ++ [AObj.cells true 0 (evC L v)] : AHeap) = G at g0 xG
  have hl1 := hl.ext xG
  have hlim := limE_cases L M.length
  have bad : ∀ e : Int, e ≠ 0 → limE L M.length = e → ckEv L M = (0, e) := fun e h0 h => by unfold ckEv; rw [h, if_pos h0]
  (repeat (first | refine yw ?_ | ((first | apply yd | apply ye); simp (disch := first|exact zz|fail) only [go_sem, load_at g0, evC]; with_reducible rfl)))
  (refine aops_call_to (bwithin_c _ _ _) ?_)
  by_cases h1 : 1 ≤ L.1 ∧ L.1 ≤ 100000
  rotate_left 1
  · rw [bad 2 (by decide) (by rw [hlim, if_pos (fun h => h1 h.1)])]
    (repeat (first | refine yw ?_ | ((first | apply yd | apply ye); simp (disch := first|exact zz|fail) only [go_sem, dec_f h1]; with_reducible rfl)))
    refine cond_t rfl ?_
    (refine yg ?_)
    exact fin_2 ⟨rfl, xG⟩
  (repeat (first | refine yw ?_ | ((first | apply yd | apply ye); simp (disch := first|exact zz|fail) only [go_sem, dec_t h1, load_at g0, evC]; with_reducible rfl)))
  (refine aops_call_to (bwithin_c _ _ _) ?_)
  by_cases h2 : 1 ≤ L.2 ∧ L.2 ≤ 100000
  rotate_left 1
  · rw [bad 2 (by decide) (by rw [hlim, if_pos (fun h => h2 h.2)])]
    (repeat (first | refine yw ?_ | ((first | apply yd | apply ye); simp (disch := first|exact zz|fail) only [go_sem, dec_f h2]; with_reducible rfl)))
    refine cond_t rfl ?_
    (refine yg ?_)
    exact fin_2 ⟨rfl, xG⟩
  rw [if_neg (fun h => h ⟨h1, h2⟩)] at hlim
  (repeat (first | refine yw ?_ | ((first | apply yd | apply ye); simp (disch := first|exact zz|fail) only [go_sem, dec_t h2]; with_reducible rfl)))
  refine cond_f rfl ?_
  (repeat (first | refine yw ?_ | ((first | apply yd | apply ye); simp (disch := first|exact zz|fail) only [go_sem, load_at g0, evC]; with_reducible rfl)))
  refine cond_p (p := L.2 < L.1) rfl (fun h3 => ?_) (fun h3 => ?_)
  · rw [bad 9 (by decide) (by rw [hlim, if_pos h3])]
    (refine yg ?_)
    exact fin_2 ⟨rfl, xG⟩
  rw [if_neg h3] at hlim
  (repeat (first | refine yw ?_ | ((first | apply yd | apply ye); simp (disch := first|exact zz|fail) only [go_sem, hl1.len, hl1.idx, hl1.load, load_at g0, evC]; with_reducible rfl)))
  refine cond_p (p := (12 : Int) < (M.length : Int)) rfl (fun h4 => ?_) (fun h4 => ?_)
  · rw [bad 8 (by decide) (by rw [hlim, if_pos h4])]
    (refine yg ?_)
    exact fin_2 ⟨rfl, xG⟩
  rw [if_neg h4] at hlim
  have ec : ckEv L M = ckMarks (-1) 0 M := by unfold ckEv; rw [hlim, if_neg (by decide)]
  rw [ec]
  (refine yg ?_)
  refine awp_loop_n [false, true, false, false, true, false, false, false, false, false, false, false, false, false, false, false, false, false, false, false, false, false, false, false, false, false, false, false, false, false, false, false, false, false, false, false, false, false, false, false, false, false, false, false, false, false, false, false, false, false, false, false, false, false, false, false, false, false, false, false, false, false, false, false, false] M.length (fun i e H' => e = [junk, .pointer (some ⟨H.length, 0, none⟩), junk, junk, .int .i64 i, junk, junk, junk, junk, junk, junk, junk, junk, junk, junk, junk, junk, junk, junk, junk, junk, junk, junk, junk, junk, junk, junk, junk, junk, junk, junk, junk, junk, junk, junk, junk, junk, junk, junk, junk, junk, junk, junk, junk, junk, junk, junk, junk, junk, junk, junk, junk, junk, junk, junk, junk, junk, junk, junk, junk, junk, junk, junk, junk, junk] ∧ Ext G H' ∧ ckMarks (-1) 0 M = ckMarks (lastAt M i) i (M.drop i)) ?_ ?_
  · exact ⟨by simp [forget], Ext.refl _, rfl⟩
  rintro i e H' hi ⟨rfl, x3, hj⟩
  have hll := hl1.ext x3
  have k0 := x3.cell g0
  (repeat (first | refine yw ?_ | ((first | apply yd | apply ye); simp (disch := first|exact zz|fail) only [go_sem, hll.len, hll.idx, hll.load, load_at k0, evC]; with_reducible rfl)))
  refine cond_p rfl (fun hlt => ?_) (fun hge => ?_)
  rotate_left 1
  · obtain rfl : i = M.length := by omega
    rw [ckMarks_end (i := M.length)] at hj
    (refine yg ?_)
    exact fin_2 ⟨by rw [hj]; rfl, xG.trans x3⟩
  have hi' : i < M.length := by omega
  rw [ckMarks_at hi', markO_cases M i (fun j _ => markE_pos _) hi'] at hj
  have hmk := hll.mark (Ext.refl H') hi'
  have hld := (hll.load (Ext.refl H') hi').2.2.2.2.2.2.2.1
  have hfd := (hll.load (Ext.refl H') hi').2.2.1
  have hix := hll.idx (H' := H') (i := (i : Int)) (k := .i64) (by omega) (by omega)
  rw [Int.toNat_natCast] at hix
  obtain ⟨x, hx⟩ : ∃ x, M.getD i (0, 0, 0) = x := ⟨_, rfl⟩
  rw [hx] at hj hmk hld
  (repeat (first | refine yw ?_ | ((first | apply yd | apply ye); simp (disch := first|exact zz|fail) only [go_sem, load_at k0, evC, hix, hmk]; with_reducible rfl)))
  (refine aops_call_to (rMarkErr_c x) ?_)
  (refine yg ?_)
  refine cond_p rfl (fun hne => ?_) (fun heq => ?_)
  · rw [if_pos hne, if_pos hne] at hj
    (refine yg ?_)
    exact fin_2 ⟨by rw [hj]; rfl, xG.trans x3⟩
  rw [if_neg heq] at hj
  rcases Nat.eq_zero_or_pos i with hi0 | hi0
  · rw [if_neg (show ¬ (0 < i ∧ x.1 ≤ lastAt M i) by omega), if_neg (show ¬ (0 : Int) ≠ 0 from fun h => h rfl)] at hj
    (repeat (first | refine yw ?_ | ((first | apply yd | apply ye); simp (disch := first|exact zz|fail) only [go_sem, dec_f (show ¬ (0 : Int) < (i : Int) by omega)]; with_reducible rfl)))
    refine cond_f rfl ?_
    (refine yg ?_)
    exact ⟨by omega, by simp [forget], x3, hj⟩
  · obtain ⟨p, rfl⟩ : ∃ p, i = p + 1 := ⟨i - 1, by omega⟩
    have ep : (((p + 1 : Nat) : Int)) - 1 = (p : Int) := by omega
    have hld2 := (hll.load (Ext.refl H') (i := p) (by omega)).2.2.2.2.2.2.2.1
    have hfd2 := (hll.load (Ext.refl H') (i := p) (by omega)).2.2.1
    have hix2 := hll.idx (H' := H') (i := (p : Int)) (k := .i64) (by omega) (by omega)
    rw [Int.toNat_natCast] at hix2
    have els : lastAt M (p + 1) = (M.getD p (0, 0, 0)).1 := lastAt_succ
    rw [els] at hj
    have e2 : ((p + 1 : Nat) : Int) + 1 = ((p + 1 + 1 : Nat) : Int) := by omega
    by_cases h9 : x.1 ≤ (M.getD p (0, 0, 0)).1
    · rw [if_pos (show 0 < p + 1 ∧ x.1 ≤ (M.getD p (0, 0, 0)).1 from ⟨hi0, h9⟩), if_pos (show (9 : Int) ≠ 0 by decide)] at hj
      (repeat (first | refine yw ?_ | ((first | apply yd | apply ye); simp (disch := first|exact zz|fail) only [go_sem, dec_t (show (0 : Int) < ((p + 1 : Nat) : Int) by omega), load_at k0, evC, hix, hfd, hld, ep, hix2, hfd2, hld2, dec_t h9]; with_reducible rfl)))
      refine cond_t rfl ?_
      (refine yg ?_)
      exact fin_2 ⟨by rw [hj]; rfl, xG.trans x3⟩
    · rw [if_neg (show ¬ (0 < p + 1 ∧ x.1 ≤ (M.getD p (0, 0, 0)).1) from fun h => h9 h.2), if_neg (show ¬ (0 : Int) ≠ 0 from fun h => h rfl)] at hj
      (repeat (first | refine yw ?_ | ((first | apply yd | apply ye); simp (disch := first|exact zz|fail) only [go_sem, dec_t (show (0 : Int) < ((p + 1 : Nat) : Int) by omega), load_at k0, evC, hix, hfd, hld, ep, hix2, hfd2, hld2, dec_f h9]; with_reducible rfl)))
      refine cond_f rfl ?_
      (repeat (first | refine yw ?_ | ((first | apply yd | apply ye); simp (disch := first|exact zz|fail) only [go_sem, e2]; with_reducible rfl)))
      exact ⟨by omega, by simp [forget], x3, hj⟩
theorem rEvErr_c (hl : Tris H M v) (hb : M.length ≤ 1000000000) : ACall Go.Proofs.Try.prog 38 [evV L v] H fun w H' => w = .int .i64 (evErrL L M) ∧ H' = H := by
  refine ACall.drop (.int _ _) ?_
  (refine a38 ?_; simp only [n38, List.replicate, yq, yr, yt, yu]; first | refine q1 ?_ | refine q2 ?_ | refine q6 ?_ | refine q7 ?_ | refine qh rfl ?_ | skip)
  have g0 : (H ++ [AObj.cells true 0 (evC L v)])[H.length]? = some (.cells true 0 (evC L v)) := at_new
  have xG : Ext H (H ++ [AObj.cells true 0 (evC L v)]) := (Ext.refl H).app _
  (repeat (first | refine yv ?_ | (apply yd; simp (disch := first|exact zz|fail) only [go_sem, box_ev hl.atom]; with_reducible rfl)))
  generalize (H ++ [AObj.cells true 0 (evC L v)] : AHeap) = G at g0 xG
  (repeat (first | refine yw ?_ | ((first | apply yd | apply ye); simp (disch := first|exact zz|fail) only [go_sem, load_ev g0]; with_reducible rfl)))
  (refine aops_call_to (rCheckEv_c (hl.ext xG) hb) ?_)
  (refine yg ?_)
  exact fin_1 ⟨rfl, xG⟩
end
end Go.Lq


namespace Go.Lq
open Go
open Go.Proofs

theorem enc_z {L : Int × Int} {M : List Mark} {q : Int} (h : evErrL L M = 0) (hq : 0 ≤ q ∧ q ≤ 1000000) (h0 : 0 < M.length) : encAtL L M q = if clashL L M = none then (encTo L M q M.length, 0) else ((0, 0), 13) := by
  unfold encAtL; rw [h, firstErr_z, if_pos hq, firstErr_z, if_pos h0, firstErr_z, firstErr_nil, if_neg (by decide)]

end Go.Lq

namespace Go.Lq
open Go
open Go.Proofs

def timeAtL (l : List (Int × Int)) (n : Int) : (Int × Int) × Int :=
  if mapErrL l ≠ 0 then ((0, 0), mapErrL l) else if (l.getD 0 (0, 0)).1 ≤ n ∧ n ≤ (l.getD (l.length - 1) (0, 0)).1 then ((mapTimLo l n, mapTimHi l n), 0) else ((0, 0), 2)
theorem MapOk.outP {l : List (Int × Int)} (h : MapOk l) {n : Int} (hn : ¬ ((l.getD 0 (0, 0)).1 ≤ n ∧ n ≤ (l.getD (l.length - 1) (0, 0)).1)) : findP (inPos n) l 0 (l.length - 1) = none := by
  cases hf : findP (inPos n) l 0 (l.length - 1) with
  | none => rfl
  | some i =>
    obtain ⟨_, h2, h3, _⟩ := findP_some hf
    have h4 : (l.getD i (0, 0)).1 ≤ n ∧ n ≤ (l.getD (i + 1) (0, 0)).1 := of_decide_eq_true h3
    have a := h.posLe (i := 0) (j := i) (by omega) (by omega)
    have b := h.posLe (i := i + 1) (j := l.length - 1) (by omega) (by omega)
    exact absurd ⟨by omega, by omega⟩ hn
theorem timeAt_e {l : List (Int × Int)} {t : Int} (h : mapErrL l ≠ 0) : timeAtL l t = ((0, 0), mapErrL l) := by unfold timeAtL; rw [if_pos h]
theorem timeAt_out {l : List (Int × Int)} {n : Int} (h : MapOk l) (hn : ¬ ((l.getD 0 (0, 0)).1 ≤ n ∧ n ≤ (l.getD (l.length - 1) (0, 0)).1)) : timeAtL l n = ((0, 0), 2) := by
  unfold timeAtL; rw [if_neg (by rw [h.err]; decide), if_neg hn]
theorem timeAt_in {l : List (Int × Int)} {n : Int} (h : MapOk l) (h0 : (l.getD 0 (0, 0)).1 ≤ n) (h1 : n ≤ (l.getD (l.length - 1) (0, 0)).1) : timeAtL l n = ((mapTimLo l n, mapTimHi l n), 0) := by
  unfold timeAtL; rw [if_neg (by rw [h.err]; decide), if_pos ⟨h0, h1⟩]
section
variable {H : AHeap}
set_option maxHeartbeats 4000000 in
theorem sTimeAtF_c {l : List (Int × Int)} {v : Value} {n : Int} (hl : Pairs H l v) (hb : l.length ≤ 1000000000) : ACall Go.Proofs.Try.prog 36 [.agg ⟨[v]⟩, .int .i64 n] H fun w H' =>
    w = .tuple #[fracV (timeAtL l n).1, .int .i64 (timeAtL l n).2] ∧ H' = H := by
  by_cases hok0 : mapErrL l = 0 ∧ ((l.getD 0 (0, 0)).1 ≤ n ∧ n ≤ (l.getD (l.length - 1) (0, 0)).1)
  · have hok := mapErr_ok hok0.1
    rw [timeAt_in hok hok0.2.1 hok0.2.2]
    exact sTimeAt_c hl hok hok0.2.1 hok0.2.2
  refine ACall.drop (closed_frac1 _ _) ?_
  (refine a36 ?_; simp only [n36, List.replicate, yq, yr, yt, yu]; first | refine q1 ?_ | refine q2 ?_ | refine q6 ?_ | refine q7 ?_ | refine qh rfl ?_ | skip)
  obtain ⟨G, hG⟩ : ∃ G, G = H ++ [AObj.cells true 0 [v]] ++ [AObj.cells true 0 [.int .i64 0, .int .i64 0]] := ⟨_, rfl⟩
  have g0 : G[H.length]? = some (.cells true 0 [v]) := by rw [hG]; simp
  have g2 : G[H.length + 1]? = some (.cells true 0 [.int .i64 0, .int .i64 0]) := by rw [hG]; simp
  have xG : Ext H G := by rw [hG]; exact ((Ext.refl H).app _).app _
  have hf1 : fillA [.slice none 0 0] [(0, 1, .agg ⟨[v]⟩)] = some [v] := fill1v hl.atom
  have hms : ∀ J : AHeap, mkSliceL 1 1 (some [v]) J = some (.slice (some ⟨J.length, 0, none⟩) 1 1, J ++ [.cells true 1 [v]]) := fun J => mkSliceL_some (by simp [hl.atom])
  (repeat (first | refine yv ?_ | (apply yd; simp (disch := first|exact zz|fail) only [go_sem, hl.box1]; with_reducible rfl)))
  (simp only [List.length_append, List.length_cons, List.length_nil, Nat.zero_add, Nat.add_assoc, Nat.reduceAdd])
  rw [← hG]
  clear hG
  (repeat (first | refine yw ?_ | ((first | apply yd | apply ye); simp (disch := first|exact zz|fail) only [go_sem, n1_at g0, hf1, hms]; with_reducible rfl)))
  have hS : Sl (G ++ [AObj.cells true 1 [v]]) 1 1 [v] (.slice (some ⟨G.length, 0, none⟩) 1 1) := Sl.last rfl 1
  have x2 : Ext G (G ++ [AObj.cells true 1 [v]]) := (Ext.refl G).app _
  generalize (G ++ [AObj.cells true 1 [v]] : AHeap) = G2 at hS x2
  have xH2 := xG.trans x2
  have k0 := x2.cell g0
  have k2 := x2.cell g2
  (refine aops_call_to (spMapErr_c hS (hl.ext xH2) hb) ?_)
  (refine yg ?_)
  refine cond_p rfl (fun hne => ?_) (fun heq => ?_)
  · rw [timeAt_e hne]
    (repeat (first | refine yw ?_ | ((first | apply yd | apply ye); simp (disch := first|exact zz|fail) only [go_sem, fill_none, store_b2 k2]; with_reducible rfl)))
    refine fin_l2f rfl (get_set_self k2) ⟨rfl, xH2.set (by omega) _⟩
  have hz := Decidable.not_not.1 heq
  have hok := mapErr_ok hz
  have h20 := hok.hi
  have h02 := hok.lo
  have hn : ¬ ((l.getD 0 (0, 0)).1 ≤ n ∧ n ≤ (l.getD (l.length - 1) (0, 0)).1) := fun h => hok0 ⟨hz, h⟩
  rw [timeAt_out hok hn]
  (repeat (first | refine yw ?_ | ((first | apply yd | apply ye); simp (disch := first|exact zz|fail) only [go_sem, n1_at k0]; with_reducible rfl)))
  refine aops_call_to (pieceAt_c (hl.ext xH2) (by omega) (by omega)) ?_
  rw [hok.outP hn]
  have hst : storeR 4 (.pointer (some ⟨G2.length, 0, none⟩)) (pieceV zeroP) (G2 ++ [.cells true 0 [.int .i64 0, .int .i64 0, .int .i64 0, .int .i64 0]]) = some (undef, G2 ++ [.cells true 0 (pieceC zeroP)]) := store_new4 rfl
  (repeat (first | refine yw ?_ | ((first | apply yd | apply ye); simp (disch := first|exact zz|fail) only [go_sem, findR, hst]; with_reducible rfl)))
  refine cond_t rfl ?_
  have k3 := at_app (N := [AObj.cells true 0 (pieceC zeroP)]) k2
  (repeat (first | refine yw ?_ | ((first | apply yd | apply ye); simp (disch := first|exact zz|fail) only [go_sem, fill_none, store_b2 k3]; with_reducible rfl)))
  refine fin_l2f rfl (get_set_self k3) ⟨rfl, (xH2.app _).set (by omega) _⟩
end
end Go.Lq

namespace Go.Lq
open Go
open Go.Proofs

def anyErr (L : Int × Int) (M : List Mark) : Int := if fewE L M ≠ 0 then fewE L M else if clashL L M = none then 0 else 13
def anyRes (L : Int × Int) (M : List Mark) : List (Int × Int) := if anyErr L M = 0 then anyL L M else []
section
variable {H : AHeap} {L : Int × Int} {M : List Mark} {v : Value}
set_option maxHeartbeats 8000000 in
theorem anyMap_c (hl : Tris H M v) (hb : M.length ≤ 1000000000) : ACall Go.Proofs.Try.prog 42 [evV L v] H fun w H' => Ext H H' ∧ ∃ s, w = .tuple #[.agg ⟨[s]⟩, .int .i64 (anyErr L M)] ∧ Pairs H' (anyRes L M) s := by
  (refine a42 ?_; simp only [n42, List.replicate, yq, yr, yt, yu]; first | refine q1 ?_ | refine q2 ?_ | refine q6 ?_ | refine q7 ?_ | refine qh rfl ?_ | skip)
  obtain ⟨G, hG⟩ : ∃ G, G = H ++ [AObj.cells true 0 (evC L v)] ++ [AObj.cells true 0 [.slice none 0 0]] := ⟨_, rfl⟩
  have g0 : G[H.length]? = some (.cells true 0 (evC L v)) := by rw [hG]; simp
  have g1 : G[H.length + 1]? = some (.cells true 0 [.slice none 0 0]) := by rw [hG]; simp
  have xG : Ext H G := by rw [hG]; exact ((Ext.refl H).app _).app _
  have lG : G.length = H.length + 2 := by rw [hG]; simp
  (repeat (first | refine yv ?_ | (apply yd; simp (disch := first|exact zz|fail) only [go_sem, box_ev hl.atom]; with_reducible rfl)))
  (simp only [List.length_append, List.length_cons, List.length_nil, Nat.zero_add, Nat.add_assoc, Nat.reduceAdd])
  rw [← hG]
  clear hG
  (repeat (first | refine yw ?_ | ((first | apply yd | apply ye); simp (disch := first|exact zz|fail) only [go_sem, load_ev g0]; with_reducible rfl)))
  refine aops_call ((open_c (hl.ext xG) hb).mono fun w G2 ⟨hw, x2⟩ => ?_)
  subst hw
  have l2 := x2.len
  have hst : storeR 3 (.pointer (some ⟨G2.length, 0, none⟩)) (evV L v) (G2 ++ [.cells true 0 [.int .i64 0, .int .i64 0, .slice none 0 0]]) = some (undef, G2 ++ [.cells true 0 (evC L v)]) := store_newN (by simp [hl.atom, isAtom_int]) rfl rfl
  (repeat (first | refine yw ?_ | ((first | apply yd | apply ye); simp (disch := first|exact zz|fail) only [go_sem, hst]; with_reducible rfl)))
  have k4 : (G2 ++ [AObj.cells true 0 (evC L v)])[G2.length]? = some (.cells true 0 (evC L v)) := at_new
  have x3 := x2.app [AObj.cells true 0 (evC L v)]
  obtain ⟨a4, ha4⟩ : ∃ a4, G2.length = a4 := ⟨_, rfl⟩
  have l3 : (G2 ++ [AObj.cells true 0 (evC L v)]).length = a4 + 1 := by simp [ha4]
  rw [ha4] at k4 l2 ⊢
  generalize (G2 ++ [AObj.cells true 0 (evC L v)] : AHeap) = G3 at k4 x3 l3
  have xH3 := xG.trans x3
  have hl3 := hl.ext xH3
  have k0 := x3.cell g0
  have k1 := x3.cell g1
  clear hst
  (repeat (first | refine yw ?_ | ((first | apply yd | apply ye); simp (disch := first|exact zz|fail) only [go_sem, hl3.len, hl3.idx, hl3.load, load_at k0, evC]; with_reducible rfl)))
  (refine aops_call_to (sunless_c _ _) ?_)
  (refine yg ?_)
  (refine aops_call_to (sfirst_c (l := [_, _]) (Ints.last (l := [_, _]) 2) (by simp)) ?_)
  have e1 : firstErr [evErrL L M, (if decide ((2 : Int) ≤ (M.length : Int)) = true then 0 else 10)] = fewE L M := by
    unfold fewE
    have e0 : ((2 : Int) ≤ (M.length : Int)) = (2 ≤ M.length) := by simp; omega
    simp only [decide_eq_true_eq, e0]
  rw [e1]
  have x4 := x3.app [AObj.cells true 1 [.int .i64 (evErrL L M), .int .i64 (if decide ((2 : Int) ≤ (M.length : Int)) = true then 0 else 10)]]
  have k4 := at_app (N := [AObj.cells true 1 [.int .i64 (evErrL L M), .int .i64 (if decide ((2 : Int) ≤ (M.length : Int)) = true then 0 else 10)]]) k4
  generalize (G3 ++ [AObj.cells true 1 [.int .i64 (evErrL L M), .int .i64 (if decide ((2 : Int) ≤ (M.length : Int)) = true then 0 else 10)]] : AHeap) = G4 at x4 k4
  have xH4 := xG.trans x4
  have hl4 := hl.ext xH4
  have k0 := x4.cell g0
  have k1 := x4.cell g1
  by_cases hfe : fewE L M = 0
  rotate_left 1
  · have ee : anyErr L M = fewE L M := by unfold anyErr; rw [if_pos hfe]
    have er : anyRes L M = [] := by unfold anyRes; rw [ee, if_neg hfe]
    rw [ee, er]
    (repeat (first | refine yw ?_ | ((first | apply yd | apply ye); simp (disch := first|exact zz|fail) only [go_sem, dec_t (show fewE L M ≠ 0 from hfe)]; with_reducible rfl)))
    refine cond_t rfl ?_
    (repeat (first | refine yw ?_ | ((first | apply yd | apply ye); simp (disch := first|exact zz|fail) only [go_sem, fill_none, store_a1 (y := .slice none 0 0) k1 rfl]; with_reducible rfl)))
    exact fin_l2a rfl (get_set_self k1) ⟨xH4.set (by omega) _, _, rfl, pairs_nil _⟩
  obtain ⟨hk, h2⟩ := fewE_ok hfe
  have hlen := hk.len
  (repeat (first | refine yw ?_ | ((first | apply yd | apply ye); simp (disch := first|exact zz|fail) only [go_sem, dec_f (show ¬ fewE L M ≠ 0 from fun h => h hfe)]; with_reducible rfl)))
  refine cond_f rfl ?_
  (repeat (first | refine yw ?_ | ((first | apply yd | apply ye); simp (disch := first|exact zz|fail) only [go_sem, load_ev k4]; with_reducible rfl)))
  (refine aops_call_to (isPossible_c hl4 hk) ?_)
  by_cases hcl : clashL L M = none
  rotate_left 1
  · have ee : anyErr L M = 13 := by unfold anyErr; rw [if_neg (fun h => h hfe), if_neg hcl]
    have er : anyRes L M = [] := by unfold anyRes; rw [ee, if_neg (by decide)]
    rw [ee, er]
    (repeat (first | refine yw ?_ | ((first | apply yd | apply ye); simp (disch := first|exact zz|fail) only [go_sem, dec_f hcl]; with_reducible rfl)))
    refine cond_t rfl ?_
    (repeat (first | refine yw ?_ | ((first | apply yd | apply ye); simp (disch := first|exact zz|fail) only [go_sem, fill_none, store_a1 (y := .slice none 0 0) k1 rfl]; with_reducible rfl)))
    exact fin_l2a rfl (get_set_self k1) ⟨xH4.set (by omega) _, _, rfl, pairs_nil _⟩
  have ee : anyErr L M = 0 := by unfold anyErr; rw [if_neg (fun h => h hfe), if_pos hcl]
  have er : anyRes L M = anyL L M := by unfold anyRes; rw [ee, if_pos rfl]
  rw [ee, er]
  have l4 := (List.getElem?_eq_some_iff.1 k4).1
  obtain ⟨a6, ha6⟩ : ∃ a6, G4.length = a6 := ⟨_, rfl⟩
  (repeat (first | refine yw ?_ | ((first | apply yd | apply ye); simp (disch := first|exact zz|fail) only [go_sem, dec_t hcl]; with_reducible rfl)))
  refine cond_f rfl ?_
  obtain ⟨B, hB⟩ : ∃ B, B = G4 ++ [AObj.cells true 0 [.slice none 0 0]] := ⟨_, rfl⟩
  have c6 : B[a6]? = some (.cells true 0 [.slice none 0 0]) := by rw [hB, ← ha6]; exact at_new
  have xB : Ext G4 B := ⟨_, hB⟩
  have lB : B.length = a6 + 1 := by rw [hB]; simp [ha6]
  have hlB := hl4.ext xB
  (repeat (first | refine yv ?_ | (apply yd; simp (disch := first|exact zz|fail) only [go_sem, hl4.len, hl4.idx, hl4.load, load_at (at_app k0), evC]; with_reducible rfl)))
  try (simp only [List.length_append, List.length_cons, List.length_nil, Nat.zero_add, Nat.add_assoc, Nat.reduceAdd])
  try simp only [ha6]
  rw [← hB]
  clear hB
  refine awp_loop_n [false, true, true, false, true, false, true, false, false, false, false, false, false, false, false, false, false, false, false, false, false, false, false, false, false, false, false, false, false, false, false, true, true, true, false, false, false, false, false, false, false, false, false, false, false, false, false, false, false, false, false, false] M.length (fun i e J => ∃ sv, e = [junk, .pointer (some ⟨H.length, 0, none⟩), .pointer (some ⟨H.length + 1, 0, none⟩), junk, .pointer (some ⟨a4, 0, none⟩), junk, .pointer (some ⟨a6, 0, none⟩), junk, junk, junk, junk, junk, junk, junk, junk, junk, junk, junk, junk, junk, junk, junk, junk, junk, junk, junk, junk, junk, junk, junk, junk, v, .int .i64 (M.length : Nat), .int .i64 i, junk, junk, junk, junk, junk, junk, junk, junk, junk, junk, junk, junk, junk, junk, junk, junk, junk, junk] ∧
    Ext G4 J ∧ J[a6]? = some (.cells true 0 [sv]) ∧ OwnP B J ((anyL L M).take i) sv) ?_ ?_
  · exact ⟨_, by simp [forget], xB, c6, OwnP.nil _ _⟩
  rintro i e J hi ⟨sv, rfl, x5, c6, hown⟩
  have hsv : isAtom sv = true := hown.pairs.atom
  have xHJ := xH4.trans x5
  have hlJ := hl4.ext x5
  have k4 := x5.cell k4
  have k1 := x5.cell k1
  have l6 := (List.getElem?_eq_some_iff.1 c6).1
  (refine yg ?_)
  refine cond_p rfl (fun hlt => ?_) (fun hge => ?_)
  rotate_left 1
  · obtain rfl : i = M.length := by omega
    rw [List.take_of_length_le (by rw [anyL_len]; omega)] at hown
    (repeat (first | refine yw ?_ | ((first | apply yd | apply ye); simp (disch := first|exact zz|fail) only [go_sem, n1_at c6, store_a1 (y := sv) k1 hsv]; with_reducible rfl)))
    exact fin_l2a rfl (get_set_self k1) ⟨xHJ.set (by omega) _, sv, rfl, (hown.set_ne (hown.aside (by omega)) _).pairs⟩
  have hi' : i < M.length := by omega
  have ht := take_succ_getD (l := anyL L M) (i := i) (d := (0, 0)) (by rw [anyL_len]; omega)
  rw [anyL_at hi'] at ht
  have hq := hk.pos i hi'
  have htl : ((anyL L M).take i).length = i := by rw [List.length_take, anyL_len]; omega
  (repeat (first | refine yv ?_ | (apply yd; simp (disch := first|exact zz|fail) only [go_sem, hlJ.len, hlJ.idx, hlJ.load, store_new3]; with_reducible rfl)))
  obtain ⟨x, hx⟩ : ∃ x, M.getD i (0, 0, 0) = x := ⟨_, rfl⟩
  rw [hx] at ht hq ⊢
  rw [new_mark x]
  obtain ⟨J1, hJ1⟩ : ∃ J1, J1 = J ++ [AObj.cells true 0 (markC x)] := ⟨_, rfl⟩
  have c8 : J1[J.length]? = some (.cells true 0 (markC x)) := by rw [hJ1]; exact at_new
  have x8 : Ext J J1 := ⟨_, hJ1⟩
  have hown1 : OwnP B J1 ((anyL L M).take i) sv := by rw [hJ1]; exact hown.app _
  have c6 := x8.cell c6
  have k4 := x8.cell k4
  have hl1 := hlJ.ext x8
  rw [← hJ1]
  clear hJ1
  (repeat (first | refine yw ?_ | ((first | apply yd | apply ye); simp (disch := first|exact zz|fail) only [go_sem, load_at c6, load_at c8, markC, load_ev k4]; with_reducible rfl)))
  (refine adraw_call (N := []) (firstD (enclosure_c hl1 hk (by omega) hq)) ?_; rw [List.append_nil])
  have hpush := hown1.push (by rw [htl]; omega) x.1 (encTo L M x.1 M.length).1
  have p6 := pushP_at (l := (anyL L M).take i) (x := (x.1, (encTo L M x.1 M.length).1)) c6 (hown1.aside (by omega))
  have hst6 := store_b1 (y := pushV J1 ((anyL L M).take i).length) p6 rfl rfl
  have e1 : (i : Int) + 1 = ((i + 1 : Nat) : Int) := by omega
  have xB1 : Ext G4 (pushPH J1 sv ((anyL L M).take i) (x.1, (encTo L M x.1 M.length).1)) := OwnP.ext (hown1.weaken xB.len) (x5.trans x8) _
  have lJ1 : B.length ≤ J1.length := by have := x8.len; omega
  have own2 := hown1.pushedL lJ1 (x.1, (encTo L M x.1 M.length).1)
  rw [← ht] at own2
  (repeat (first | refine yw ?_ | ((first | apply yd | apply ye); simp (disch := first|exact zz|fail) only [go_sem, fracV, fill_pair, hpush, hst6]; with_reducible rfl)))
  (repeat (first | refine yw ?_ | ((first | apply yd | apply ye); simp (disch := first|exact zz|fail) only [go_sem, e1]; with_reducible rfl)))
  refine ⟨by omega, pushV J1 ((anyL L M).take i).length, by simp [forget], xB1.set (by omega) _, get_set_self p6, own2.set_ne (.inr ?_) _⟩
  show J1.length + 1 ≠ a6
  omega
end
end Go.Lq

namespace Go.Lq
open Go
open Go.Proofs

theorem pushT_at {H : AHeap} {v : Value} {l : List (Int × Int × Int)} {x : Int × Int × Int} {i : Nat} {c : AObj} (h : H[i]? = some c) (hv : v = .slice none 0 0 ∨ idOf v ≠ i) : (pushTH H v l x)[i]? = some c := by
  have hi := (List.getElem?_eq_some_iff.1 h).1
  unfold pushTH
  rw [appH_at (by simp; omega) hv, List.getElem?_append_left hi]; exact h
theorem OwnT.aside {H0 H : AHeap} {l : List (Int × Int × Int)} {v : Value} (h : OwnT H0 H l v) {j : Nat} (hj : j < H0.length) : v = .slice none 0 0 ∨ idOf v ≠ j := by
  rcases h.2 with ⟨rfl, h0⟩ | ⟨id, rfl, h1, _, _⟩
  · exact .inl rfl
  · exact .inr (by show id ≠ j; omega)
theorem OwnT.set_ne {H0 H : AHeap} {l : List (Int × Int × Int)} {v : Value} (h : OwnT H0 H l v) {j : Nat} (hj : v = .slice none 0 0 ∨ idOf v ≠ j) (c : AObj) : OwnT H0 (H.set j c) l v := by
  refine Own.set_ne h ?_ c
  rcases hj with rfl | hj
  · rcases h.2 with ⟨_, h0⟩ | ⟨id, e, _⟩
    · exact .inl h0
    · cases e
  · exact .inr hj
theorem OwnT.pushedL {H0 H : AHeap} {l : List (Int × Int × Int)} {v : Value} (h : OwnT H0 H l v) (hx : H0.length ≤ H.length) (x : Int × Int × Int) : OwnT H0 (pushTH H v l x) (l ++ [x]) (pushV H l.length) := by
  have := Own.appended (h.app [.cells true 3 [.int .i64 x.1, .int .i64 x.2.1, .int .i64 x.2.2]]) (m := 1) (cs := [.int .i64 x.1, .int .i64 x.2.1, .int .i64 x.2.2]) rfl (by omega) (by simp; omega)
  unfold OwnT
  simpa [pushV, pushTH, flat3] using this
theorem store_e2 {G : AHeap} {id : Nat} {L : Int × Int} {k w : Value} (h : G[id]? = some (.cells true 0 (evC L k))) (ha : isAtom w = true) (hc : w.cells = ⟨[w]⟩) : storeR 1 (.pointer (some ⟨id, 2, none⟩)) w G = some (undef, G.set id (.cells true 0 (evC L w))) := by
  have e2 : ([w] : List Value).all isAtom = true := by simp [ha]
  have e3 : setCells (evC L k) 2 [w] = evC L w := rfl
  simp only [storeR, hc, List.size_toArray, storeAt, h, e2, e3, and_true, List.length_cons, List.length_nil]
  rfl
section
variable {H : AHeap} {L : Int × Int} {M : List Mark} {v kv : Value} {K : List Int}
theorem has_c {n : Int} (hk : Ints H K kv) (hb : K.length ≤ 1000000000) : ACall Go.Proofs.Try.prog 45 [kv, .int .i64 n] H fun w H' => w = .bool (decide (n ∈ K)) ∧ H' = H := by
  (refine a45 ?_; simp only [n45, List.replicate, yq, yr, yt, yu]; first | refine q1 ?_ | refine q2 ?_ | refine q6 ?_ | refine q7 ?_ | refine qh rfl ?_ | skip)
  (refine yg ?_)
  refine awp_loop_n [true, true, false, false, false, true, false, false, false, false, false, false, false, false, false, false, false, false] K.length (fun i e H' => H' = H ∧ e = [kv, .int .i64 n, junk, junk, junk, .int .i64 i, junk, junk, junk, junk, junk, junk, junk, junk, junk, junk, junk, junk] ∧ ∀ j : Nat, j < i → K.getD j 0 ≠ n) ?_ ?_
  · exact ⟨rfl, by simp [forget], by omega⟩
  rintro i e H1 hi ⟨rfl, rfl, hbef⟩
  (repeat (first | refine yw ?_ | ((first | apply yd | apply ye); simp (disch := first|exact zz|fail) only [go_sem, hk.len, hk.idx, hk.load]; with_reducible rfl)))
  refine cond_p rfl (fun hlt => ?_) (fun hge => ?_)
  rotate_left 1
  · obtain rfl : i = K.length := by omega
    have hn : ¬ n ∈ K := fun hm => by
      obtain ⟨j, hj, e⟩ := List.getElem_of_mem hm
      exact hbef j hj (by rw [List.getD_eq_getElem?_getD, List.getElem?_eq_getElem hj]; exact e)
    rw [dec_f hn]
    (refine yg ?_)
    exact fin_1 ⟨rfl, rfl⟩
  have hi' : i < K.length := by omega
  by_cases e : K.getD i 0 = n
  · have hn : n ∈ K := by rw [← e, List.getD_eq_getElem?_getD, List.getElem?_eq_getElem hi']; exact List.getElem_mem hi'
    rw [dec_t hn]
    (repeat (first | refine yw ?_ | ((first | apply yd | apply ye); simp (disch := first|exact zz|fail) only [go_sem, hk.len, hk.idx, hk.load, dec_t e]; with_reducible rfl)))
    refine cond_t rfl ?_
    (refine yg ?_)
    exact fin_1 ⟨rfl, rfl⟩
  · have e1 : (i : Int) + 1 = ((i + 1 : Nat) : Int) := by omega
    (repeat (first | refine yw ?_ | ((first | apply yd | apply ye); simp (disch := first|exact zz|fail) only [go_sem, hk.len, hk.idx, hk.load, dec_f e]; with_reducible rfl)))
    refine cond_f rfl ?_
    (repeat (first | refine yw ?_ | ((first | apply yd | apply ye); simp (disch := first|exact zz|fail) only [go_sem, e1]; with_reducible rfl)))
    refine ⟨by omega, rfl, by simp [forget], fun j hj => ?_⟩
    by_cases hji : j = i
    · subst hji; exact e
    · exact hbef j (by omega)
end
end Go.Lq




namespace Go.Lq
open Go
open Go.Proofs

theorem fin_2l {c : RCode} {n a b : Nat} {R : Value → AHeap → Prop} {e : Env} {H : AHeap} {u w : Value} (h1 : loadR (e.getD a undef) H = some (u, H)) (h2 : loadR (e.getD b undef) H = some (w, H)) (h : R (.tuple #[u, w]) H) :
    Fin ⟨c, n, [.load a, .load b]⟩ R .ret e H := by
  refine ⟨.inr rfl, _, ?_, h⟩
  unfold loadR at h1 h2
  split at h1
  · rename_i id off hp
    simp only [Option.map_eq_some_iff, Prod.mk.injEq, and_true] at h1
    obtain ⟨us, h3, rfl⟩ := h1
    split at h2
    · rename_i id' off' hp'
      simp only [Option.map_eq_some_iff, Prod.mk.injEq, and_true] at h2
      obtain ⟨us', h4, rfl⟩ := h2
      simp only [resultA, List.mapM_cons, resA, hp, h3, hp', h4, Option.map_some, List.mapM_nil]
      rfl
    · cases h2
  · cases h1

section
variable {H : AHeap} {kind deg num den step : Int} {l : List (Int × Int)} {v : Value}
end
end Go.Lq


namespace Go.Lq
open Go
open Go.Proofs

section
variable {H : AHeap} {kind deg num den step : Int} {l : List (Int × Int)} {v : Value}
theorem rFirst_c (hl : Pairs H l v) (h0 : 0 < l.length) : ACall Go.Proofs.Try.prog 34 [.agg ⟨[v]⟩] H fun w H' => w = .agg ⟨[.int .i64 (l.getD 0 (0, 0)).1, .int .i64 (l.getD 0 (0, 0)).2]⟩ ∧ H' = H := by
  refine ACall.drop (closed_frac ((l.getD 0 (0, 0)).1, (l.getD 0 (0, 0)).2)) ?_
  (refine a34 ?_; simp only [n34, List.replicate, yq, yr, yt, yu]; first | refine q1 ?_ | refine q2 ?_ | refine q6 ?_ | refine q7 ?_ | refine qh rfl ?_ | skip)
  obtain ⟨G, hG⟩ : ∃ G, G = H ++ [AObj.cells true 0 [v]] ++ [AObj.cells true 0 [.int .i64 0, .int .i64 0]] := ⟨_, rfl⟩
  have g0 : G[H.length]? = some (.cells true 0 [v]) := by rw [hG]; simp
  have g2 : G[H.length + 1]? = some (.cells true 0 [.int .i64 0, .int .i64 0]) := by rw [hG]; simp
  have xG : Ext H G := by rw [hG]; exact ((Ext.refl H).app _).app _
  (repeat (first | refine yv ?_ | (apply yd; simp (disch := first|exact zz|fail) only [go_sem, hl.box1]; with_reducible rfl)))
  (simp only [List.length_append, List.length_cons, List.length_nil, Nat.zero_add, Nat.add_assoc, Nat.reduceAdd])
  rw [← hG]
  clear hG
  have hl1 := hl.ext xG
  have e0 : (0 : Int) = ((0 : Nat) : Int) := rfl
  (repeat (first | refine yw ?_ | ((first | apply yd | apply ye); simp (disch := first|exact zz|fail) only [go_sem, hl1.len, hl1.idx, hl1.load, load_at g0, store_b2 g2]; with_reducible rfl)))
  refine fin_l1 (u := .agg ⟨[.int .i64 (l.getD 0 (0, 0)).1, .int .i64 (l.getD 0 (0, 0)).2]⟩) (loadN_at (k := 0) (get_set_self g2) (by simp)) ⟨rfl, xG.set (by omega) _⟩
theorem rLast_c (hl : Pairs H l v) (h0 : 0 < l.length) (hb : l.length ≤ 1000000) : ACall Go.Proofs.Try.prog 35 [.agg ⟨[v]⟩] H fun w H' => w = .agg ⟨[.int .i64 (l.getD (l.length - 1) (0, 0)).1, .int .i64 (l.getD (l.length - 1) (0, 0)).2]⟩ ∧ H' = H := by
  refine ACall.drop (closed_frac ((l.getD (l.length - 1) (0, 0)).1, (l.getD (l.length - 1) (0, 0)).2)) ?_
  (refine a35 ?_; simp only [n35, List.replicate, yq, yr, yt, yu]; first | refine q1 ?_ | refine q2 ?_ | refine q6 ?_ | refine q7 ?_ | refine qh rfl ?_ | skip)
  obtain ⟨G, hG⟩ : ∃ G, G = H ++ [AObj.cells true 0 [v]] ++ [AObj.cells true 0 [.int .i64 0, .int .i64 0]] := ⟨_, rfl⟩
  have g0 : G[H.length]? = some (.cells true 0 [v]) := by rw [hG]; simp
  have g2 : G[H.length + 1]? = some (.cells true 0 [.int .i64 0, .int .i64 0]) := by rw [hG]; simp
  have xG : Ext H G := by rw [hG]; exact ((Ext.refl H).app _).app _
  (repeat (first | refine yv ?_ | (apply yd; simp (disch := first|exact zz|fail) only [go_sem, hl.box1]; with_reducible rfl)))
  (simp only [List.length_append, List.length_cons, List.length_nil, Nat.zero_add, Nat.add_assoc, Nat.reduceAdd])
  rw [← hG]
  clear hG
  have hl1 := hl.ext xG
  have el : (l.length : Int) - 1 = ((l.length - 1 : Nat) : Int) := by omega
  (repeat (first | refine yw ?_ | ((first | apply yd | apply ye); simp (disch := first|exact zz|fail) only [go_sem, hl1.len, hl1.idx, hl1.load, load_at g0, el, store_b2 g2]; with_reducible rfl)))
  refine fin_l1 (u := .agg ⟨[.int .i64 (l.getD (l.length - 1) (0, 0)).1, .int .i64 (l.getD (l.length - 1) (0, 0)).2]⟩) (loadN_at (k := 0) (get_set_self g2) (by simp)) ⟨rfl, xG.set (by omega) _⟩

end
end Go.Lq

namespace Go.Lq
open Go
open Go.Proofs

def accRate (L : Int × Int) (l : List (Int × Int)) (i : Nat) : Nat → Option Nat
  | 0 => none
  | n + 1 => if keepsB L (pieceOf l i) = true then accRate L l (i + 1) n else some i
theorem accRate_succ {L : Int × Int} {l : List (Int × Int)} {i n : Nat} : accRate L l i (n + 1) = if keepsB L (pieceOf l i) = true then accRate L l (i + 1) n else some i := rfl
def accMark (M : List Mark) (l : List (Int × Int)) (i : Nat) : Nat → Int × Int
  | 0 => (0, 0)
  | n + 1 => if (l.getD 0 (0, 0)).1 ≤ (M.getD i (0, 0, 0)).1 ∧ (M.getD i (0, 0, 0)).1 ≤ (l.getD (l.length - 1) (0, 0)).1 then
      (if meetsB (pieceP l (M.getD i (0, 0, 0)).1) (M.getD i (0, 0, 0)) = true then accMark M l (i + 1) n else ((i : Int), 13)) else ((i : Int), 14)
theorem accMark_succ {M : List Mark} {l : List (Int × Int)} {i n : Nat} : accMark M l i (n + 1) = if (l.getD 0 (0, 0)).1 ≤ (M.getD i (0, 0, 0)).1 ∧ (M.getD i (0, 0, 0)).1 ≤ (l.getD (l.length - 1) (0, 0)).1 then
      (if meetsB (pieceP l (M.getD i (0, 0, 0)).1) (M.getD i (0, 0, 0)) = true then accMark M l (i + 1) n else ((i : Int), 13)) else ((i : Int), 14) := rfl
def accGo (L : Int × Int) (M : List Mark) (l : List (Int × Int)) : Int × Int := match accRate L l 0 (l.length - 1) with | some i => ((i : Int), 23) | none => accMark M l 0 M.length
def accE (L : Int × Int) (M : List Mark) (l : List (Int × Int)) : Int := firstErr [evErrL L M, mapErrL l]
def accL (L : Int × Int) (M : List Mark) (l : List (Int × Int)) : Int × Int := if accE L M l ≠ 0 then (0, accE L M l) else accGo L M l
theorem accE_ok {L : Int × Int} {M : List Mark} {l : List (Int × Int)} (h : accE L M l = 0) : evErrL L M = 0 ∧ mapErrL l = 0 := by
  unfold accE at h
  by_cases h1 : evErrL L M = 0
  · refine ⟨h1, ?_⟩
    by_cases h2 : mapErrL l = 0
    · exact h2
    · rw [h1, firstErr_z, firstErr_e h2] at h; exact absurd h h2
  · rw [firstErr_e h1] at h; exact absurd h h1
theorem MapOk.pieceAt {l : List (Int × Int)} (h : MapOk l) {i : Nat} (hi : i + 1 < l.length) : (0 ≤ (pieceOf l i).1.1 ∧ (pieceOf l i).1.1 ≤ 1000000) ∧ (0 ≤ (pieceOf l i).2.1 ∧ (pieceOf l i).2.1 ≤ 1000000) ∧ (0 ≤ (pieceOf l i).1.2 ∧ (pieceOf l i).1.2 ≤ 1000000000000) ∧ (0 ≤ (pieceOf l i).2.2 ∧ (pieceOf l i).2.2 ≤ 1000000000000) ∧
    (pieceOf l i).1.1 < (pieceOf l i).2.1 ∧ (pieceOf l i).1.2 < (pieceOf l i).2.2 :=
  ⟨h.pos i (by omega), h.pos (i + 1) hi, h.time i (by omega), h.time (i + 1) hi, h.posUp i hi, h.timeUp i hi⟩
theorem pieceP_ok {l : List (Int × Int)} (h : MapOk l) {n : Int} (h0 : (l.getD 0 (0, 0)).1 ≤ n) (h1 : n ≤ (l.getD (l.length - 1) (0, 0)).1) : atPos l n 0 (l.length - 2) + 1 < l.length ∧ (pieceP l n).1.1 ≤ n ∧ n ≤ (pieceP l n).2.1 := by
  have h2 := h.lo
  obtain ⟨a1, a2⟩ := atPos_in (l := l) (t := n) (k := l.length - 2) (i := 0) (by omega) h0
  have a3 := atPos_up (l := l) (t := n) (k := l.length - 2) (i := 0) (by omega) h1
  exact ⟨a1, a2, a3⟩
section
variable {H : AHeap} {L : Int × Int} {M : List Mark} {v u : Value} {l : List (Int × Int)}
set_option maxHeartbeats 8000000 in
theorem accepts_c (hl : Tris H M v) (hb : M.length ≤ 1000000000) (hm : Pairs H l u) (hmb : l.length ≤ 1000000000) : ACall Go.Proofs.Try.prog 40 [evV L v, .agg ⟨[u]⟩] H fun w H' =>
    w = .tuple #[.int .i64 (accL L M l).1, .int .i64 (accL L M l).2] ∧ H' = H := by
  refine ACall.drop (closed_two _ _) ?_
  (refine a40 ?_; simp only [n40, List.replicate, yq, yr, yt, yu]; first | refine q1 ?_ | refine q2 ?_ | refine q6 ?_ | refine q7 ?_ | refine qh rfl ?_ | skip)
  obtain ⟨G, hG⟩ : ∃ G, G = H ++ [AObj.cells true 0 (evC L v)] ++ [AObj.cells true 0 [u]] ++ [AObj.cells true 0 [.int .i64 0]] ++ [AObj.cells true 0 [.int .i64 0]] := ⟨_, rfl⟩
  have g0 : G[H.length]? = some (.cells true 0 (evC L v)) := by rw [hG]; simp
  have g1 : G[H.length + 1]? = some (.cells true 0 [u]) := by rw [hG]; simp
  have g2 : G[H.length + 2]? = some (.cells true 0 [.int .i64 0]) := by rw [hG]; simp
  have g3 : G[H.length + 3]? = some (.cells true 0 [.int .i64 0]) := by rw [hG]; simp
  have xG : Ext H G := by rw [hG]; exact ((((Ext.refl H).app _).app _).app _).app _
  have lG : G.length = H.length + 4 := by rw [hG]; simp
  have hf1 : fillA [.slice none 0 0] [(0, 1, .agg ⟨[u]⟩)] = some [u] := fill1v hm.atom
  have hms : ∀ J : AHeap, mkSliceL 1 1 (some [u]) J = some (.slice (some ⟨J.length, 0, none⟩) 1 1, J ++ [.cells true 1 [u]]) := fun J => mkSliceL_some (by simp [hm.atom])
  (repeat (first | refine yv ?_ | (apply yd; simp (disch := first|exact zz|fail) only [go_sem, box_ev hl.atom, hm.box1]; with_reducible rfl)))
  (simp only [List.length_append, List.length_cons, List.length_nil, Nat.zero_add, Nat.add_assoc, Nat.reduceAdd])
  rw [← hG]
  clear hG
  (repeat (first | refine yw ?_ | ((first | apply yd | apply ye); simp (disch := first|exact zz|fail) only [go_sem, load_ev g0]; with_reducible rfl)))
  refine aops_call ((open_c (hl.ext xG) hb).mono fun w G2 ⟨hw, x2⟩ => ?_)
  subst hw
  have hst : storeR 3 (.pointer (some ⟨G2.length, 0, none⟩)) (evV L v) (G2 ++ [.cells true 0 [.int .i64 0, .int .i64 0, .slice none 0 0]]) = some (undef, G2 ++ [.cells true 0 (evC L v)]) := store_newN (by simp [hl.atom, isAtom_int]) rfl rfl
  have x3 := x2.app [AObj.cells true 0 (evC L v)]
  obtain ⟨G3, hG3⟩ : ∃ G3, G2 ++ [AObj.cells true 0 (evC L v)] = G3 := ⟨_, rfl⟩
  rw [hG3] at x3 hst
  (repeat (first | refine yw ?_ | ((first | apply yd | apply ye); simp (disch := first|exact zz|fail) only [go_sem, hst, n1_at (x3.cell g1), hf1, hms]; with_reducible rfl)))
  have hS : Sl (G3 ++ [AObj.cells true 1 [u]]) 1 1 [u] (.slice (some ⟨G3.length, 0, none⟩) 1 1) := Sl.last rfl 1
  have x4 := x3.app [AObj.cells true 1 [u]]
  generalize (G3 ++ [AObj.cells true 1 [u]] : AHeap) = G4 at hS x4
  (refine aops_call_to (spMapErr_c hS (hm.ext (xG.trans x4)) hmb) ?_)
  (refine yg ?_)
  (refine aops_call_to (sfirst_c (l := [_, _]) (Ints.last (l := [_, _]) 2) (by simp)) ?_)
  have e1 : firstErr [evErrL L M, mapErrL l] = accE L M l := rfl
  rw [e1]
  have x5 := x4.app [AObj.cells true 1 [.int .i64 (evErrL L M), .int .i64 (mapErrL l)]]
  generalize (G4 ++ [AObj.cells true 1 [.int .i64 (evErrL L M), .int .i64 (mapErrL l)]] : AHeap) = G5 at x5
  clear hst hG3 hS
  have k0 := x5.cell g0
  have k1 := x5.cell g1
  have k2 := x5.cell g2
  have k3 := x5.cell g3
  have k3' : ∀ c, (G5.set (H.length + 2) c)[H.length + 3]? = some (.cells true 0 [.int .i64 0]) := fun c => by rw [List.getElem?_set_ne (by omega)]; exact k3
  have xH5 := xG.trans x5
  (refine yg ?_)
  refine cond_p (p := accE L M l ≠ 0) rfl (fun hne => ?_) (fun heq => ?_)
  · have ev : accL L M l = (0, accE L M l) := by unfold accL; rw [if_pos hne]
    rw [ev]
    (repeat (first | refine yw ?_ | ((first | apply yd | apply ye); simp (disch := first|exact zz|fail) only [go_sem, store_b1 (y := .int .i64 0) k2 rfl rfl, store_b1 (y := .int .i64 (accE L M l)) (k3' _) rfl rfl]; with_reducible rfl)))
    refine fin_2l (u := .int .i64 0) (w := .int .i64 (accE L M l)) (load1 (by rw [List.getElem?_set_ne (by omega)]; exact get_set_self k2)) (load1 (get_set_self (k3' _))) ⟨rfl, (xH5.set (by omega) _).set (by omega) _⟩
  obtain ⟨z1, z2⟩ := accE_ok (Decidable.not_not.1 heq)
  have hk := evErr_ok z1
  have hok := mapErr_ok z2
  have hlen := hk.len
  have h20 := hok.hi
  have h02 := hok.lo
  have hL := And.intro hk.lo hk.hi
  have ev : accL L M l = accGo L M l := by unfold accL; rw [if_neg heq]
  rw [ev]
  have hm5 := hm.ext xH5
  (repeat (first | refine yw ?_ | ((first | apply yd | apply ye); simp (disch := first|exact zz|fail) only [go_sem, n1_at k1]; with_reducible rfl)))
  refine aops_call ((pieces_c hm5).mono fun v1 G6 ⟨hw, hG6⟩ => ?_)
  subst hw
  have x6 : Ext G5 G6 := ⟨_, hG6⟩
  have c6 : G6[G5.length]? = some (.cells true 0 [u]) := by rw [hG6]; exact at_new
  clear hG6
  have l5 : H.length + 4 ≤ G5.length := by have := x5.len; omega
  have l6 : G5.length < G6.length := (List.getElem?_eq_some_iff.1 c6).1
  have xH6 := xH5.trans x6
  have k0 := x6.cell k0
  have k1 := x6.cell k1
  have k2 := x6.cell k2
  have k3 := x6.cell k3
  obtain ⟨n, hn⟩ : ∃ n, l.length - 1 = n := ⟨_, rfl⟩
  refine yx ?_
  refine awp_rangeA mo rfl (fun l h => by cases h) (pieces1_c (idt := G5.length) (l := l) (v := u) (by omega) (by omega))
    (fun rest H' => ∃ i, rest = piecesI l i (n - i) ∧ i ≤ n ∧ accRate L l 0 n = accRate L l i (n - i) ∧ Ext G6 H')
    (fun x H' => x = .ret ∧ ∃ i, accRate L l 0 n = some i ∧ H'[H.length + 2]? = some (.cells true 0 [.int .i64 (i : Int)]) ∧ H'[H.length + 3]? = some (.cells true 0 [.int .i64 23]) ∧ Ext H H') ?_ ?_ ?_ ?_ ?_ ?_ ?_
  · rintro rest H' c' ⟨i, h1, h2, h3, h4⟩
    exact ⟨i, h1, h2, h3, h4.set (Nat.le_refl _) _⟩
  · rintro x H' c' ⟨h1, i, h2, h3, h4, h5⟩
    refine ⟨h1, i, h2, ?_, ?_, h5.set (by omega) _⟩
    · rw [List.getElem?_set_ne (by omega)]; exact h3
    · rw [List.getElem?_set_ne (by omega)]; exact h4
  · rintro rest H' ⟨i, h1, h2, h3, h4⟩
    exact ⟨h4.cell c6, hm.ext (xH6.trans h4)⟩
  · intro N
    exact ⟨0, by rw [hn]; rfl, Nat.zero_le _, rfl, (Ext.refl _).app N⟩
  · rintro a rest H1 ⟨i, h1, hin, h3, h4⟩ hlt
    obtain ⟨k, hkk⟩ : ∃ k, n - i = k := ⟨_, rfl⟩
    rw [hkk] at h1 h3
    match k, h1 with
    | k + 1, h1 =>
    obtain ⟨rfl, rfl⟩ := List.cons.inj h1
    have hi : i < n := by omega
    have hki : k = n - (i + 1) := by omega
    rw [accRate_succ] at h3
    obtain ⟨p1, p2, p3, p4, p5, p6⟩ := hok.pieceAt (i := i) (by omega)
    refine ⟨rfl, fun R Rb _ hR => ?_⟩
    simp only [assignParams, List.zip_cons_cons, List.zip_nil_left, List.foldl_cons, List.foldl_nil]
    have hst : storeR 4 (.pointer (some ⟨H1.length, 0, none⟩)) (pieceV (pieceOf l i)) (H1 ++ [.cells true 0 [.int .i64 0, .int .i64 0, .int .i64 0, .int .i64 0]]) = some (undef, H1 ++ [.cells true 0 (pieceC (pieceOf l i))]) := store_new4 rfl
    (repeat (first | refine yw ?_ | ((first | apply yd | apply ye); simp (disch := first|exact zz|fail) only [go_sem, hst]; with_reducible rfl)))
    refine ⟨rfl, at_app hR, ?_⟩
    have hlR := (List.getElem?_eq_some_iff.1 hR).1
    have hx5 : Ext G6 ((H1 ++ [AObj.cells true 0 (pieceC (pieceOf l i))]).set G6.length Rb) := (h4.app _).set (Nat.le_refl _) _
    have hRb : ((H1 ++ [AObj.cells true 0 (pieceC (pieceOf l i))]).set G6.length Rb)[G6.length]? = some Rb := get_set_self (at_app hR)
    have b7 : ((H1 ++ [AObj.cells true 0 (pieceC (pieceOf l i))]).set G6.length Rb)[H1.length]? = some (.cells true 0 (pieceC (pieceOf l i))) := by
      rw [List.getElem?_set_ne (by omega)]; exact at_new
    generalize ((H1 ++ [AObj.cells true 0 (pieceC (pieceOf l i))]).set G6.length Rb : AHeap) = Hb at hx5 hRb b7
    have b0 := hx5.cell k0
    have b2 := hx5.cell k2
    have b3 : ∀ c, (Hb.set (H.length + 2) c)[H.length + 3]? = some (.cells true 0 [.int .i64 0]) := fun c => by rw [List.getElem?_set_ne (by omega)]; exact hx5.cell k3
    (repeat (first | refine yw ?_ | ((first | apply yd | apply ye); simp (disch := first|exact zz|fail) only [go_sem, load_piece b7, load_lim b0]; with_reducible rfl)))
    (refine aops_call_to (keeps_c hL p1 p2 p3 p4) ?_)
    cases hkp : keepsB L (pieceOf l i) with
    | false =>
      rw [hkp, if_neg (by simp)] at h3
      (refine yg ?_)
      refine cond_t rfl ?_
      (repeat (first | refine yw ?_ | ((first | apply yd | apply ye); simp (disch := first|exact zz|fail) only [go_sem, store_b1 (y := .int .i64 (i : Int)) b2 rfl rfl, store_b1 (y := .int .i64 23) (b3 _) rfl rfl]; with_reducible rfl)))
      refine rounded_r ?_ ⟨rfl, i, h3, ?_, get_set_self (b3 _), ((xH6.trans hx5).set (by omega) _).set (by omega) _⟩
      · rw [List.getElem?_set_ne (by omega), List.getElem?_set_ne (by omega)]; exact hRb
      · rw [List.getElem?_set_ne (by omega)]; exact get_set_self b2
    | true =>
      rw [hkp, if_pos rfl] at h3
      (refine yg ?_)
      refine cond_f rfl ?_
      (refine yg ?_)
      exact rounded_n hRb ⟨i + 1, by rw [← hki], by omega, by rw [← hki]; exact h3, hx5⟩
  · rintro H' ⟨i, h1, hin, h3, h4⟩
    obtain ⟨k, hkk⟩ : ∃ k, n - i = k := ⟨_, rfl⟩
    rw [hkk] at h1 h3
    match k, h1 with
    | 0, _ =>
    have h3 : accRate L l 0 n = none := h3
    have eg : accGo L M l = accMark M l 0 M.length := by unfold accGo; rw [hn, h3]
    rw [eg]
    have b0 := h4.cell k0
    have xH7 := xH6.trans h4
    have hl7 := hl.ext xH7
    (repeat (first | refine yw ?_ | ((first | apply yd | apply ye); simp (disch := first|exact zz|fail) only [go_sem, hl7.len, hl7.idx, hl7.load, load_at b0, evC]; with_reducible rfl)))
    refine awp_loop_n [false, false, true, true, true, true, false, false, false, false, false, false, false, false, false, false, false, false, false, false, false, false, false, false, false, false, false, false, false, false, false, false, false, false, false, false, false, false, false, true, true, true, false, false, false, false, false, false, false, false, false, false, false, false, false, false, false, false, false, false, false, false] M.length (fun j e J => e = [junk, junk, .pointer (some ⟨H.length, 0, none⟩), .pointer (some ⟨H.length + 1, 0, none⟩), .pointer (some ⟨H.length + 2, 0, none⟩), .pointer (some ⟨H.length + 3, 0, none⟩), junk, junk, junk, junk, junk, junk, junk, junk, junk, junk, junk, junk, junk, junk, junk, junk, junk, junk, junk, junk, junk, junk, junk, junk, junk, junk, junk, junk, junk, junk, junk, junk, junk, v, .int .i64 (M.length : Nat), .int .i64 j, junk, junk, junk, junk, junk, junk, junk, junk, junk, junk, junk, junk, junk, junk, junk, junk, junk, junk, junk, junk] ∧ Ext H' J ∧ accMark M l 0 M.length = accMark M l j (M.length - j)) ?_ ?_
    · exact ⟨by simp [forget], Ext.refl _, rfl⟩
    rintro j e J hj ⟨rfl, x8, hA⟩
    have hl8 := hl7.ext x8
    have x68 := h4.trans x8
    have b1 := x68.cell k1
    have b2 := x68.cell k2
    have b3 : ∀ c, (J.set (H.length + 2) c)[H.length + 3]? = some (.cells true 0 [.int .i64 0]) := fun c => by rw [List.getElem?_set_ne (by omega)]; exact x68.cell k3
    have xHJ := xH6.trans x68
    (refine yg ?_)
    refine cond_p rfl (fun hlt => ?_) (fun hge => ?_)
    rotate_left 1
    · obtain rfl : j = M.length := by omega
      rw [Nat.sub_self] at hA
      have hA : accMark M l 0 M.length = (0, 0) := hA
      rw [hA]
      (repeat (first | refine yw ?_ | ((first | apply yd | apply ye); simp (disch := first|exact zz|fail) only [go_sem, store_b1 (y := .int .i64 0) b2 rfl rfl, store_b1 (y := .int .i64 0) (b3 _) rfl rfl]; with_reducible rfl)))
      refine fin_2l (u := .int .i64 0) (w := .int .i64 0) (load1 (by rw [List.getElem?_set_ne (by omega)]; exact get_set_self b2)) (load1 (get_set_self (b3 _))) ⟨rfl, (xHJ.set (by omega) _).set (by omega) _⟩
    have hj' : j < M.length := by omega
    rw [show M.length - j = M.length - (j + 1) + 1 by omega, accMark_succ] at hA
    have x1 := hk.t1 j hj'
    have x2' := hk.t2 j hj'
    (repeat (first | refine yv ?_ | (apply yd; simp (disch := first|exact zz|fail) only [go_sem, hl8.len, hl8.idx, hl8.load, store_new3]; with_reducible rfl)))
    obtain ⟨x, hx⟩ : ∃ x, M.getD j (0, 0, 0) = x := ⟨_, rfl⟩
    rw [hx] at hA x1 x2' ⊢
    rw [new_mark x]
    have c11 : (J ++ [AObj.cells true 0 (markC x)])[J.length]? = some (.cells true 0 (markC x)) := at_new
    have x9 : Ext J (J ++ [AObj.cells true 0 (markC x)]) := (Ext.refl J).app _
    generalize (J ++ [AObj.cells true 0 (markC x)] : AHeap) = J2 at c11 x9
    (repeat (first | refine yw ?_ | ((first | apply yd | apply ye); simp (disch := first|exact zz|fail) only [go_sem, n1_at (x9.cell b1), load_at c11, markC]; with_reducible rfl)))
    refine aops_call_to (pieceAt_c (hm.ext (xHJ.trans x9)) (by omega) (by omega)) ?_
    by_cases hin : (l.getD 0 (0, 0)).1 ≤ x.1 ∧ x.1 ≤ (l.getD (l.length - 1) (0, 0)).1
    · rw [if_pos hin] at hA
      obtain ⟨hpi, hp1, hp2⟩ := pieceP_ok hok hin.1 hin.2
      rw [hok.posOne hin.1 (k := l.length - 1) (i := 0) (by omega) (fun m hm => by omega) hin.2, if_neg (by omega), Nat.sub_sub]
      obtain ⟨p1, p2, p3, p4, p5, p6⟩ := hok.pieceAt hpi
      have ef : findR (some (atPos l x.1 0 (l.length - 2))) l = (pieceP l x.1, true) := rfl
      have epp : pieceOf l (atPos l x.1 0 (l.length - 2)) = pieceP l x.1 := rfl
      rw [epp] at p1 p2 p3 p4 p5 p6
      have e11 : l.length - (1 + 1) = l.length - 2 := rfl
      rw [e11, ef]
      generalize pieceP l x.1 = p at *
      have hst : storeR 4 (.pointer (some ⟨J2.length, 0, none⟩)) (pieceV p) (J2 ++ [.cells true 0 [.int .i64 0, .int .i64 0, .int .i64 0, .int .i64 0]]) = some (undef, J2 ++ [.cells true 0 (pieceC p)]) := store_new4 rfl
      have c12 : (J2 ++ [AObj.cells true 0 (pieceC p)])[J2.length]? = some (.cells true 0 (pieceC p)) := at_new
      have x10 : Ext J2 (J2 ++ [AObj.cells true 0 (pieceC p)]) := (Ext.refl J2).app _
      (repeat (first | refine yw ?_ | ((first | apply yd | apply ye); simp (disch := first|exact zz|fail) only [go_sem, hst]; with_reducible rfl)))
      refine cond_f rfl ?_
      generalize (J2 ++ [AObj.cells true 0 (pieceC p)] : AHeap) = J3 at c12 x10
      (repeat (first | refine yw ?_ | ((first | apply yd | apply ye); simp (disch := first|exact zz|fail) only [go_sem, load_piece c12, load_mark (x10.cell c11)]; with_reducible rfl)))
      (refine aops_call_to (meets_c p1 p2 p3 p4 p5 p6 hp1 hp2 x1 x2') ?_)
      have x11 := x9.trans x10
      have b2 := x11.cell b2
      have b3 : ∀ c, (J3.set (H.length + 2) c)[H.length + 3]? = some (.cells true 0 [.int .i64 0]) := fun c => by rw [List.getElem?_set_ne (by omega)]; exact x11.cell (x68.cell k3)
      cases hmt : meetsB p x with
      | true =>
        rw [hmt, if_pos rfl] at hA
        (refine yg ?_)
        refine cond_f rfl ?_
        (refine yg ?_)
        exact ⟨by omega, by simp [forget], x8.trans x11, hA⟩
      | false =>
        rw [hmt, if_neg (by simp)] at hA
        rw [hA]
        (refine yg ?_)
        refine cond_t rfl ?_
        (repeat (first | refine yw ?_ | ((first | apply yd | apply ye); simp (disch := first|exact zz|fail) only [go_sem, store_b1 (y := .int .i64 (j : Int)) b2 rfl rfl, store_b1 (y := .int .i64 13) (b3 _) rfl rfl]; with_reducible rfl)))
        refine fin_2l (u := .int .i64 (j : Int)) (w := .int .i64 13) (load1 (by rw [List.getElem?_set_ne (by omega)]; exact get_set_self b2)) (load1 (get_set_self (b3 _))) ⟨rfl, ((xHJ.trans x11).set (by omega) _).set (by omega) _⟩
    · rw [if_neg hin] at hA
      rw [hA, hok.outP hin]
      have hst : storeR 4 (.pointer (some ⟨J2.length, 0, none⟩)) (pieceV zeroP) (J2 ++ [.cells true 0 [.int .i64 0, .int .i64 0, .int .i64 0, .int .i64 0]]) = some (undef, J2 ++ [.cells true 0 (pieceC zeroP)]) := store_new4 rfl
      (repeat (first | refine yw ?_ | ((first | apply yd | apply ye); simp (disch := first|exact zz|fail) only [go_sem, findR, hst]; with_reducible rfl)))
      refine cond_t rfl ?_
      have x11 := x9.app [AObj.cells true 0 (pieceC zeroP)]
      have b2 := x11.cell b2
      have b3 : ∀ c, ((J2 ++ [AObj.cells true 0 (pieceC zeroP)]).set (H.length + 2) c)[H.length + 3]? = some (.cells true 0 [.int .i64 0]) := fun c => by rw [List.getElem?_set_ne (by omega)]; exact x11.cell (x68.cell k3)
      (repeat (first | refine yw ?_ | ((first | apply yd | apply ye); simp (disch := first|exact zz|fail) only [go_sem, store_b1 (y := .int .i64 (j : Int)) b2 rfl rfl, store_b1 (y := .int .i64 14) (b3 _) rfl rfl]; with_reducible rfl)))
      refine fin_2l (u := .int .i64 (j : Int)) (w := .int .i64 14) (load1 (by rw [List.getElem?_set_ne (by omega)]; exact get_set_self b2)) (load1 (get_set_self (b3 _))) ⟨rfl, ((xHJ.trans x11).set (by omega) _).set (by omega) _⟩
  · rintro x H' hx ⟨rfl, i, h1, h2, h3, h4⟩
    have eg : accGo L M l = ((i : Int), 23) := by unfold accGo; rw [hn, h1]
    rw [eg]
    (refine yg ?_)
    refine fin_2l (u := .int .i64 (i : Int)) (w := .int .i64 23) (load1 h2) (load1 h3) ⟨rfl, h4⟩
end
end Go.Lq

namespace Go.Lq
open Go
open Go.Proofs

def clashOfL (L : Int × Int) (M : List Mark) : (Int × Int) × Int := if evErrL L M ≠ 0 then ((0, 0), evErrL L M) else match clashL L M with | some r => (((r.1 : Int), (r.2 : Int)), 0) | none => ((0, 0), 12)
section
variable {H : AHeap} {L : Int × Int} {M : List Mark} {v : Value}
theorem fin_l2l {c : RCode} {n a b m : Nat} {R : Value → AHeap → Prop} {e : Env} {H : AHeap} {u w : Value} (h1 : loadNR m (e.getD a undef) H = some (u, H)) (h2 : loadR (e.getD b undef) H = some (w, H)) (h : R (.tuple #[u, w]) H) :
    Fin ⟨c, n, [.loadN m a, .load b]⟩ R .ret e H := by
  refine ⟨.inr rfl, _, ?_, h⟩
  unfold loadNR at h1
  unfold loadR at h2
  split at h1
  · rename_i id off hp
    simp only [Option.map_eq_some_iff, Prod.mk.injEq, and_true] at h1
    obtain ⟨us, h3, rfl⟩ := h1
    split at h2
    · rename_i id' off' hp'
      simp only [Option.map_eq_some_iff, Prod.mk.injEq, and_true] at h2
      obtain ⟨us', h4, rfl⟩ := h2
      simp only [resultA, List.mapM_cons, resA, hp, h3, hp', h4, Option.map_some, List.mapM_nil]
      rfl
    · cases h2
  · cases h1
set_option maxHeartbeats 8000000 in
theorem clashOf_c (hl : Tris H M v) (hb : M.length ≤ 1000000000) : ACall Go.Proofs.Try.prog 41 [evV L v] H fun w H' => w = .tuple #[fracV (clashOfL L M).1, .int .i64 (clashOfL L M).2] ∧ H' = H := by
  refine ACall.drop (closed_frac1 _ _) ?_
  (refine a41 ?_; simp only [n41, List.replicate, yq, yr, yt, yu]; first | refine q1 ?_ | refine q2 ?_ | refine q6 ?_ | refine q7 ?_ | refine qh rfl ?_ | skip)
  obtain ⟨G, hG⟩ : ∃ G, G = H ++ [AObj.cells true 0 (evC L v)] ++ [AObj.cells true 0 [.int .i64 0, .int .i64 0]] ++ [AObj.cells true 0 [.int .i64 0]] := ⟨_, rfl⟩
  have g0 : G[H.length]? = some (.cells true 0 (evC L v)) := by rw [hG]; simp
  have g2 : G[H.length + 1]? = some (.cells true 0 [.int .i64 0, .int .i64 0]) := by rw [hG]; simp
  have g3 : G[H.length + 2]? = some (.cells true 0 [.int .i64 0]) := by rw [hG]; simp
  have xG : Ext H G := by rw [hG]; exact (((Ext.refl H).app _).app _).app _
  have lG : G.length = H.length + 3 := by rw [hG]; simp
  (repeat (first | refine yv ?_ | (apply yd; simp (disch := first|exact zz|fail) only [go_sem, box_ev hl.atom]; with_reducible rfl)))
  (simp only [List.length_append, List.length_cons, List.length_nil, Nat.zero_add, Nat.add_assoc, Nat.reduceAdd])
  rw [← hG]
  clear hG
  (repeat (first | refine yw ?_ | ((first | apply yd | apply ye); simp (disch := first|exact zz|fail) only [go_sem, load_ev g0]; with_reducible rfl)))
  refine aops_call ((open_c (hl.ext xG) hb).mono fun w G2 ⟨hw, x2⟩ => ?_)
  subst hw
  have l2 := x2.len
  have hst : storeR 3 (.pointer (some ⟨G2.length, 0, none⟩)) (evV L v) (G2 ++ [.cells true 0 [.int .i64 0, .int .i64 0, .slice none 0 0]]) = some (undef, G2 ++ [.cells true 0 (evC L v)]) := store_newN (by simp [hl.atom, isAtom_int]) rfl rfl
  (repeat (first | refine yw ?_ | ((first | apply yd | apply ye); simp (disch := first|exact zz|fail) only [go_sem, hst]; with_reducible rfl)))
  have k4 : (G2 ++ [AObj.cells true 0 (evC L v)])[G2.length]? = some (.cells true 0 (evC L v)) := at_new
  have x3 := x2.app [AObj.cells true 0 (evC L v)]
  have l3 : (G2 ++ [AObj.cells true 0 (evC L v)]).length = G2.length + 1 := by simp
  generalize (G2 ++ [AObj.cells true 0 (evC L v)] : AHeap) = G3 at k4 x3 l3
  have xH3 := xG.trans x3
  have hl3 := hl.ext xH3
  have k2 := x3.cell g2
  have k3 := x3.cell g3
  have k3' : ∀ c, (G3.set (H.length + 1) c)[H.length + 2]? = some (.cells true 0 [.int .i64 0]) := fun c => by rw [List.getElem?_set_ne (by omega)]; exact k3
  clear hst
  refine cond_p (p := evErrL L M ≠ 0) rfl (fun hne => ?_) (fun heq => ?_)
  · have ev : clashOfL L M = ((0, 0), evErrL L M) := by unfold clashOfL; rw [if_pos hne]
    rw [ev]
    (repeat (first | refine yw ?_ | ((first | apply yd | apply ye); simp (disch := first|exact zz|fail) only [go_sem, fill_none, store_b2 k2, store_b1 (y := .int .i64 (evErrL L M)) (k3' _) rfl rfl]; with_reducible rfl)))
    refine fin_l2l (n2_at (by rw [List.getElem?_set_ne (by omega)]; exact get_set_self k2)) (load1 (get_set_self (k3' _))) ⟨rfl, (xH3.set (by omega) _).set (by omega) _⟩
  have hk := evErr_ok (Decidable.not_not.1 heq)
  have evS : ∀ r, clashL L M = some r → clashOfL L M = (((r.1 : Int), (r.2 : Int)), 0) := fun r hr => by unfold clashOfL; rw [if_neg heq, hr]
  have evN : clashL L M = none → clashOfL L M = ((0, 0), 12) := fun hr => by unfold clashOfL; rw [if_neg heq, hr]
  (repeat (first | refine yw ?_ | ((first | apply yd | apply ye); simp (disch := first|exact zz|fail) only [go_sem, load_ev k4]; with_reducible rfl)))
  refine awp_rangeB (f := 100) (xs := [evV L v]) (ys := []) mo rfl (fun l h => by cases h) (clashes_c hk)
    (fun B rest H' => rest = pairI (allPairs L M) ∧ (∀ b, B b → G3.length < b) ∧ Ext G3 H')
    (fun x H' => x = .ret ∧ ∃ r, clashL L M = some r ∧ H'[H.length + 1]? = some (.cells true 0 [.int .i64 (r.1 : Int), .int .i64 (r.2 : Int)]) ∧ H'[H.length + 2]? = some (.cells true 0 [.int .i64 0]) ∧ Ext H H') ?_ ?_ ?_ ?_ ?_ ?_ ?_ ?_ ?_ ?_
  · rintro B rest H' c ⟨h1, h2, h3⟩
    exact ⟨h1, h2, h3.set (Nat.le_refl _) _⟩
  · rintro x H' c ⟨h1, r, h2, h3, h4, h5⟩
    exact ⟨h1, r, h2, by rw [List.getElem?_set_ne (by omega)]; exact h3, by rw [List.getElem?_set_ne (by omega)]; exact h4, h5.set (by omega) _⟩
  · rintro B rest H' ⟨h1, h2, h3⟩
    exact hl3.ext h3
  · rintro B rest H' N ⟨h1, h2, h3⟩
    exact ⟨h1, h2, h3.app N⟩
  · rintro B rest H' c ⟨h1, h2, h3⟩ hlt
    refine ⟨h1, fun b hb => ?_, h3.app _⟩
    rcases hb with hb | rfl
    · exact h2 b hb
    · exact hlt
  · rintro B b rest H' c hB ⟨h1, h2, h3⟩
    exact ⟨h1, h2, h3.set (by have := h2 b hB; omega) _⟩
  · intro N
    exact ⟨rfl, fun b h => h.elim, (Ext.refl G3).app N⟩
  · rintro B a rest H1 hBl ⟨h1, h2, h3⟩ hlt
    obtain ⟨p, hp, rfl⟩ : ∃ p, clashL L M = some p ∧ a = [.int .i64 (p.1 : Int), .int .i64 (p.2 : Int)] := by
      rw [← pairs_head]
      cases hp : allPairs L M with
      | nil => rw [hp] at h1; cases h1
      | cons p l => rw [hp] at h1; obtain ⟨rfl, _⟩ := List.cons.inj h1; exact ⟨p, rfl, rfl⟩
    refine ⟨rfl, fun R Rb _ hR => ?_⟩
    simp only [assignParams, List.zip_cons_cons, List.zip_nil_left, List.foldl_cons, List.foldl_nil]
    (refine yg ?_)
    refine ⟨rfl, hR, ?_⟩
    have hRb : (H1.set G3.length Rb)[G3.length]? = some Rb := get_set_self hR
    have x5 : Ext G3 (H1.set G3.length Rb) := h3.set (Nat.le_refl _) _
    generalize (H1.set G3.length Rb : AHeap) = H2 at hRb x5
    have b2 := x5.cell k2
    have b3 : ∀ c, (H2.set (H.length + 1) c)[H.length + 2]? = some (.cells true 0 [.int .i64 0]) := fun c => by rw [List.getElem?_set_ne (by omega)]; exact x5.cell k3
    (repeat (first | refine yw ?_ | ((first | apply yd | apply ye); simp (disch := first|exact zz|fail) only [go_sem, fill2i, store_b2 b2, store_b1 (b3 _) (y := .int .i64 0) rfl rfl]; with_reducible rfl)))
    refine rounded_r ?_ ⟨rfl, p, hp, ?_, get_set_self (b3 _), ((xH3.trans x5).set (by omega) _).set (by omega) _⟩
    · rw [List.getElem?_set_ne (by omega), List.getElem?_set_ne (by omega)]; exact hRb
    · rw [List.getElem?_set_ne (by omega)]; exact get_set_self b2
  · rintro B H' ⟨h1, h2, h3⟩
    have b2 := h3.cell k2
    have b3 : ∀ c, (H'.set (H.length + 1) c)[H.length + 2]? = some (.cells true 0 [.int .i64 0]) := fun c => by rw [List.getElem?_set_ne (by omega)]; exact h3.cell k3
    have hn : clashL L M = none := by
      rw [← pairs_head]
      cases hp : allPairs L M with
      | nil => rfl
      | cons p l => rw [hp] at h1; cases h1
    rw [evN hn]
    (repeat (first | refine yw ?_ | ((first | apply yd | apply ye); simp (disch := first|exact zz|fail) only [go_sem, fill_none, store_b2 b2, store_b1 (b3 _) (y := .int .i64 12) rfl rfl]; with_reducible rfl)))
    refine fin_l2l (n2_at (by rw [List.getElem?_set_ne (by omega)]; exact get_set_self b2)) (load1 (get_set_self (b3 _))) ⟨rfl, ((xH3.trans h3).set (by omega) _).set (by omega) _⟩
  · rintro x H' hx ⟨rfl, r, h1, h2, h3, h4⟩
    rw [evS r h1]
    (refine yg ?_)
    refine fin_l2l (n2_at h2) (load1 h3) ⟨rfl, h4⟩
end
end Go.Lq


namespace Go.Lq
open Go
open Go.Proofs
section
variable {H : AHeap} {L : Int × Int} {M : List Mark} {v u : Value} {l : List (Int × Int)}
set_option maxHeartbeats 8000000 in
theorem rAccepts_c (hl : Tris H M v) (hk : EvOk L M) (hm : Pairs H l u) (hok : MapOk l) : ACall Go.Proofs.Try.prog 39 [evV L v, .agg ⟨[u]⟩] H fun w H' =>
    w = .tuple #[.int .i64 (accGo L M l).1, .int .i64 (accGo L M l).2] ∧ H' = H := by
  refine ACall.drop (closed_two _ _) ?_
  have hlen := hk.len
  have h20 := hok.hi
  have h02 := hok.lo
  have hL1 := hk.lo
  have hL2 := hk.hi
  (refine a39 ?_; simp only [n39, List.replicate, yq, yr, yt, yu]; first | refine q1 ?_ | refine q2 ?_ | refine q6 ?_ | refine q7 ?_ | refine qh rfl ?_ | skip)
  obtain ⟨G, hG⟩ : ∃ G, G = H ++ [AObj.cells true 0 (evC L v)] ++ [AObj.cells true 0 [u]] := ⟨_, rfl⟩
  have g0 : G[H.length]? = some (.cells true 0 (evC L v)) := by rw [hG]; simp
  have g1 : G[H.length + 1]? = some (.cells true 0 [u]) := by rw [hG]; simp
  have xG : Ext H G := by rw [hG]; exact ((Ext.refl H).app _).app _
  (repeat (first | refine yv ?_ | (apply yd; simp (disch := first|exact zz|fail) only [go_sem, box_ev hl.atom, hm.box1]; with_reducible rfl)))
  (simp only [List.length_append, List.length_cons, List.length_nil, Nat.zero_add, Nat.add_assoc, Nat.reduceAdd])
  rw [← hG]
  clear hG
  have hm1 := hm.ext xG
  have hl1 := hl.ext xG
  obtain ⟨n, hn⟩ : ∃ n, l.length - 1 = n := ⟨_, rfl⟩
  (refine yg ?_)
  refine awp_loop_n [false, false, true, true, true, true, true, false, false, false, false, false, false, false, false, false, false, false, false, false, false, false, false, false, false, false, false, false, false, false, false, false, false, false, false, false, false, false, false, false, false, false, false, false, false, false, false, false, false, false, false, false, false, false, false, false, false, false, false, false, false, false, false, false, false, false, false, false, false, false, false, false, false, false, false, false, false, false, false, false, false, false, false, false, false, false, false, false, false, false, false, false, false, false, false, false, false, false, false, false, false, false, false, false, false] n (fun i e J => e = [junk, junk, .pointer (some ⟨H.length, 0, none⟩), .pointer (some ⟨H.length + 1, 0, none⟩), .int .i64 0, .int .i64 0, .int .i64 i, junk, junk, junk, junk, junk, junk, junk, junk, junk, junk, junk, junk, junk, junk, junk, junk, junk, junk, junk, junk, junk, junk, junk, junk, junk, junk, junk, junk, junk, junk, junk, junk, junk, junk, junk, junk, junk, junk, junk, junk, junk, junk, junk, junk, junk, junk, junk, junk, junk, junk, junk, junk, junk, junk, junk, junk, junk, junk, junk, junk, junk, junk, junk, junk, junk, junk, junk, junk, junk, junk, junk, junk, junk, junk, junk, junk, junk, junk, junk, junk, junk, junk, junk, junk, junk, junk, junk, junk, junk, junk, junk, junk, junk, junk, junk, junk, junk, junk] ∧ Ext G J ∧ accRate L l 0 n = accRate L l i (n - i)) ?_ ?_
  · exact ⟨by simp [forget], Ext.refl _, rfl⟩
  rintro i e J hi ⟨rfl, x1, hA⟩
  have b0 := x1.cell g0
  have b1 := x1.cell g1
  have hmJ := hm1.ext x1
  have e1 : (i : Int) + 1 = ((i + 1 : Nat) : Int) := by omega
  (repeat (first | refine yw ?_ | ((first | apply yd | apply ye); simp (disch := first|exact zz|fail) only [go_sem, hmJ.len, hmJ.idx, hmJ.load, load_at b1, e1]; with_reducible rfl)))
  refine cond_p rfl (fun hlt => ?_) (fun hge => ?_)
  · have hi' : i < n := by omega
    obtain ⟨p1, p2, p3, p4, p5, p6⟩ := hok.pieceAt (i := i) (by omega)
    rw [show n - i = n - (i + 1) + 1 by omega, accRate_succ] at hA
    have a1 := (hmJ.load (Ext.refl J) (i := i) (by omega)).1
    have a2 := (hmJ.load (Ext.refl J) (i := i + 1) (by omega)).1
    have ix1 := hmJ.idx (H' := J) (i := (i : Int)) (k := .i64) (by omega) (by omega)
    have ix2 := hmJ.idx (H' := J) (i := ((i + 1 : Nat) : Int)) (k := .i64) (by omega) (by omega)
    rw [Int.toNat_natCast] at ix1 ix2
    have ek : keepsB L (pieceOf l i) = decide (L.1 * ((l.getD (i + 1) (0, 0)).1 - (l.getD i (0, 0)).1) ≤ (l.getD (i + 1) (0, 0)).2 - (l.getD i (0, 0)).2 ∧ (l.getD (i + 1) (0, 0)).2 - (l.getD i (0, 0)).2 ≤ L.2 * ((l.getD (i + 1) (0, 0)).1 - (l.getD i (0, 0)).1)) := rfl
    rw [ek] at hA
    have p1 : 0 ≤ (l.getD i (0, 0)).1 ∧ (l.getD i (0, 0)).1 ≤ 1000000 := p1
    have p2 : 0 ≤ (l.getD (i + 1) (0, 0)).1 ∧ (l.getD (i + 1) (0, 0)).1 ≤ 1000000 := p2
    have p3 : 0 ≤ (l.getD i (0, 0)).2 ∧ (l.getD i (0, 0)).2 ≤ 1000000000000 := p3
    have p4 : 0 ≤ (l.getD (i + 1) (0, 0)).2 ∧ (l.getD (i + 1) (0, 0)).2 ≤ 1000000000000 := p4
    clear ek p5 p6
    generalize l.getD i (0, 0) = x at *
    generalize l.getD (i + 1) (0, 0) = y at *
    obtain ⟨P, hP⟩ : ∃ P, y.1 - x.1 = P := ⟨_, rfl⟩
    obtain ⟨T, hT⟩ : ∃ T, y.2 - x.2 = T := ⟨_, rfl⟩
    rw [hP, hT] at hA
    have m1 := mul_abs (x := L.1) (y := P) (a := 100000) (b := 1000000) ⟨by omega, by omega⟩ ⟨by omega, by omega⟩
    have m2 := mul_abs (x := L.2) (y := P) (a := 100000) (b := 1000000) ⟨by omega, by omega⟩ ⟨by omega, by omega⟩
    refine yx ?_
    (repeat (first | refine yv ?_ | (apply ye; simp (disch := first|exact zz|fail) only [go_sem, load_at b1, ix1, e1, ix2, a1, a2]; with_reducible rfl)))
    (simp only [List.length_append, List.length_cons, List.length_nil, Nat.zero_add, Nat.add_assoc, Nat.reduceAdd])
    obtain ⟨J2, hJ2⟩ : ∃ J2, J2 = J ++ ([AObj.cells true 0 [.int .i64 x.1, .int .i64 x.2]] ++ [AObj.cells true 0 [.int .i64 y.1, .int .i64 y.2]]) := ⟨_, rfl⟩
    have c6 : J2[J.length]? = some (.cells true 0 [.int .i64 x.1, .int .i64 x.2]) := by rw [hJ2]; simp
    have c7 : J2[J.length + 1]? = some (.cells true 0 [.int .i64 y.1, .int .i64 y.2]) := by rw [hJ2]; simp
    have x2 : Ext J J2 := ⟨_, hJ2⟩
    try simp only [List.append_assoc]
    rw [← hJ2]
    clear hJ2
    have d0 := x2.cell b0
    by_cases h1 : T < L.1 * P
    · rw [if_neg (by rw [decide_eq_true_eq]; omega)] at hA
      have eg : accGo L M l = ((i : Int), 23) := by unfold accGo; rw [hn, hA]
      rw [eg]
      (repeat (first | refine yw ?_ | ((first | apply yd | apply ye); simp (disch := first|exact zz|fail) only [go_sem, load_at c6, load_at c7, hP, hT, load_at d0, evC, dec_t h1]; with_reducible rfl)))
      refine cond_t rfl ?_
      (refine yg ?_)
      exact fin_2 ⟨rfl, (xG.trans x1).trans x2⟩
    · by_cases h2 : T > L.2 * P
      · rw [if_neg (by rw [decide_eq_true_eq]; omega)] at hA
        have eg : accGo L M l = ((i : Int), 23) := by unfold accGo; rw [hn, hA]
        rw [eg]
        (repeat (first | refine yw ?_ | ((first | apply yd | apply ye); simp (disch := first|exact zz|fail) only [go_sem, load_at c6, load_at c7, hP, hT, load_at d0, evC, dec_f h1, dec_t h2]; with_reducible rfl)))
        refine cond_t rfl ?_
        (refine yg ?_)
        exact fin_2 ⟨rfl, (xG.trans x1).trans x2⟩
      · rw [if_pos (by rw [decide_eq_true_eq]; omega)] at hA
        (repeat (first | refine yw ?_ | ((first | apply yd | apply ye); simp (disch := first|exact zz|fail) only [go_sem, load_at c6, load_at c7, hP, hT, load_at d0, evC, dec_f h1, dec_f h2]; with_reducible rfl)))
        refine cond_f rfl ?_
        (repeat (first | refine yw ?_ | ((first | apply yd | apply ye); simp (disch := first|exact zz|fail) only [go_sem, e1]; with_reducible rfl)))
        exact ⟨by omega, by simp [forget], x1.trans x2, hA⟩
  obtain rfl : i = n := by omega
  rw [Nat.sub_self] at hA
  have hA : accRate L l 0 i = none := hA
  have eg : accGo L M l = accMark M l 0 M.length := by unfold accGo; rw [hn, hA]
  rw [eg]
  clear eg hA
  have hlJ := hl1.ext x1
  have xHJ := xG.trans x1
  (refine yg ?_)
  refine awp_loop_n [false, false, true, true, true, true, false, false, false, false, false, true, false, false, false, false, false, false, false, false, false, false, false, false, false, false, false, false, false, false, false, false, false, false, false, false, false, false, false, false, false, false, false, false, false, false, false, false, false, false, false, false, false, false, false, false, false, false, false, false, false, false, false, false, false, false, false, false, false, false, false, false, false, false, false, false, false, false, false, false, false, false, false, false, false, false, false, false, false, false, false, false, false, false, false, false, false, false, false, false, false, false, false, false, false] M.length (fun j e J2 => e = [junk, junk, .pointer (some ⟨H.length, 0, none⟩), .pointer (some ⟨H.length + 1, 0, none⟩), .int .i64 0, .int .i64 0, junk, junk, junk, junk, junk, .int .i64 j, junk, junk, junk, junk, junk, junk, junk, junk, junk, junk, junk, junk, junk, junk, junk, junk, junk, junk, junk, junk, junk, junk, junk, junk, junk, junk, junk, junk, junk, junk, junk, junk, junk, junk, junk, junk, junk, junk, junk, junk, junk, junk, junk, junk, junk, junk, junk, junk, junk, junk, junk, junk, junk, junk, junk, junk, junk, junk, junk, junk, junk, junk, junk, junk, junk, junk, junk, junk, junk, junk, junk, junk, junk, junk, junk, junk, junk, junk, junk, junk, junk, junk, junk, junk, junk, junk, junk, junk, junk, junk, junk, junk, junk] ∧ Ext J J2 ∧ accMark M l 0 M.length = accMark M l j (M.length - j)) ?_ ?_
  · exact ⟨by simp [forget], Ext.refl _, rfl⟩
  rintro j e J2 hj ⟨rfl, x2, hA⟩
  have b0 := x2.cell b0
  have b1 := x2.cell b1
  have hlJ := hlJ.ext x2
  have hmJ := hmJ.ext x2
  (repeat (first | refine yw ?_ | ((first | apply yd | apply ye); simp (disch := first|exact zz|fail) only [go_sem, hlJ.len, hlJ.idx, hlJ.load, load_at b0, evC]; with_reducible rfl)))
  refine cond_p rfl (fun hlt => ?_) (fun hge => ?_)
  rotate_left 1
  · obtain rfl : j = M.length := by omega
    rw [Nat.sub_self] at hA
    have hA : accMark M l 0 M.length = (0, 0) := hA
    rw [hA]
    (refine yg ?_)
    exact fin_2 ⟨rfl, xHJ.trans x2⟩
  have hj' : j < M.length := by omega
  rw [show M.length - j = M.length - (j + 1) + 1 by omega, accMark_succ] at hA
  have x1' := hk.t1 j hj'
  have x2' := hk.t2 j hj'
  (repeat (first | refine yv ?_ | (apply yd; simp (disch := first|exact zz|fail) only [go_sem, hlJ.len, hlJ.idx, hlJ.load, load_at b0, evC, store_new3]; with_reducible rfl)))
  obtain ⟨x, hx⟩ : ∃ x, M.getD j (0, 0, 0) = x := ⟨_, rfl⟩
  rw [hx] at hA x1' x2' ⊢
  rw [new_mark x]
  have c11 : (J2 ++ [AObj.cells true 0 (markC x)])[J2.length]? = some (.cells true 0 (markC x)) := at_new
  have x9 : Ext J2 (J2 ++ [AObj.cells true 0 (markC x)]) := (Ext.refl J2).app _
  generalize (J2 ++ [AObj.cells true 0 (markC x)] : AHeap) = J3 at c11 x9
  have d1 := x9.cell b1
  have hmJ := hmJ.ext x9
  (repeat (first | refine yw ?_ | ((first | apply yd | apply ye); simp (disch := first|exact zz|fail) only [go_sem, n1_at d1, load_at c11, markC]; with_reducible rfl)))
  (refine adraw_call (N := []) (firstD (rFirst_c hmJ (by omega))) ?_; rw [List.append_nil])
  (repeat (first | refine yw ?_ | ((first | apply yd | apply ye); simp (disch := first|exact zz|fail) only [go_sem, n1_at d1]; with_reducible rfl)))
  (refine adraw_call (N := []) (firstD (rLast_c hmJ (by omega) (by omega))) ?_; rw [List.append_nil])
  (repeat (first | refine yw ?_ | ((first | apply yd | apply ye); simp (disch := first|exact zz|fail) only [go_sem, load_at c11, markC]; with_reducible rfl)))
  (refine adraw_call (N := []) (firstD (bwithin_c _ _ _)) ?_; rw [List.append_nil])
  by_cases hin : (l.getD 0 (0, 0)).1 ≤ x.1 ∧ x.1 ≤ (l.getD (l.length - 1) (0, 0)).1
  rotate_left 1
  · rw [if_neg hin] at hA
    rw [hA]
    (repeat (first | refine yw ?_ | ((first | apply yd | apply ye); simp (disch := first|exact zz|fail) only [go_sem, dec_f hin]; with_reducible rfl)))
    refine cond_t rfl ?_
    (refine yg ?_)
    exact fin_2 ⟨rfl, (xHJ.trans x2).trans x9⟩
  rw [if_pos hin] at hA
  (repeat (first | refine yw ?_ | ((first | apply yd | apply ye); simp (disch := first|exact zz|fail) only [go_sem, dec_t hin]; with_reducible rfl)))
  refine cond_f rfl ?_
  (repeat (first | refine yw ?_ | ((first | apply yd | apply ye); simp (disch := first|exact zz|fail) only [go_sem, n1_at d1, load_at c11, markC]; with_reducible rfl)))
  (refine aops_call_to (rtimeAt_c hmJ hok hin.1 hin.2) ?_)
  obtain ⟨hpi, hp1, hp2⟩ := pieceP_ok hok hin.1 hin.2
  obtain ⟨p1, p2, p3, p4, p5, p6⟩ := hok.pieceAt hpi
  have epp : pieceOf l (atPos l x.1 0 (l.length - 2)) = pieceP l x.1 := rfl
  rw [epp] at p1 p2 p3 p4 p5 p6 ⊢
  generalize pieceP l x.1 = p at *
  obtain ⟨d, hd⟩ : ∃ d, p.2.1 - p.1.1 = d := ⟨_, rfl⟩
  have m1 := mul_abs (x := x.2.1) (y := d) (a := 1000000000000) (b := 1000000) ⟨by omega, by omega⟩ ⟨by omega, by omega⟩
  have m2 := mul_abs (x := x.2.2) (y := d) (a := 1000000000000) (b := 1000000) ⟨by omega, by omega⟩ ⟨by omega, by omega⟩
  rw [hd]
  (repeat (first | refine yw ?_ | ((first | apply yd | apply ye); simp (disch := first|exact zz|fail) only [go_sem, load_at c11, markC]; with_reducible rfl)))
  (refine aops_call_to (bwithin_c _ _ _) ?_)
  have em : meetsB p x = decide (x.2.1 * d ≤ timN p x.1 ∧ timN p x.1 ≤ x.2.2 * d) := by unfold meetsB; rw [hd]
  rw [em] at hA
  by_cases hmt : x.2.1 * d ≤ timN p x.1 ∧ timN p x.1 ≤ x.2.2 * d
  · rw [if_pos (by rw [decide_eq_true_eq]; exact hmt)] at hA
    have e1 : (j : Int) + 1 = ((j + 1 : Nat) : Int) := by omega
    (repeat (first | refine yw ?_ | ((first | apply yd | apply ye); simp (disch := first|exact zz|fail) only [go_sem, dec_t hmt]; with_reducible rfl)))
    refine cond_f rfl ?_
    (repeat (first | refine yw ?_ | ((first | apply yd | apply ye); simp (disch := first|exact zz|fail) only [go_sem, e1]; with_reducible rfl)))
    exact ⟨by omega, by simp [forget], x2.trans x9, hA⟩
  · rw [if_neg (by rw [decide_eq_true_eq]; exact hmt)] at hA
    rw [hA]
    (repeat (first | refine yw ?_ | ((first | apply yd | apply ye); simp (disch := first|exact zz|fail) only [go_sem, dec_f hmt]; with_reducible rfl)))
    refine cond_t rfl ?_
    (refine yg ?_)
    exact fin_2 ⟨rfl, (xHJ.trans x2).trans x9⟩
end
end Go.Lq

namespace Go.Lq
open Go
open Go.Proofs

theorem accRate_none {L : Int × Int} {l : List (Int × Int)} : ∀ {n i : Nat}, (∀ j, i ≤ j → j < i + n → keepsB L (pieceOf l j) = true) → accRate L l i n = none
  | 0, i, _ => rfl
  | n + 1, i, h => by
    rw [accRate_succ, if_pos (h i (Nat.le_refl _) (by omega))]
    exact accRate_none fun j h1 h2 => h j (by omega) (by omega)
theorem accMark_zero {M : List Mark} {l : List (Int × Int)} : ∀ {n i : Nat}, (∀ j, i ≤ j → j < i + n → ((l.getD 0 (0, 0)).1 ≤ mP M j ∧ mP M j ≤ (l.getD (l.length - 1) (0, 0)).1) ∧ meetsB (pieceP l (mP M j)) (M.getD j (0, 0, 0)) = true) → accMark M l i n = (0, 0)
  | 0, i, _ => rfl
  | n + 1, i, h => by
    have h1 := h i (Nat.le_refl _) (by omega)
    rw [accMark_succ, if_pos h1.1, if_pos h1.2]
    exact accMark_zero fun j h1 h2 => h j (by omega) (by omega)
theorem meets_iff {p : (Int × Int) × (Int × Int)} {x : Mark} : meetsB p x = true ↔ atLeast p x.1 x.2.1 ∧ atMost p x.1 x.2.2 := decide_eq_true_iff
theorem accGo_zero {L : Int × Int} {M : List Mark} {l : List (Int × Int)} (hr : RateOk L l) (hm : ∀ j, j < M.length → ((l.getD 0 (0, 0)).1 ≤ mP M j ∧ mP M j ≤ (l.getD (l.length - 1) (0, 0)).1) ∧ meetsB (pieceP l (mP M j)) (M.getD j (0, 0, 0)) = true) : accGo L M l = (0, 0) := by
  unfold accGo
  rw [accRate_none (fun j _ h2 => decide_eq_true (hr j (by omega)))]
  exact accMark_zero fun j _ h2 => hm j (by omega)
theorem any_acc {L : Int × Int} {M : List Mark} (h : EvOk L M) (hN : NoClash L M) (h2 : 2 ≤ M.length) : accGo L M (anyL L M) = (0, 0) := by
  have hok := any_ok h hN h2
  refine accGo_zero (any_rate h) fun j hj => ?_
  have hj' : j < (anyL L M).length := by rw [anyL_len]; exact hj
  have e1 : (anyL L M).getD j (0, 0) = (mP M j, (encTo L M (mP M j) M.length).1) := anyL_at hj
  have a1 := hok.posLe (Nat.zero_le j) hj'
  have a2 := hok.posLe (show j ≤ (anyL L M).length - 1 by omega) (by omega)
  have hn := (map_node hok hj').1
  rw [e1] at a1 a2 hn
  refine ⟨⟨a1, a2⟩, meets_iff.2 ?_⟩
  obtain ⟨b1, _⟩ := atPos_in (l := anyL L M) (t := mP M j) (k := (anyL L M).length - 2) (i := 0) (by have := hok.lo; omega) a1
  have hp : (pieceP (anyL L M) (mP M j)).1.1 < (pieceP (anyL L M) (mP M j)).2.1 := (hok.piece b1).pos
  have hm := enc_mark h hN hj
  have n1 : timLo (pieceP (anyL L M) (mP M j)) (mP M j) = (encTo L M (mP M j) M.length).1 := hn.1
  have n2 : timHi (pieceP (anyL L M) (mP M j)) (mP M j) = (encTo L M (mP M j) M.length).1 := hn.2
  constructor
  · show atLeast (pieceP (anyL L M) (mP M j)) (mP M j) _
    rw [least_lo hp, n1]; exact hm.1
  · show atMost (pieceP (anyL L M) (mP M j)) (mP M j) _
    rw [most_hi hp, n2]; exact hm.2
theorem course_acc {L : Int × Int} {M : List Mark} (he : EvOk L M) {s : Int} {l : List (Int × Int)} (h : CourseOf L M 0 s l) (h2 : 2 ≤ l.length) : accGo L M l = (0, 0) := by
  have hlo := h.head
  refine accGo_zero h.rate fun j hj => ⟨?_, meets_iff.2 (h.meets he h2 (Nat.zero_le j) hj)⟩
  rw [hlo, h.endAt]
  constructor
  · by_cases e : 0 = j
    · subst e; exact Int.le_refl _
    · exact Int.le_of_lt (he.lt (show 0 < j by omega) hj)
  · by_cases e : j = M.length - 1
    · rw [← e]; exact Int.le_refl _
    · exact Int.le_of_lt (he.lt (show j < M.length - 1 by omega) (by omega))
section
variable {H : AHeap} {L : Int × Int} {M : List Mark} {v u : Value} {l : List (Int × Int)}
end
end Go.Lq

namespace Go.Lq

theorem accRate_all {L : Int × Int} {l : List (Int × Int)} : ∀ {n i : Nat}, accRate L l i n = none → ∀ j, i ≤ j → j < i + n → keepsB L (pieceOf l j) = true
  | 0, i, _, j, h1, h2 => by omega
  | n + 1, i, h, j, h1, h2 => by
    rw [accRate_succ] at h
    by_cases hk : keepsB L (pieceOf l i) = true
    · rw [if_pos hk] at h
      by_cases e : j = i
      · subst e; exact hk
      · exact accRate_all h j (by omega) (by omega)
    · rw [if_neg hk] at h; cases h
theorem accMark_all {M : List Mark} {l : List (Int × Int)} : ∀ {n i : Nat}, (accMark M l i n).2 = 0 → ∀ j, i ≤ j → j < i + n → ((l.getD 0 (0, 0)).1 ≤ mP M j ∧ mP M j ≤ (l.getD (l.length - 1) (0, 0)).1) ∧ meetsB (pieceP l (mP M j)) (M.getD j (0, 0, 0)) = true
  | 0, i, _, j, h1, h2 => by omega
  | n + 1, i, h, j, h1, h2 => by
    rw [accMark_succ] at h
    by_cases hr : (l.getD 0 (0, 0)).1 ≤ (M.getD i (0, 0, 0)).1 ∧ (M.getD i (0, 0, 0)).1 ≤ (l.getD (l.length - 1) (0, 0)).1
    · rw [if_pos hr] at h
      by_cases hm : meetsB (pieceP l (M.getD i (0, 0, 0)).1) (M.getD i (0, 0, 0)) = true
      · rw [if_pos hm] at h
        by_cases e : j = i
        · subst e; exact ⟨hr, hm⟩
        · exact accMark_all h j (by omega) (by omega)
      · rw [if_neg hm] at h; exact absurd (show (13 : Int) = 0 from h) (by decide)
    · rw [if_neg hr] at h; exact absurd (show (14 : Int) = 0 from h) (by decide)
structure AccOk (L : Int × Int) (M : List Mark) (l : List (Int × Int)) : Prop where
  ok : MapOk l
  rate : RateOk L l
  marks : ∀ j, j < M.length → ((l.getD 0 (0, 0)).1 ≤ mP M j ∧ mP M j ≤ (l.getD (l.length - 1) (0, 0)).1) ∧ (atLeast (pieceP l (mP M j)) (mP M j) (M.getD j (0, 0, 0)).2.1 ∧ atMost (pieceP l (mP M j)) (mP M j) (M.getD j (0, 0, 0)).2.2)
theorem AccOk.of {L : Int × Int} {M : List Mark} {l : List (Int × Int)} (hok : MapOk l) (h : (accGo L M l).2 = 0) : AccOk L M l := by
  unfold accGo at h
  cases hr : accRate L l 0 (l.length - 1) with
  | some i => rw [hr] at h; exact absurd h (by show ¬ ((23 : Int) = 0); decide)
  | none =>
    rw [hr] at h
    have hk := accRate_all hr
    have hm := accMark_all (i := 0) (n := M.length) h
    exact ⟨hok, fun i hi => of_decide_eq_true (hk i (Nat.zero_le _) (by omega)), fun j hj => ⟨(hm j (Nat.zero_le _) (by omega)).1, meets_iff.1 (hm j (Nat.zero_le _) (by omega)).2⟩⟩
section
variable {L : Int × Int} {M : List Mark} {l : List (Int × Int)} (ha : AccOk L M l) (he : EvOk L M)
include ha he
theorem AccOk.one {i : Nat} (hi : i < M.length) {q : Int} (hq : (l.getD 0 (0, 0)).1 ≤ q ∧ q ≤ (l.getD (l.length - 1) (0, 0)).1) : (byR L (M.getD i (0, 0, 0)) q).1 ≤ mapTimLo l q ∧ mapTimHi l q ≤ (byR L (M.getD i (0, 0, 0)) q).2 := by
  have hm := ha.ok
  have hlo := hm.lo
  obtain ⟨m1, m2⟩ := ha.marks i hi
  obtain ⟨b1, b2⟩ := by_encloses hm ha.rate he.le (x := M.getD i (0, 0, 0)) (q := q) m1 hq m2
  obtain ⟨a1, _⟩ := atPos_in (l := l) (t := q) (k := l.length - 2) (i := 0) (by omega) hq.1
  have hp : (pieceP l q).1.1 < (pieceP l q).2.1 := (hm.piece a1).pos
  rw [least_lo hp] at b1
  rw [most_hi hp] at b2
  exact ⟨b1, b2⟩
theorem AccOk.enc (h0 : 0 < M.length) {q : Int} (hq : (l.getD 0 (0, 0)).1 ≤ q ∧ q ≤ (l.getD (l.length - 1) (0, 0)).1) : (encTo L M q M.length).1 ≤ mapTimLo l q ∧ mapTimHi l q ≤ (encTo L M q M.length).2 :=
  enc_le h0 fun _ hi => ha.one he hi hq
theorem AccOk.noClash : NoClash L M := fun i k hik hk => by
  have hm := ha.ok
  have hlo := hm.lo
  obtain ⟨r, k1, k2⟩ := ha.marks k hk
  obtain ⟨b1, b2⟩ := ha.one he (show i < M.length by omega) r
  obtain ⟨a1, _⟩ := atPos_in (l := l) (t := mP M k) (k := l.length - 2) (i := 0) (by omega) r.1
  have hp : (pieceP l (mP M k)).1.1 < (pieceP l (mP M k)).2.1 := (hm.piece a1).pos
  have lh := (timLo_hi (hm.piece a1) (n := mP M k)).1
  rw [least_lo hp] at k1
  rw [most_hi hp] at k2
  have e1 : mapTimLo l (mP M k) = timLo (pieceP l (mP M k)) (mP M k) := rfl
  have e2 : mapTimHi l (mP M k) = timHi (pieceP l (mP M k)) (mP M k) := rfl
  have e3 : timLo (pieceOf l (atPos l (mP M k) 0 (l.length - 2))) (mP M k) = timLo (pieceP l (mP M k)) (mP M k) := rfl
  have e4 : timHi (pieceOf l (atPos l (mP M k) 0 (l.length - 2))) (mP M k) = timHi (pieceP l (mP M k)) (mP M k) := rfl
  rw [e1] at b1
  rw [e2] at b2
  rw [e3, e4] at lh
  refine noClash_iff.2 ⟨?_, ?_⟩
  · show _ ≤ (byR L _ (mP M k)).2; omega
  · show (byR L _ (mP M k)).1 ≤ _; omega
end
/-! ### Fewer marks -/
theorem mark_mem {M : List Mark} {x : Mark} (h : x ∈ M) : ∃ k, k < M.length ∧ M.getD k (0, 0, 0) = x := by
  obtain ⟨k, hk, e⟩ := List.getElem_of_mem h
  exact ⟨k, hk, by rw [List.getD_eq_getElem?_getD, List.getElem?_eq_getElem hk]; exact e⟩
theorem getD_mem {M : List Mark} {k : Nat} (h : k < M.length) : M.getD k (0, 0, 0) ∈ M := by
  rw [List.getD_eq_getElem?_getD, List.getElem?_eq_getElem h]; exact List.getElem_mem h
theorem pair_iff {M : List Mark} {R : Mark → Mark → Prop} : M.Pairwise R ↔ ∀ i k, i < k → k < M.length → R (M.getD i (0, 0, 0)) (M.getD k (0, 0, 0)) := by
  rw [List.pairwise_iff_getElem]
  constructor
  · intro h i k hik hk
    rw [List.getD_eq_getElem?_getD, List.getElem?_eq_getElem (show i < M.length by omega), List.getD_eq_getElem?_getD, List.getElem?_eq_getElem hk]
    exact h i k _ _ hik
  · intro h i k hi hk hik
    have := h i k hik hk
    rw [List.getD_eq_getElem?_getD, List.getElem?_eq_getElem hi, List.getD_eq_getElem?_getD, List.getElem?_eq_getElem hk] at this
    exact this
theorem EvOk.sub {L : Int × Int} {M N : List Mark} (h : EvOk L M) (hs : N.Sublist M) : EvOk L N := by
  have hm : ∀ i, i < N.length → ∃ k, k < M.length ∧ M.getD k (0, 0, 0) = N.getD i (0, 0, 0) := fun i hi => mark_mem (hs.subset (getD_mem hi))
  refine ⟨h.lo, h.hi, h.le, Nat.le_trans hs.length_le h.len, fun i hi => ?_, fun i hi => ?_, fun i hi => ?_, fun i hi => ?_, fun i hi => ?_⟩
  · obtain ⟨k, hk, e⟩ := hm i hi; rw [← e]; exact h.pos k hk
  · obtain ⟨k, hk, e⟩ := hm i hi; rw [← e]; exact h.t1 k hk
  · obtain ⟨k, hk, e⟩ := hm i hi; rw [← e]; exact h.t2 k hk
  · obtain ⟨k, hk, e⟩ := hm i hi; rw [← e]; exact h.lohi k hk
  · have hp : M.Pairwise (fun a b => a.1 < b.1) := pair_iff.2 fun i k hik hk => h.lt hik hk
    exact pair_iff.1 (hp.sublist hs) i (i + 1) (by omega) hi
theorem NoClash.sub {L : Int × Int} {M N : List Mark} (h : NoClash L M) (hs : N.Sublist M) : NoClash L N := by
  have hp : M.Pairwise (fun a b => clashB L a b = false) := pair_iff.2 h
  exact pair_iff.1 (hp.sublist hs)
theorem ckMarks_from {M : List Mark} : ∀ {i : Nat}, (∀ j, j < i → markO (lastAt M j) (M.getD j (0, 0, 0)) = 0) → i ≤ M.length → ckMarks (-1) 0 M = ckMarks (lastAt M i) i (M.drop i)
  | 0, _, _ => rfl
  | i + 1, h, hi => by
    rw [ckMarks_from (i := i) (fun j hj => h j (by omega)) (by omega), ckMarks_at (by omega), if_neg (by rw [h i (by omega)]; decide)]
theorem EvOk.err {L : Int × Int} {M : List Mark} (h : EvOk L M) : evErrL L M = 0 := by
  have hlen := h.len
  have e1 : limE L M.length = 0 := by unfold limE; rw [if_pos ⟨h.lo, h.hi⟩, firstErr_z, if_pos h.le, firstErr_z, if_pos (by omega), firstErr_z]; rfl
  unfold evErrL ckEv
  rw [if_neg (by rw [e1]; decide), ckMarks_from (i := M.length) (fun j hj => ?_) (Nat.le_refl _), ckMarks_end]
  have hp := h.pos j hj
  have hlast : lastAt M j < (M.getD j (0, 0, 0)).1 := by
    cases j with
    | zero => show (-1 : Int) < _; omega
    | succ j => rw [lastAt_succ]; exact h.up j hj
  unfold markO markE
  rw [if_pos ⟨hp, h.t1 j hj, h.t2 j hj⟩, firstErr_z, if_pos (h.lohi j hj), firstErr_z, if_pos hlast]
  rfl
end Go.Lq

namespace Go.Lq
open Go
open Go.Proofs

def dPos (l : List (Int × Int)) (i : Nat) : Int := (l.getD (i + 1) (0, 0)).1 - (l.getD i (0, 0)).1
def dTim (l : List (Int × Int)) (i : Nat) : Int := (l.getD (i + 1) (0, 0)).2 - (l.getD i (0, 0)).2
def RateTo (s f : Int) (l : List (Int × Int)) (n : Nat) : Prop := ∀ i, i < n → i + 1 < l.length → s * dPos l i ≤ dTim l i ∧ dTim l i ≤ f * dPos l i
theorem RateTo.zero {s f : Int} {l : List (Int × Int)} : RateTo s f l 0 := fun i h => by omega
theorem RateTo.step {s f : Int} {l : List (Int × Int)} {n : Nat} (h : RateTo s f l n) (hm : MapOk l) (hn : n + 1 < l.length) : RateTo (min s (dTim l n / dPos l n)) (max f (-(-dTim l n / dPos l n))) l (n + 1) := by
  intro i hi hl
  have hp : 0 < dPos l i := by have := hm.posUp i hl; unfold dPos; omega
  have up : ∀ a b : Int, a ≤ b → a * dPos l i ≤ b * dPos l i := fun a b hab => Int.mul_le_mul_of_nonneg_right hab (by omega)
  by_cases e : i = n
  · subst e
    have u1 := up _ _ (show min s (dTim l i / dPos l i) ≤ dTim l i / dPos l i by omega)
    have u2 := up _ _ (show -(-dTim l i / dPos l i) ≤ max f (-(-dTim l i / dPos l i)) by omega)
    have e1 := Int.ediv_mul_le (dTim l i) (show dPos l i ≠ 0 by omega)
    have e2 := Int.ediv_mul_le (-dTim l i) (show dPos l i ≠ 0 by omega)
    rw [Int.neg_mul] at u2
    omega
  · have h1 := h i (by omega) hl
    have u1 := up _ _ (show min s (dTim l n / dPos l n) ≤ s by omega)
    have u2 := up _ _ (show f ≤ max f (-(-dTim l n / dPos l n)) by omega)
    omega
theorem RateTo.ok {s f : Int} {l : List (Int × Int)} {n : Nat} (h : RateTo s f l n) (hn : l.length ≤ n + 1) : RateOk (s, f) l := fun i hi => h i (by omega) hi
section
variable {G : AHeap} {id : Nat} {A D : Int × Int} {k : Value}
end
end Go.Lq



namespace Go.Lq

def IsFew (L : Int × Int) (M : List Mark) (k : Nat) (t : Int) (n : Nat) : Prop := (n = 0 ∨ (0 < n ∧ Chain0 L M k t n)) ∧ ∀ m, Chain0 L M k t m → 0 < n ∧ n ≤ m
structure KeptR (L : Int × Int) (M : List Mark) (k : Nat) (t : Int) (C : Nat → Int → Prop) (out : Nat) : Prop where
  ch : out = 0 ∨ (0 < out ∧ Chain0 L M k t out)
  zero : k = 0 → out = 1
  low : ∀ a s n, C a s → Chain0 L M a s n → Joins L M a k s t → 0 < out ∧ out ≤ n + 1
section
variable {L : Int × Int} {M : List Mark} {k : Nat} {t : Int}
theorem KeptR.start (hk : k < M.length) (ht : inR M k t) : KeptR L M k t (fun a s => a < 0 ∧ inR M a s) (if k = 0 then 1 else 0) := by
  refine ⟨?_, fun h => by rw [if_pos h], fun a s n h => by omega⟩
  by_cases e : k = 0
  · subst e; rw [if_pos rfl]; exact .inr ⟨by omega, Chain0.first hk ht⟩
  · rw [if_neg e]; exact .inl rfl
theorem KeptR.congr {C D : Nat → Int → Prop} {out : Nat} (h : KeptR L M k t C out) (hcd : ∀ a s, D a s → C a s) : KeptR L M k t D out := ⟨h.ch, h.zero, fun a s n hd => h.low a s n (hcd a s hd)⟩
theorem KeptR.same {C : Nat → Int → Prop} {out : Nat} (h : KeptR L M k t C out) {i : Nat} {s : Int} {n : Nat} (hf : IsFew L M i s n) (hno : n = 0 ∨ (0 < out ∧ out ≤ n + 1) ∨ ¬ Joins L M i k s t) : KeptR L M k t (fun a b => C a b ∨ (a = i ∧ b = s)) out := by
  refine ⟨h.ch, h.zero, fun a b m hc hch hj => ?_⟩
  rcases hc with hc | ⟨rfl, rfl⟩
  · exact h.low a b m hc hch hj
  · have hm := hf.2 m hch
    rcases hno with hz | ho | hnj
    · omega
    · omega
    · exact absurd hj hnj
theorem KeptR.new {C : Nat → Int → Prop} {out : Nat} (h : KeptR L M k t C out) {i : Nat} {s : Int} {n : Nat} (hf : IsFew L M i s n) (hk : k < M.length) (ht : inR M k t) (hik : i < k) (hn : 0 < n) (hlt : out = 0 ∨ n + 1 < out) (hj : Joins L M i k s t) : KeptR L M k t (fun a b => C a b ∨ (a = i ∧ b = s)) (n + 1) := by
  have hc : Chain0 L M i s n := by
    rcases hf.1 with h0 | ⟨_, hc⟩
    · omega
    · exact hc
  refine ⟨.inr ⟨by omega, Chain0.step hk ht hik hj hc⟩, fun h0 => by omega, fun a b m hcb hch hj2 => ?_⟩
  rcases hcb with hcb | ⟨rfl, rfl⟩
  · have := h.low a b m hcb hch hj2
    omega
  · have := hf.2 m hch
    omega
theorem KeptR.done {out : Nat} (h : KeptR L M k t (fun a s => a < k ∧ inR M a s) out) : IsFew L M k t out := by
  refine ⟨h.ch, fun m hm => ?_⟩
  cases hm with
  | first h0 hr => have := h.zero rfl; omega
  | step hk hr hik hj hc => exact h.low _ _ _ ⟨hik, hc.inR.1⟩ hc hj
def BestN (L : Int × Int) (M : List Mark) (n : Nat) : Prop := (n = 0 ∨ (0 < n ∧ ∃ t, Chain0 L M (M.length - 1) t n)) ∧ ∀ t m, Chain0 L M (M.length - 1) t m → 0 < n ∧ n ≤ m
theorem BestN.one {n m : Nat} (h : BestN L M n) (g : BestN L M m) : n = m := by
  rcases h.1 with h0 | ⟨h1, t, ht⟩
  · rcases g.1 with g0 | ⟨g1, u, hu⟩
    · omega
    · have := h.2 u m hu; omega
  · rcases g.1 with g0 | ⟨g1, u, hu⟩
    · have := g.2 t n ht; omega
    · have := g.2 t n ht; have := h.2 u m hu; omega
def RowOk (L : Int × Int) (M : List Mark) (k n : Nat) (row : List Int) : Prop := row.length = n ∧ ∀ j, j < n → ∃ m : Nat, row.getD j 0 = (m : Int) ∧ m ≤ M.length ∧ IsFew L M k ((M.getD k (0, 0, 0)).2.1 + (j : Int)) m
theorem Chain0.le {n : Nat} (h : Chain0 L M k t n) : n ≤ k + 1 := by
  induction h with
  | first => omega
  | step _ _ hik _ _ ih => omega
theorem IsFew.le {n : Nat} (h : IsFew L M k t n) (hk : k < M.length) : n ≤ M.length := by
  rcases h.1 with h0 | ⟨_, hc⟩
  · omega
  · have := hc.le; omega
theorem RowOk.push {n m : Nat} {row : List Int} (h : RowOk L M k n row) (hk : k < M.length) (hm : IsFew L M k ((M.getD k (0, 0, 0)).2.1 + (n : Int)) m) : RowOk L M k (n + 1) (row ++ [(m : Int)]) := by
  refine ⟨by simp [h.1], fun j hj => ?_⟩
  by_cases e : j = n
  · subst e
    refine ⟨m, ?_, hm.le hk, hm⟩
    rw [← h.1, getD_append_last]
  · obtain ⟨q, h1, h2⟩ := h.2 j (by omega)
    exact ⟨q, by rw [getD_append_lt (by rw [h.1]; omega)]; exact h1, h2⟩
end
end Go.Lq

