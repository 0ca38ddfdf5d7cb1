/- SpeedTwo is proved: for every input that can be read the law returns true, and each argument reads afterwards as it read before; nothing is asked of package variables. -/
import Derived.Test.YteimgikhanhgiaaV152
set_option linter.unusedSimpArgs false
set_option linter.unnecessarySimpa false
set_option linter.unusedVariables false
set_option linter.unusedSectionVars false
set_option maxRecDepth 100000
namespace Go.Lq
open Go
open Go.Proofs

theorem pairs_nil (H : AHeap) : Pairs H [] (.slice none 0 0) := (OwnP.nil H H).pairs
theorem fin_l2a {c : RCode} {n a b : Nat} {R : Value → AHeap → Prop} {e : Env} {H : AHeap} {id : Nat} {s : Value} (hp : e.getD a undef = .pointer (some ⟨id, 0, none⟩)) (h1 : H[id]? = some (.cells true 0 [s])) (h : R (.tuple #[.agg ⟨[s]⟩, e.getD b undef]) H) :
    Fin ⟨c, n, [.loadN 1 a, .tmp b]⟩ R .ret e H := fin_l2 (u := .agg ⟨[s]⟩) (by rw [hp]; exact n1_at h1) h
theorem store_a1 {H : AHeap} {id e : Nat} {x y : Value} (h : H[id]? = some (.cells true e [x])) (ha : isAtom y = true) : storeR 1 (.pointer (some ⟨id, 0, none⟩)) (.agg ⟨[y]⟩) H = some (undef, H.set id (.cells true e [y])) := store_all h rfl (by simp [ha]) rfl
theorem pushP_at {H : AHeap} {v : Value} {l : List (Int × Int)} {x : Int × Int} {i : Nat} {c : AObj} (h : H[i]? = some c) (hv : v = .slice none 0 0 ∨ idOf v ≠ i) : (pushPH H v l x)[i]? = some c := by
  have hi := (List.getElem?_eq_some_iff.1 h).1
  unfold pushPH
  rw [appH_at (by simp; omega) hv, List.getElem?_append_left hi]; exact h
theorem pushP_len {H : AHeap} {v : Value} {l : List (Int × Int)} {x : Int × Int} : (pushPH H v l x).length = H.length + 2 := by unfold pushPH; rw [appH_len]; simp
theorem OwnP.aside {H0 H : AHeap} {l : List (Int × Int)} {v : Value} (h : OwnP H0 H l v) {j : Nat} (hj : j < H0.length) : v = .slice none 0 0 ∨ idOf v ≠ j := by
  rcases h.2 with ⟨rfl, h0⟩ | ⟨id, rfl, h1, _, _⟩
  · exact .inl rfl
  · exact .inr (by show id ≠ j; omega)
theorem OwnP.set_ne {H0 H : AHeap} {l : List (Int × Int)} {v : Value} (h : OwnP H0 H l v) {j : Nat} (hj : v = .slice none 0 0 ∨ idOf v ≠ j) (c : AObj) : OwnP H0 (H.set j c) l v := by
  refine Own.set_ne h ?_ c
  rcases hj with rfl | hj
  · rcases h.2 with ⟨_, h0⟩ | ⟨id, e, _⟩
    · exact .inl h0
    · cases e
  · exact .inr hj
theorem OwnP.pushedL {H0 H : AHeap} {l : List (Int × Int)} {v : Value} (h : OwnP H0 H l v) (hx : H0.length ≤ H.length) (x : Int × Int) : OwnP H0 (pushPH H v l x) (l ++ [x]) (pushV H l.length) := by
  have := Own.appended (h.app [.cells true 2 [.int .i64 x.1, .int .i64 x.2]]) (m := 1) (cs := [.int .i64 x.1, .int .i64 x.2]) rfl (by omega) (by simp; omega)
  unfold OwnP
  simpa [pushV, pushPH, flatP] using this
theorem FewSt.push {H0 H F : AHeap} {a4 a7 idm a8 a9 idb base : Nat} {L : Int × Int} {M : List Mark} {v sv : Value} {m : Ents} {best : Int × Int} {l : List (Int × Int)} (h : FewSt H0 a4 a7 idm a8 a9 idb L M v m best H) (o : FewIds H0.length a4 a7 idm a8 a9 idb base)
    (ho : OwnP F H l sv) (hF : base ≤ F.length) (x : Int × Int) : FewSt H0 a4 a7 idm a8 a9 idb L M v m best (pushPH H sv l x) := by
  obtain ⟨o1, o2, o3, o4, o5, o6, o7⟩ := o
  obtain ⟨y, b1, b2, b4, b7, mp, b8, b9, bb⟩ := h
  have hw : OwnP H0 H l sv := ho.weaken (by omega)
  exact ⟨OwnP.ext hw y x, pushP_at b1 (ho.aside (by omega)), pushP_at b2 (ho.aside (by omega)), pushP_at b4 (ho.aside (by omega)), pushP_at b7 (ho.aside (by omega)), pushP_at mp (ho.aside (by omega)), pushP_at b8 (ho.aside (by omega)), pushP_at b9 (ho.aside (by omega)), pushP_at bb (ho.aside (by omega))⟩
theorem load_way2 {G : AHeap} {id : Nat} {w : Way} (h : G[id]? = some (.cells true 0 (wayC w))) : loadNR 2 (.pointer (some ⟨id, 1, none⟩)) G = some (.agg ⟨[.int .i64 w.2.1.1, .int .i64 w.2.1.2]⟩, G) := loadN_at h (by simp [wayC])
theorem fill_pair {a b : Int} : fillA [.int .i64 0, .int .i64 0] [(0, 2, .agg ⟨[.int .i64 a, .int .i64 b]⟩)] = some [.int .i64 a, .int .i64 b] := rfl
theorem none_chain {L : Int × Int} {M : List Mark} (h0 : 0 < M.length) (h : ∀ b, inR M 0 b → b < (M.getD 0 (0, 0, 0)).2.2 + 1 → tabK L M 0 b = none) (s : Int) (n : Nat) : ¬ Chain L M 0 s n := fun hc => by
  have hr := hc.inR
  exact (tabK_spec h0).2 (h s hr (by unfold inR at hr; omega)) n hc
theorem first_min {L : Int × Int} {M : List Mark} (h0 : 0 < M.length) {w : Way} (h : ∀ b' w', inR M 0 b' → b' < (M.getD 0 (0, 0, 0)).2.2 + 1 → tabK L M 0 b' = some w' → w.1 ≤ w'.1) (s : Int) (n : Nat) (hc : Chain L M 0 s n) : w.1 ≤ n := by
  have hr := hc.inR
  cases hw : tabK L M 0 s with
  | none => exact absurd hc ((tabK_spec h0).2 hw n)
  | some w' =>
    have a := h s w' hr (by unfold inR at hr; omega) hw
    have b := ((tabK_spec h0).1 w' hw).2 n hc
    omega
section
variable {H : AHeap} {L : Int × Int} {M : List Mark} {v : Value}
set_option maxHeartbeats 32000000 in
set_option maxRecDepth 100000 in
theorem fewest_c (hl : Tris H M v) (hb : M.length ≤ 1000000000) : ACall Go.Proofs.Try.prog 43 [evV L v] H fun w H' => Ext H H' ∧ ∃ s l e, w = .tuple #[.agg ⟨[s]⟩, .int .i64 e] ∧ Pairs H' l s ∧ FewRes L M l e := by
  (refine a43 ?_; simp only [n43, List.replicate, yq, yr, yt, yu]; first | refine Go.Lq.q1 ?_ | refine Go.Lq.q2 ?_ | refine Go.Lq.q6 ?_ | refine Go.Lq.q7 ?_ | refine Go.Lq.qh rfl ?_ | skip)
  obtain ⟨G, hG⟩ : ∃ G, G = H ++ [AObj.cells true 0 (evC L v)] ++ [AObj.cells true 0 [.slice none 0 0]] := ⟨_, rfl⟩
  have g0 : G[H.length]? = some (.cells true 0 (evC L v)) := by rw [hG]; simp
  have g1 : G[H.length + 1]? = some (.cells true 0 [.slice none 0 0]) := by rw [hG]; simp
  have xG : Ext H G := by rw [hG]; exact ((Ext.refl H).app _).app _
  have lG : G.length = H.length + 2 := by rw [hG]; simp
  (repeat (first | refine yv ?_ | (apply yd; simp (disch := first|exact zz|fail) only [go_sem, box_ev hl.atom]; with_reducible rfl)))
  (simp only [List.length_append, List.length_cons, List.length_nil, Nat.zero_add, Nat.add_assoc, Nat.reduceAdd])
  rw [← hG]
  clear hG
  (repeat (first | refine yw ?_ | ((first | apply yd | apply ye); simp (disch := first|exact zz|fail) only [go_sem, load_ev g0]; with_reducible rfl)))
  refine aops_call ((open_c (hl.ext xG) hb).mono fun w G2 ⟨hw, x2⟩ => ?_)
  subst hw
  have l2 := x2.len
  have hst : storeR 3 (.pointer (some ⟨G2.length, 0, none⟩)) (evV L v) (G2 ++ [.cells true 0 [.int .i64 0, .int .i64 0, .slice none 0 0]]) = some (undef, G2 ++ [.cells true 0 (evC L v)]) := store_newN (by simp [hl.atom, isAtom_int]) rfl rfl
  (repeat (first | refine yw ?_ | ((first | apply yd | apply ye); simp (disch := first|exact zz|fail) only [go_sem, hst]; with_reducible rfl)))
  have k4 : (G2 ++ [AObj.cells true 0 (evC L v)])[G2.length]? = some (.cells true 0 (evC L v)) := at_new
  have x3 := x2.app [AObj.cells true 0 (evC L v)]
  obtain ⟨a4, ha4⟩ : ∃ a4, G2.length = a4 := ⟨_, rfl⟩
  have l3 : (G2 ++ [AObj.cells true 0 (evC L v)]).length = a4 + 1 := by simp [ha4]
  rw [ha4] at k4 l2 ⊢
  generalize (G2 ++ [AObj.cells true 0 (evC L v)] : AHeap) = G3 at k4 x3 l3
  have xH3 := xG.trans x3
  have hl3 := hl.ext xH3
  have k0 := x3.cell g0
  have k1 := x3.cell g1
  clear hst
  (repeat (first | refine yw ?_ | ((first | apply yd | apply ye); simp (disch := first|exact zz|fail) only [go_sem, hl3.len, hl3.idx, hl3.load, load_at k0, evC]; with_reducible rfl)))
  (refine aops_call_to (sunless_c _ _) ?_)
  (refine yg ?_)
  (refine aops_call_to (sfirst_c (l := [_, _]) (Ints.last (l := [_, _]) 2) (by simp)) ?_)
  have e1 : firstErr [evErrL L M, (if decide ((2 : Int) ≤ (M.length : Int)) = true then 0 else 10)] = fewE L M := by
    unfold fewE
    have e0 : ((2 : Int) ≤ (M.length : Int)) = (2 ≤ M.length) := by simp; omega
    simp only [decide_eq_true_eq, e0]
  rw [e1]
  have x4 := x3.app [AObj.cells true 1 [.int .i64 (evErrL L M), .int .i64 (if decide ((2 : Int) ≤ (M.length : Int)) = true then 0 else 10)]]
  have k4 := at_app (N := [AObj.cells true 1 [.int .i64 (evErrL L M), .int .i64 (if decide ((2 : Int) ≤ (M.length : Int)) = true then 0 else 10)]]) k4
  have l4 : (G3 ++ [AObj.cells true 1 [.int .i64 (evErrL L M), .int .i64 (if decide ((2 : Int) ≤ (M.length : Int)) = true then 0 else 10)]]).length = a4 + 2 := by simp [l3]
  generalize (G3 ++ [AObj.cells true 1 [.int .i64 (evErrL L M), .int .i64 (if decide ((2 : Int) ≤ (M.length : Int)) = true then 0 else 10)]] : AHeap) = G4 at x4 k4 l4
  have xH4 := xG.trans x4
  have hl4 := hl.ext xH4
  have k0 := x4.cell g0
  have k1 := x4.cell g1
  by_cases hfe : fewE L M = 0
  rotate_left 1
  · have ee : fewErr L M = fewE L M := by unfold fewErr; rw [if_pos hfe]
    (repeat (first | refine yw ?_ | ((first | apply yd | apply ye); simp (disch := first|exact zz|fail) only [go_sem, dec_f hfe]; with_reducible rfl)))
    refine cond_f rfl ?_
    (repeat (first | refine yw ?_ | ((first | apply yd | apply ye); simp (disch := first|exact zz|fail) only [go_sem, dec_t (show fewE L M ≠ 0 from hfe)]; with_reducible rfl)))
    refine cond_t rfl ?_
    (repeat (first | refine yw ?_ | ((first | apply yd | apply ye); simp (disch := first|exact zz|fail) only [go_sem, fill_none, store_a1 (y := .slice none 0 0) k1 rfl]; with_reducible rfl)))
    exact fin_l2a rfl (get_set_self k1) ⟨xH4.set (by omega) _, _, [], _, rfl, pairs_nil _, .inl ⟨by rw [ee]; exact hfe, ee.symm, rfl⟩⟩
  obtain ⟨hk, h2⟩ := fewE_ok hfe
  have hlen := hk.len
  have hcw := containsM_c (H := G4) (g := 101) (ys := []) (p := wideB) hl4 hb (fun j J hj _ => wide_c (hk.t1 j hj) (hk.t2 j hj))
  (repeat (first | refine yw ?_ | ((first | apply yd | apply ye); simp (disch := first|exact zz|fail) only [go_sem, hl4.len, hl4.idx, hl4.load, load_at k0, evC, dec_t hfe]; with_reducible rfl)))
  (refine aops_call_to (hcw) ?_)
  cases hwd : (idxF wideB M 0 M.length).isSome with
  | true =>
    have ee : fewErr L M = 8 := by unfold fewErr; rw [if_neg (by rw [hfe]; decide), if_pos hwd]
    (refine yg ?_)
    refine cond_t rfl ?_
    (refine yg ?_)
    refine cond_t rfl ?_
    (repeat (first | refine yw ?_ | ((first | apply yd | apply ye); simp (disch := first|exact zz|fail) only [go_sem, fill_none, store_a1 (y := .slice none 0 0) k1 rfl]; with_reducible rfl)))
    exact fin_l2a rfl (get_set_self k1) ⟨xH4.set (by omega) _, _, [], _, rfl, pairs_nil _, .inl ⟨by rw [ee]; decide, ee.symm, rfl⟩⟩
  | false =>
  have ee : fewErr L M = 0 := by unfold fewErr; rw [if_neg (by rw [hfe]; decide), if_neg (by rw [hwd]; simp)]
  (refine yg ?_)
  refine cond_f rfl ?_
  (repeat (first | refine yw ?_ | ((first | apply yd | apply ye); simp (disch := first|exact zz|fail) only [go_sem, hfe]; with_reducible rfl)))
  refine cond_f rfl ?_
  obtain ⟨B, hB⟩ : ∃ B, B = G4 ++ [AObj.cells true 0 [.int .i64 ((M.length : Int) - 1)]] ++ [AObj.map []] ++ [AObj.cells true 0 [.map (some (a4 + 3))]] ++ [AObj.cells true 0 [.int .i64 0, .int .i64 0]] := ⟨_, rfl⟩
  have hgB : ∀ (i : Nat) (c : AObj), G4[i]? = some c → B[i]? = some c := fun i c h => by rw [hB]; exact at_app (at_app (at_app (at_app h)))
  have xB : Ext H B := by rw [hB]; exact (((xH4.app _).app _).app _).app _
  have lB : B.length = a4 + 6 := by rw [hB]; simp [l4]
  have n0 : B[a4 + 2]? = some (.cells true 0 [.int .i64 ((M.length : Int) - 1)]) := by rw [hB, ← l4]; simp
  have n1 : B[a4 + 3]? = some (.map []) := by rw [hB, show a4 + 3 = G4.length + 1 by omega]; simp
  have n2 : B[a4 + 4]? = some (.cells true 0 [.map (some (a4 + 3))]) := by rw [hB, show a4 + 4 = G4.length + 2 by omega]; simp
  have n3 : B[a4 + 5]? = some (.cells true 0 [.int .i64 0, .int .i64 0]) := by rw [hB, show a4 + 5 = G4.length + 3 by omega]; simp
  have b0 := hgB _ _ k0
  have b1 := hgB _ _ k1
  have b4 := hgB _ _ k4
  (repeat (first | refine yv ?_ | (apply yd; simp (disch := first|exact zz|fail) only [go_sem, hl4.len, hl4.idx, hl4.load, load_at k0, evC, store_newI, store_newM]; with_reducible rfl)))
  (simp only [List.length_append, List.length_cons, List.length_nil, Nat.zero_add, Nat.add_assoc, Nat.reduceAdd])
  rw [l4]
  simp only [Nat.add_assoc, Nat.reduceAdd]
  rw [← hB]
  clear hB hgB
  have hlB := hl.ext xB
  (repeat (first | refine yw ?_ | ((first | apply yd | apply ye); simp (disch := first|exact zz|fail) only [go_sem, load_at b0, evC]; with_reducible rfl)))
  refine aops_call ((backward_c (H := B) hl.atom).mono fun w G5 ⟨hw, hG5⟩ => ?_)
  subst hw
  have x5 : Ext B G5 := by rw [hG5]; exact (Ext.refl B).app _
  have c5 : G5[a4 + 6]? = some (.cells true 0 [v]) := by rw [hG5, ← lB]; exact at_new
  have l5 : G5.length = a4 + 7 := by rw [hG5]; simp [lB]
  rw [lB]
  clear hG5
  have o : FewIds H.length a4 (a4 + 2) (a4 + 3) (a4 + 4) (a4 + 5) (a4 + 6) (a4 + 7) := ⟨by omega, by omega, by omega, by omega, by omega, by omega, by omega⟩
  have hS5 : FewSt H a4 (a4 + 2) (a4 + 3) (a4 + 4) (a4 + 5) (a4 + 6) L M v [] (0, 0) G5 := ⟨xB.trans x5, x5.cell b0, x5.cell b1, x5.cell b4, x5.cell n0, x5.cell n1, x5.cell n2, x5.cell n3, c5⟩
  refine yx ?_
  refine awp_rangeA mo rfl (fun l h => by cases h) (back1_c (idb := a4 + 6) (M := M) (v := v) (by omega))
    (fun rest H' => ∃ i m best, rest = backM M i ∧ i ≤ M.length ∧ TabJ L M i m best ∧ FewSt H a4 (a4 + 2) (a4 + 3) (a4 + 4) (a4 + 5) (a4 + 6) L M v m best H')
    (fun _ _ => False) ?_ ?_ ?_ ?_ ?_ ?_ ?_
  · rintro rest H' c ⟨i, m, best, h1, h2, h3, h4⟩
    exact ⟨i, m, best, h1, h2, h3, h4.set o (by omega) _⟩
  · rintro x H' c h
    exact h.elim
  · rintro rest H' ⟨i, m, best, h1, h2, h3, h4⟩
    exact ⟨h4.bb, hl.ext h4.ext⟩
  · intro N
    exact ⟨M.length, [], (0, 0), rfl, Nat.le_refl _, ⟨fun h => by omega, fun h => ⟨MapAt.start (by omega) (Int.le_refl _), rfl⟩⟩, hS5.app N⟩
  · rintro a rest H1 ⟨i, m, best, h1, h2i, h3, h4⟩ hlt
    match i, h1 with
    | k + 1, h1 =>
    obtain ⟨rfl, rfl⟩ := List.cons.inj h1
    have hkl : k < M.length := by omega
    have h3 := h3.open
    obtain ⟨x, hx⟩ : ∃ x, M.getD k (0, 0, 0) = x := ⟨_, rfl⟩
    have t1 := hk.t1 k hkl
    have t2 := hk.t2 k hkl
    have t3 := hk.lohi k hkl
    have px := hk.pos k hkl
    have emp : mP M k = x.1 := by unfold mP; rw [hx]
    obtain ⟨n, hn⟩ : ∃ n, widthN M k = n := ⟨_, rfl⟩
    have hnx : (n : Int) = x.2.2 - x.2.1 + 1 := by rw [← hn, ← hx]; unfold widthN; rw [hx] at t3 ⊢; omega
    rw [hx] at t1 t2 t3 px h3 ⊢
    refine ⟨rfl, fun R Rb _ hR => ?_⟩
    simp only [assignParams, List.zip_cons_cons, List.zip_nil_left, List.foldl_cons, List.foldl_nil]
    have hstm : storeR 3 (.pointer (some ⟨H1.length, 0, none⟩)) (markV x) (H1 ++ [.cells true 0 [.int .i64 0, .int .i64 0, .int .i64 0]]) = some (undef, H1 ++ [.cells true 0 (markC x)]) := store_new3
    (repeat (first | refine yw ?_ | ((first | apply yd | apply ye); simp (disch := first|exact zz|fail) only [go_sem, hstm]; with_reducible rfl)))
    refine ⟨rfl, at_app hR, ?_⟩
    have hS := (h4.app [AObj.cells true 0 (markC x)]).set o (j := G5.length) (by omega) Rb
    have hRb : ((H1 ++ [AObj.cells true 0 (markC x)]).set G5.length Rb)[G5.length]? = some Rb := get_set_self (at_app hR)
    have c11 : ((H1 ++ [AObj.cells true 0 (markC x)]).set G5.length Rb)[H1.length]? = some (.cells true 0 (markC x)) := by rw [List.getElem?_set_ne (by omega)]; exact at_new
    obtain ⟨i11, h11⟩ : ∃ i11, H1.length = i11 := ⟨_, rfl⟩
    rw [h11] at c11 hlt ⊢
    generalize ((H1 ++ [AObj.cells true 0 (markC x)]).set G5.length Rb : AHeap) = Hb at hS hRb c11
    clear h4 hR hstm
    (repeat (first | refine yw ?_ | ((first | apply yd | apply ye); simp (disch := first|exact zz|fail) only [go_sem, load_at c11, markC]; with_reducible rfl)))
    refine awp_loop_n [false, true, true, false, true, false, false, true, true, true, true, true, true, false, false, false, false, false, false, false, false, false, false, false, false, false, false, false, false, false, false, false, false, false, false, false, false, false, false, false, false, false, false, false, false, false, false, false, false, false, false, false, false, false, false, false, false, false, false, false, false, false, false, false, false, false, false, false, false, false, false, false, false, false, false, false, false, false, false, false, false, false, false, false, false, false, false, false, false, false, false, false, false, false, false, false, false, false, false, false, false, false, false, false, false, false, false, false, false, false, false, false, false, false, false, false, false, false, false, false, false, false, false, false, false, false, false, false, false, false, false, false, false, false, false, false, false, false, false, false, false, false, false, false, false, false, false, false, false, false, false, false] n (fun q e H' => ∃ m best, e = [junk, .pointer (some ⟨H.length, 0, none⟩), .pointer (some ⟨H.length + 1, 0, none⟩), junk, .pointer (some ⟨a4, 0, none⟩), junk, junk, .pointer (some ⟨a4 + 2, 0, none⟩), .pointer (some ⟨a4 + 4, 0, none⟩), .pointer (some ⟨a4 + 5, 0, none⟩), .int .i64 (k : Int), .pointer (some ⟨i11, 0, none⟩), .int .i64 (x.2.1 + (q : Int)), junk, junk, junk, junk, junk, junk, junk, junk, junk, junk, junk, junk, junk, junk, junk, junk, junk, junk, junk, junk, junk, junk, junk, junk, junk, junk, junk, junk, junk, junk, junk, junk, junk, junk, junk, junk, junk, junk, junk, junk, junk, junk, junk, junk, junk, junk, junk, junk, junk, junk, junk, junk, junk, junk, junk, junk, junk, junk, junk, junk, junk, junk, junk, junk, junk, junk, junk, junk, junk, junk, junk, junk, junk, junk, junk, junk, junk, junk, junk, junk, junk, junk, junk, junk, junk, junk, junk, junk, junk, junk, junk, junk, junk, junk, junk, junk, junk, junk, junk, junk, junk, junk, junk, junk, junk, junk, junk, junk, junk, junk, junk, junk, junk, junk, junk, junk, junk, junk, junk, junk, junk, junk, junk, junk, junk, junk, junk, junk, junk, junk, junk, junk, junk, junk, junk, junk, junk, junk, junk] ∧
      TabI L M k (x.2.1 + (q : Int)) m best ∧ FewSt H a4 (a4 + 2) (a4 + 3) (a4 + 4) (a4 + 5) (a4 + 6) L M v m best H' ∧ H'[G5.length]? = some Rb ∧ H'[i11]? = some (.cells true 0 (markC x))) ?_ ?_
    · exact ⟨m, best, by simp [forget], by simpa using h3, hS, hRb, c11⟩
    rintro q e H2 hq ⟨m, best, rfl, hT, hS, hRb, c11⟩
    (repeat (first | refine yw ?_ | ((first | apply yd | apply ye); simp (disch := first|exact zz|fail) only [go_sem, load_at c11, markC]; with_reducible rfl)))
    refine cond_p rfl (fun hlt2 => ?_) (fun hge2 => ?_)
    rotate_left 1
    · have hqn : q = n := by omega
      subst hqn
      (refine yg ?_)
      refine rounded_n hRb ⟨k, m, best, rfl, by omega, ?_, hS⟩
      refine TabI.close ?_
      rw [hx]
      rw [show x.2.2 + 1 = x.2.1 + (q : Int) by omega]
      exact hT
    have hqn : q < n := by omega
    obtain ⟨t, ht⟩ : ∃ t, x.2.1 + (q : Int) = t := ⟨_, rfl⟩
    have hin : inR M k t := by unfold inR; rw [hx]; omega
    have ht2 : t + 1 = x.2.1 + ((q + 1 : Nat) : Int) := by omega
    rw [ht] at hT
    have lH2 : a4 + 7 ≤ H2.length ∧ G5.length < H2.length ∧ i11 < H2.length := by
      have q1 := (List.getElem?_eq_some_iff.1 hS.bb).1
      have q2 := (List.getElem?_eq_some_iff.1 hRb).1
      have q3 := (List.getElem?_eq_some_iff.1 c11).1
      omega
    (repeat (first | refine yv ?_ | (apply yd; simp (disch := first|exact zz|fail) only [go_sem, load_at c11, markC, ht, fill2i, store_new2]; with_reducible rfl)))
    have hS := hS.app [AObj.cells true 0 [.int .i64 x.1, .int .i64 t]]
    have hRb := at_app (N := [AObj.cells true 0 [.int .i64 x.1, .int .i64 t]]) hRb
    have c11 := at_app (N := [AObj.cells true 0 [.int .i64 x.1, .int .i64 t]]) c11
    have c13 : (H2 ++ [AObj.cells true 0 [.int .i64 x.1, .int .i64 t]])[H2.length]? = some (.cells true 0 [.int .i64 x.1, .int .i64 t]) := at_new
    obtain ⟨i13, h13⟩ : ∃ i13, H2.length = i13 := ⟨_, rfl⟩
    rw [h13] at c13 lH2 ⊢
    generalize (H2 ++ [AObj.cells true 0 [.int .i64 x.1, .int .i64 t]] : AHeap) = G6 at hS hRb c11 c13
    have hne : ∀ (c : AObj), (G6.set (a4 + 3) c)[G5.length]? = some Rb ∧ (G6.set (a4 + 3) c)[i11]? = some (.cells true 0 (markC x)) ∧ (G6.set (a4 + 3) c)[i13]? = some (.cells true 0 [.int .i64 x.1, .int .i64 t]) := fun c =>
      ⟨by rw [List.getElem?_set_ne (by omega)]; exact hRb, by rw [List.getElem?_set_ne (by omega)]; exact c11, by rw [List.getElem?_set_ne (by omega)]; exact c13⟩
    (repeat (first | refine yw ?_ | ((first | apply yd | apply ye); simp (disch := first|exact zz|fail) only [go_sem, load_at hS.b7]; with_reducible rfl)))
    refine cond_p rfl (fun hlast => ?_) (fun hnl => ?_)
    · have hkl1 : k + 1 = M.length := by omega
      have hw := tabK_last (L := L) hkl1 hin
      have hput : mapPutR [(0, false), (1, false)] (.map (some (a4 + 3))) (.agg ⟨[.int .i64 x.1, .int .i64 t]⟩) (.agg ⟨[.int .i64 1, .int .i64 0, .int .i64 0, .int .i64 0]⟩) G6 = some (undef, G6.set (a4 + 3) (.map (entsP (putP (x.1, t) (wayV (1, (0, 0), 0)) m)))) := map_put hS.mp x.1 t _
      have hT2 := hT.other hk hkl hin hw (by omega)
      rw [emp, ht2] at hT2
      obtain ⟨q1, q2, q3⟩ := hne (.map (entsP (putP (x.1, t) (wayV (1, (0, 0), 0)) m)))
      (repeat (first | refine yw ?_ | ((first | apply yd | apply ye); simp (disch := first|exact zz|fail) only [go_sem, load_at hS.b8, n2_at c13, hput, ht2]; with_reducible rfl)))
      exact ⟨by omega, _, best, by simp [forget], hT2, hS.put o _, q1, q2⟩
    have hkl1 : k + 1 < M.length := by omega
    have hl6 := hl.ext hS.ext
    have hsh : ACall Go.Proofs.Try.prog 104 [evV L v, .int .i64 k, .agg ⟨[.int .i64 (mP M k), .int .i64 t]⟩, .map (some (a4 + 3))] G6 fun w H' => w = .tuple #[wayV (outK L M k t), .bool (decide (0 < (outK L M k t).1))] ∧ H' = G6 :=
      shortest_c (T := tabN L M (M.length - (k + 1))) hl6 hk hkl hin hS.mp (fun a b h1 h2 h3 => by rw [tabK_of h2 (by omega) (by omega)]; exact hT.1.get a b h2 (.inl h1) h3) (fun a b w hw => tab_few (by omega) hlen hw)
    have hmid := tabK_mid (L := L) hkl1 hin
    obtain ⟨out, ho⟩ : ∃ out, outK L M k t = out := ⟨_, rfl⟩
    rw [ho] at hsh hmid
    rw [emp] at hsh
    have hst14 := store_newW (H := G6) (w := out) (vs := [.int .i64 0, .int .i64 0, .int .i64 0, .int .i64 0]) rfl
    (repeat (first | refine yw ?_ | ((first | apply yd | apply ye); simp (disch := first|exact zz|fail) only [go_sem, load_ev hS.b4, n2_at c13, load_at hS.b8]; with_reducible rfl)))
    (refine aops_call_to (hsh) ?_)
    (repeat (first | refine yv ?_ | (apply yd; simp (disch := first|exact zz|fail) only [go_sem, hst14]; with_reducible rfl)))
    have hS7 := hS.app [AObj.cells true 0 (wayC out)]
    have hRb := at_app (N := [AObj.cells true 0 (wayC out)]) hRb
    have c11 := at_app (N := [AObj.cells true 0 (wayC out)]) c11
    have l13 : i13 < G6.length := (List.getElem?_eq_some_iff.1 c13).1
    have c13 := at_app (N := [AObj.cells true 0 (wayC out)]) c13
    have c14 : (G6 ++ [AObj.cells true 0 (wayC out)])[G6.length]? = some (.cells true 0 (wayC out)) := at_new
    obtain ⟨i14, h14⟩ : ∃ i14, G6.length = i14 := ⟨_, rfl⟩
    rw [h14] at c14 l13 ⊢
    clear hne hst14
    generalize (G6 ++ [AObj.cells true 0 (wayC out)] : AHeap) = G7 at hS7 hRb c11 c13 c14
    refine cond_p (p := 0 < out.1) rfl (fun h0 => ?_) (fun h0 => ?_)
    rotate_left 1
    · rw [if_neg h0] at hmid
      have hT2 := hT.skip hk hkl hmid
      rw [ht2] at hT2
      (repeat (first | refine yw ?_ | ((first | apply yd | apply ye); simp (disch := first|exact zz|fail) only [go_sem, ht2]; with_reducible rfl)))
      exact ⟨by omega, m, best, by simp [forget], hT2, hS7, hRb, c11⟩
    rw [if_pos h0] at hmid
    obtain ⟨m', hm'⟩ : ∃ m', putP (x.1, t) (wayV out) m = m' := ⟨_, rfl⟩
    have hput : mapPutR [(0, false), (1, false)] (.map (some (a4 + 3))) (.agg ⟨[.int .i64 x.1, .int .i64 t]⟩) (wayV out) G7 = some (undef, G7.set (a4 + 3) (.map (entsP m'))) := by rw [← hm']; exact map_put hS7.mp x.1 t _
    have hS8 := hS7.put o m'
    have hRb := (show (G7.set (a4 + 3) (.map (entsP m')))[G5.length]? = some Rb by rw [List.getElem?_set_ne (by omega)]; exact hRb)
    have c11 := (show (G7.set (a4 + 3) (.map (entsP m')))[i11]? = some (.cells true 0 (markC x)) by rw [List.getElem?_set_ne (by omega)]; exact c11)
    have d13 := (show (G7.set (a4 + 3) (.map (entsP m')))[i13]? = some (.cells true 0 [.int .i64 x.1, .int .i64 t]) by rw [List.getElem?_set_ne (by omega)]; exact c13)
    have d14 := (show (G7.set (a4 + 3) (.map (entsP m')))[i14]? = some (.cells true 0 (wayC out)) by rw [List.getElem?_set_ne (by omega)]; exact c14)
    (repeat (first | refine yv ?_ | (apply yd; simp (disch := first|exact zz|fail) only [go_sem, load_at hS7.b8, n2_at c13, load_way c14, hput]; with_reducible rfl)))
    generalize (G7.set (a4 + 3) (.map (entsP m')) : AHeap) = G8 at hS8 hRb c11 d13 d14
    obtain ⟨og, hog, hcase⟩ : ∃ og : Option Way, getP m' best = og.map wayV ∧ ((k ≠ 0 ∧ TabI L M k (t + 1) m' best) ∨ (k = 0 ∧ ((og = none ∧ TabI L M k (t + 1) m' (x.1, t)) ∨ ∃ u : Way, og = some u ∧ best.1 = x.1 ∧ (out.1 < u.1 → TabI L M k (t + 1) m' (x.1, t)) ∧ (¬ out.1 < u.1 → TabI L M k (t + 1) m' best)))) := by
      by_cases hk0 : k = 0
      · subst hk0
        obtain ⟨og, h1, h2⟩ := hT.first hk (by omega) hin hmid
        rw [emp, hm'] at h1 h2
        exact ⟨og, h1, .inr ⟨rfl, h2⟩⟩
      · have h2 := hT.other hk hkl hin hmid hk0
        rw [emp, hm'] at h2
        obtain ⟨og, h1⟩ := h2.1.any best
        exact ⟨og, h1, .inl ⟨hk0, h2⟩⟩
    have hst16 := store_newW (H := G8) (w := og.getD zeroW) (vs := [.int .i64 0, .int .i64 0, .int .i64 0, .int .i64 0]) rfl
    (repeat (first | refine yv ?_ | (apply yd; simp (disch := first|exact zz|fail) only [go_sem, load_at hS8.b8, n2_at hS8.b9, get_way hS8.mp hog, hst16]; with_reducible rfl)))
    have hS9 := hS8.app [AObj.cells true 0 (wayC (og.getD zeroW))]
    have hRb := at_app (N := [AObj.cells true 0 (wayC (og.getD zeroW))]) hRb
    have c11 := at_app (N := [AObj.cells true 0 (wayC (og.getD zeroW))]) c11
    have d13 := at_app (N := [AObj.cells true 0 (wayC (og.getD zeroW))]) d13
    have d14 := at_app (N := [AObj.cells true 0 (wayC (og.getD zeroW))]) d14
    have d16 : (G8 ++ [AObj.cells true 0 (wayC (og.getD zeroW))])[G8.length]? = some (.cells true 0 (wayC (og.getD zeroW))) := at_new
    obtain ⟨i16, h16⟩ : ∃ i16, G8.length = i16 := ⟨_, rfl⟩
    rw [h16] at d16 ⊢
    clear hst16 hput
    generalize (G8 ++ [AObj.cells true 0 (wayC (og.getD zeroW))] : AHeap) = G9 at hS9 hRb c11 d13 d14 d16
    have better : TabI L M k (t + 1) m' (x.1, t) → ∃ m best, ([junk, .pointer (some ⟨H.length, 0, none⟩)] : List Value) = [junk, .pointer (some ⟨H.length, 0, none⟩)] ∧ TabI L M k (x.2.1 + ((q + 1 : Nat) : Int)) m best ∧ FewSt H a4 (a4 + 2) (a4 + 3) (a4 + 4) (a4 + 5) (a4 + 6) L M v m best (G9.set (a4 + 5) (.cells true 0 [.int .i64 x.1, .int .i64 t])) ∧ (G9.set (a4 + 5) (.cells true 0 [.int .i64 x.1, .int .i64 t]))[G5.length]? = some Rb ∧ (G9.set (a4 + 5) (.cells true 0 [.int .i64 x.1, .int .i64 t]))[i11]? = some (.cells true 0 (markC x)) := fun hT2 =>
      ⟨m', (x.1, t), rfl, ht2 ▸ hT2, hS9.setBest o (x.1, t), by rw [List.getElem?_set_ne (by omega)]; exact hRb, by rw [List.getElem?_set_ne (by omega)]; exact c11⟩
    rcases hcase with ⟨hk0, hT2⟩ | ⟨hk0, ⟨rfl, hT2⟩ | ⟨u, rfl, hb1, hT2, hT3⟩⟩
    · (repeat (first | refine yw ?_ | ((first | apply yd | apply ye); simp (disch := first|exact zz|fail) only [go_sem, dec_f (show ¬ (k : Int) = 0 by omega)]; with_reducible rfl)))
      refine cond_f rfl ?_
      (repeat (first | refine yw ?_ | ((first | apply yd | apply ye); simp (disch := first|exact zz|fail) only [go_sem, ht2]; with_reducible rfl)))
      exact ⟨by omega, m', best, by simp [forget], ht2 ▸ hT2, hS9, hRb, c11⟩
    · obtain ⟨m2, best2, _, r1, r2, r3, r4⟩ := better hT2
      (repeat (first | refine yw ?_ | ((first | apply yd | apply ye); simp (disch := first|exact zz|fail) only [go_sem, dec_t (show (k : Int) = 0 by omega)]; with_reducible rfl)))
      refine cond_t rfl ?_
      (repeat (first | refine yw ?_ | ((first | apply yd | apply ye); simp (disch := first|exact zz|fail) only [go_sem, n2_at d13, store_b2 hS9.b9, ht2]; with_reducible rfl)))
      exact ⟨by omega, m2, best2, by simp [forget], r1, r2, r3, r4⟩
    · have d16' : G9[i16]? = some (.cells true 0 (wayC u)) := d16
      by_cases hwu : out.1 < u.1
      · obtain ⟨m2, best2, _, r1, r2, r3, r4⟩ := better (hT2 hwu)
        (repeat (first | refine yw ?_ | ((first | apply yd | apply ye); simp (disch := first|exact zz|fail) only [go_sem, dec_t (show (k : Int) = 0 by omega), load_at hS9.b9, load_at c11, markC, hb1, load_at d14, load_at d16', wayC, dec_t (show (out.1 : Int) < (u.1 : Int) by omega)]; with_reducible rfl)))
        refine cond_t rfl ?_
        (repeat (first | refine yw ?_ | ((first | apply yd | apply ye); simp (disch := first|exact zz|fail) only [go_sem, n2_at d13, store_b2 hS9.b9, ht2]; with_reducible rfl)))
        exact ⟨by omega, m2, best2, by simp [forget], r1, r2, r3, r4⟩
      · (repeat (first | refine yw ?_ | ((first | apply yd | apply ye); simp (disch := first|exact zz|fail) only [go_sem, dec_t (show (k : Int) = 0 by omega), load_at hS9.b9, load_at c11, markC, hb1, load_at d14, load_at d16', wayC, dec_f (show ¬ (out.1 : Int) < (u.1 : Int) by omega)]; with_reducible rfl)))
        refine cond_f rfl ?_
        (repeat (first | refine yw ?_ | ((first | apply yd | apply ye); simp (disch := first|exact zz|fail) only [go_sem, ht2]; with_reducible rfl)))
        exact ⟨by omega, m', best, by simp [forget], ht2 ▸ hT3 hwu, hS9, hRb, c11⟩
  · rintro H' ⟨i, m, best, h1, h2i, h3, h4⟩
    match i, h1 with
    | 0, _ =>
    obtain ⟨hM, hBs⟩ := h3.1 rfl
    clear h3 x5 c5 l5 hS5 n0 n1 n2 n3 b0 b1 b4 xB lB hlB
    have hl9 := hl.ext h4.ext
    rcases hBs with ⟨e1, e2⟩ | ⟨b, w, e1, e2, e3, e4, e5⟩
    · have hg0 : getP m best = (none : Option Way).map wayV := by
        rw [e1]
        cases hp : getP m (0, 0) with
        | none => rfl
        | some x =>
          obtain ⟨k', b, e3, hk', hc, hrb⟩ := hM.only (0, 0) (by rw [hp]; simp)
          have hb1 : (0 : Int) = mP M k' := (Prod.mk.inj e3).1
          have p0 := hk.pos 0 (by omega)
          rcases hc with hc | ⟨rfl, hc⟩
          · have := hk.lt hc hk'
            unfold mP at hb1; omega
          · have := hM.get 0 b (by omega) (.inr ⟨rfl, hc⟩) hrb
            rw [← e3, hp, e2 b hrb hc] at this; cases this
      have hst := store_newW (H := H') (w := zeroW) (vs := [.int .i64 0, .int .i64 0, .int .i64 0, .int .i64 0]) rfl
      have hg1 := get_way h4.mp hg0
      (repeat (first | refine yw ?_ | ((first | apply yd | apply ye); simp (disch := first|exact zz|fail) only [go_sem, load_at h4.b8, n2_at h4.b9, hg1, Option.getD_none, hst]; with_reducible rfl)))
      refine cond_t rfl ?_
      have k1 := at_app (N := [AObj.cells true 0 (wayC zeroW)]) h4.b2
      (repeat (first | refine yw ?_ | ((first | apply yd | apply ye); simp (disch := first|exact zz|fail) only [go_sem, fill_none, store_a1 (y := .slice none 0 0) k1 rfl]; with_reducible rfl)))
      exact fin_l2a rfl (get_set_self k1) ⟨(h4.ext.app _).set (by omega) _, _, [], _, rfl, pairs_nil _, .inr (.inl ⟨ee, rfl, rfl, none_chain (by omega) e2⟩)⟩
    have hw12 := ((tabK_spec (show 0 < M.length by omega)).1 w e4).1.few
    have hg0 : getP m best = (some w).map wayV := by rw [e1, hM.get 0 b (by omega) (.inr ⟨rfl, e3⟩) e2, e4]
    have hst := store_newW (H := H') (w := w) (vs := [.int .i64 0, .int .i64 0, .int .i64 0, .int .i64 0]) rfl
    have hg1 := get_way h4.mp hg0
    subst e1
    (repeat (first | refine yv ?_ | (apply yd; simp (disch := first|exact zz|fail) only [go_sem, load_at h4.b8, n2_at h4.b9, hg1, Option.getD_some, hst]; with_reducible rfl)))
    have hS := h4.app [AObj.cells true 0 (wayC w)]
    have c18 : (H' ++ [AObj.cells true 0 (wayC w)])[H'.length]? = some (.cells true 0 (wayC w)) := at_new
    have li : a4 + 7 ≤ H'.length := (List.getElem?_eq_some_iff.1 h4.bb).1
    obtain ⟨i18, h18⟩ : ∃ i18, H'.length = i18 := ⟨_, rfl⟩
    have lF : (H' ++ [AObj.cells true 0 (wayC w)]).length = i18 + 1 := by simp [h18]
    rw [h18] at c18 li ⊢
    clear h4 hst hg1
    generalize (H' ++ [AObj.cells true 0 (wayC w)] : AHeap) = F at hS c18 lF
    have hl10 := hl.ext hS.ext
    have hm0 := (hl10.load (Ext.refl F) (i := 0) (by omega)).2.2.2.2.2.2.2.1
    have hf0 := (hl10.load (Ext.refl F) (i := 0) (by omega)).2.2.1
    have hix := hl10.idx (H' := F) (i := 0) (k := .i64) (by omega) (by omega)
    rw [show ((0 : Int).toNat * 3) = 0 * 3 from rfl] at hix
    (repeat (first | refine yw ?_ | ((first | apply yd | apply ye); simp (disch := first|exact zz|fail) only [go_sem, load_at hS.b9, load_at hS.b1, evC, hix, hf0, hm0]; with_reducible rfl)))
    refine cond_f rfl ?_
    have hsl : ∀ J : AHeap, storeR 1 (.pointer (some ⟨J.length, 0, none⟩)) (.agg ⟨[.slice (some ⟨i18 + 1, 0, none⟩) 1 1]⟩) (J ++ [.cells true 0 [.slice none 0 0]]) = some (undef, J ++ [.cells true 0 [.slice (some ⟨i18 + 1, 0, none⟩) 1 1]]) := fun J => store_newA rfl
    (repeat (first | refine yv ?_ | (apply yd; simp (disch := first|exact zz|fail) only [go_sem, n2_at hS.b9, fill_pair, fillA_slice, lF, hsl]; with_reducible rfl)))
    obtain ⟨F2, hF2⟩ : ∃ F2, F2 = F ++ [AObj.cells true 2 [.int .i64 (mP M 0), .int .i64 b]] ++ [AObj.cells true 0 [.slice (some ⟨i18 + 1, 0, none⟩) 1 1]] := ⟨_, rfl⟩
    have hS2 : FewSt H a4 (a4 + 2) (a4 + 3) (a4 + 4) (a4 + 5) (a4 + 6) L M v m (mP M 0, b) F2 := by rw [hF2]; exact (hS.app _).app _
    have c18 : F2[i18]? = some (.cells true 0 (wayC w)) := by rw [hF2]; exact at_app (at_app c18)
    have c19 : F2[i18 + 1]? = some (.cells true 2 [.int .i64 (mP M 0), .int .i64 b]) := by rw [hF2, ← lF]; exact at_app at_new
    have c20 : F2[i18 + 2]? = some (.cells true 0 [.slice (some ⟨i18 + 1, 0, none⟩) 1 1]) := by rw [hF2, show i18 + 2 = F.length + 1 by omega]; simp
    have hown : OwnP F F2 [(mP M 0, b)] (.slice (some ⟨i18 + 1, 0, none⟩) 1 1) := ⟨rfl, .inr ⟨i18 + 1, rfl, by omega, Nat.one_pos, c19⟩⟩
    try (simp only [List.length_append, List.length_cons, List.length_nil, Nat.zero_add, Nat.add_assoc, Nat.reduceAdd])
    try simp only [lF, Nat.add_assoc, Nat.reduceAdd]
    rw [← hF2]
    clear hF2 c19 hsl
    refine awp_loop_n [false, true, true, false, false, false, false, false, true, false, false, false, false, false, false, false, false, false, true, false, true, false, false, false, false, false, false, false, false, false, false, false, false, false, false, false, false, false, false, false, false, false, false, false, false, false, false, false, false, false, false, false, false, false, false, false, false, false, false, false, false, false, false, false, false, false, false, false, false, false, false, false, false, false, false, false, false, false, false, false, false, false, false, false, false, false, false, false, false, false, false, false, false, false, false, false, false, false, false, false, false, false, false, false, false, false, false, false, false, false, false, false, false, false, false, false, false, false, false, false, false, false, false, false, false, false, false, false, false, false, false, false, false, false, false, false, false, false, false, false, false, false, false, false, false, false, false, false, false, false, false, false] (w.1 - 1) (fun j e J => ∃ k c u pre sv, e = [junk, .pointer (some ⟨H.length, 0, none⟩), .pointer (some ⟨H.length + 1, 0, none⟩), junk, junk, junk, junk, junk, .pointer (some ⟨a4 + 4, 0, none⟩), junk, junk, junk, junk, junk, junk, junk, junk, junk, .pointer (some ⟨i18, 0, none⟩), junk, .pointer (some ⟨i18 + 2, 0, none⟩), junk, junk, junk, junk, junk, junk, junk, junk, junk, junk, junk, junk, junk, junk, junk, junk, junk, junk, junk, junk, junk, junk, junk, junk, junk, junk, junk, junk, junk, junk, junk, junk, junk, junk, junk, junk, junk, junk, junk, junk, junk, junk, junk, junk, junk, junk, junk, junk, junk, junk, junk, junk, junk, junk, junk, junk, junk, junk, junk, junk, junk, junk, junk, junk, junk, junk, junk, junk, junk, junk, junk, junk, junk, junk, junk, junk, junk, junk, junk, junk, junk, junk, junk, junk, junk, junk, junk, junk, junk, junk, junk, junk, junk, junk, junk, junk, junk, junk, junk, junk, junk, junk, junk, junk, junk, junk, junk, junk, junk, junk, junk, junk, junk, junk, junk, junk, junk, junk, junk, junk, junk, junk, junk, junk, junk, junk, junk, junk, junk, junk, junk] ∧
      k < M.length ∧ tabK L M k c = some u ∧ u.1 + j = w.1 ∧ pre.length = j ∧ (∀ l, ChainL L M k c l → ChainL L M 0 b (pre ++ l)) ∧ FewSt H a4 (a4 + 2) (a4 + 3) (a4 + 4) (a4 + 5) (a4 + 6) L M v m (mP M 0, b) J ∧ J[i18]? = some (.cells true 0 (wayC u)) ∧ J[i18 + 2]? = some (.cells true 0 [sv]) ∧ OwnP F J (pre ++ [(mP M k, c)]) sv ∧ idOf sv ≠ i18 + 2 ∧ i18 + 2 < J.length) ?_ ?_
    · exact ⟨0, b, w, [], _, by simp [forget], by omega, e4, rfl, rfl, fun l h => h, hS2, c18, c20, hown, by show i18 + 1 ≠ i18 + 2; omega, (List.getElem?_eq_some_iff.1 c20).1⟩
    clear hS2 c18 c20 hown
    rintro j e J hj ⟨k, c, u, pre, sv, rfl, hkl, hu, huj, hpl, hch, hS3, c18, c20, hown, hid, hlJ⟩
    have hu0 := ((tabK_spec hkl).1 u hu).1.lt.2
    have hpl2 : (pre ++ [(mP M k, c)]).length = j + 1 := by simp [hpl]
    (repeat (first | refine yw ?_ | ((first | apply yd | apply ye); simp (disch := first|exact zz|fail) only [go_sem, load_at c18, wayC]; with_reducible rfl)))
    refine cond_p (p := (1 : Int) < (u.1 : Int)) rfl (fun hlt => ?_) (fun hge => ?_)
    rotate_left 1
    · obtain ⟨hk1, hin⟩ := tab_one hkl hu (by omega)
      have hfin := hch _ (ChainL.last hk1 hin)
      have k1 := hS3.b2
      have hsv : isAtom sv = true := hown.pairs.atom
      (repeat (first | refine yw ?_ | ((first | apply yd | apply ye); simp (disch := first|exact zz|fail) only [go_sem, n1_at c20, store_a1 (y := sv) k1 hsv]; with_reducible rfl)))
      refine fin_l2a rfl (get_set_self k1) ⟨hS3.ext.set (by omega) _, sv, pre ++ [(mP M k, c)], 0, rfl, (hown.set_ne (hown.aside (by omega)) _).pairs, .inr (.inr ⟨ee, rfl, b, hfin, fun s' n hc => ?_⟩)⟩
      have := first_min (by omega) e5 s' n hc
      omega
    obtain ⟨a, d, w', n1, n2, n3, n4, n5, n6, n7⟩ := tab_next hkl hu (by omega)
    have en1 : u.2.1.1 = mP M a := by rw [n5]
    have en2 : u.2.1.2 = d := by rw [n5]
    have hgw : getP m (mP M a, d) = (some w').map wayV := by
      rw [hM.get a d n2 ?_ n3, n6]
      by_cases ha : a = 0
      · omega
      · exact .inl (by omega)
    have hpush := hown.push (by rw [hpl2]; omega) (mP M a) d
    have hlF : F.length ≤ J.length := by omega
    have own2 := hown.pushedL hlF (mP M a, d)
    have hasd : ∀ i, i < i18 + 1 → sv = .slice none 0 0 ∨ idOf sv ≠ i := fun i hi => hown.aside (by omega)
    have p20 := pushP_at (l := pre ++ [(mP M k, c)]) (x := (mP M a, d)) c20 (.inr hid)
    have p18 := pushP_at (l := pre ++ [(mP M k, c)]) (x := (mP M a, d)) c18 (hasd _ (by omega))
    have hst20 := store_b1 (y := pushV J (pre ++ [(mP M k, c)]).length) p20 rfl rfl
    rw [hpl2] at hpush own2 hst20
    have hS4 := (hS3.push o hown (by omega) (mP M a, d)).set o (j := i18 + 2) (by omega) (.cells true 0 [pushV J (j + 1)])
    have q18 := (show ((pushPH J sv (pre ++ [(mP M k, c)]) (mP M a, d)).set (i18 + 2) (.cells true 0 [pushV J (j + 1)]))[i18]? = some (.cells true 0 (wayC u)) by rw [List.getElem?_set_ne (by omega)]; exact p18)
    have q20 := (show ((pushPH J sv (pre ++ [(mP M k, c)]) (mP M a, d)).set (i18 + 2) (.cells true 0 [pushV J (j + 1)]))[i18 + 2]? = some (.cells true 0 [pushV J (j + 1)]) from get_set_self p20)
    have own3 := own2.set_ne (j := i18 + 2) (.inr (by show J.length + 1 ≠ i18 + 2; omega)) (.cells true 0 [pushV J (j + 1)])
    have l4' : ((pushPH J sv (pre ++ [(mP M k, c)]) (mP M a, d)).set (i18 + 2) (.cells true 0 [pushV J (j + 1)])).length = J.length + 2 := by rw [List.length_set, pushP_len]
    (repeat (first | refine yv ?_ | (apply yd; simp (disch := first|exact zz|fail) only [go_sem, load1 c20, load_way2 c18, en1, en2, fill_pair, hpush, hst20]; with_reducible rfl)))
    generalize ((pushPH J sv (pre ++ [(mP M k, c)]) (mP M a, d)).set (i18 + 2) (.cells true 0 [pushV J (j + 1)]) : AHeap) = J2 at hS4 q18 q20 own3 l4'
    have hst18 := store_atW (w := w') q18
    (repeat (first | refine yw ?_ | ((first | apply yd | apply ye); simp (disch := first|exact zz|fail) only [go_sem, load_at hS4.b8, load_way2 q18, en1, en2, get_way1 hS4.mp hgw, Option.getD_some, hst18]; with_reducible rfl)))
    refine ⟨by omega, a, d, w', pre ++ [(mP M k, c)], pushV J (j + 1), by simp [forget], n2, n6, by omega, hpl2, fun l hl => ?_, hS4.set o (by omega) _, get_set_self q18, ?_, own3.set_ne (.inr ?_) _, ?_, ?_⟩
    · rw [List.append_assoc]
      exact hch _ (ChainL.step ((tabK_spec hkl).1 u hu).1.inR n1 n4 hl)
    · rw [List.getElem?_set_ne (by omega)]; exact q20
    · show J.length + 1 ≠ i18; omega
    · show J.length + 1 ≠ i18 + 2; omega
    · rw [List.length_set]; omega
  · rintro x H' hx h
    exact h.elim
end
end Go.Lq

namespace Go.Lq
open Go
open Go.Proofs

def mapX : List (Int × Int) := [(0, 0), (10, 100), (20, 220)]
def evX : List Mark := [(0, 0, 0), (10, 90, 130), (20, 150, 210)]
def bentX : List Mark := [(0, 0, 0), (10, 90, 92), (20, 200, 204)]
theorem posX : posAtL mapX 105 = ((666, 667), 0) := by decide +kernel
theorem encX : encAtL (8, 12) evX 10 = ((90, 120), 0) := by decide +kernel
theorem wowX : wowL mapX = ((10, 1), 1, 0) := by decide +kernel
theorem fewX : fewErr (8, 12) bentX = 0 := by decide +kernel
theorem bentChain : Chain (8, 12) bentX 0 0 3 :=
  .step ⟨by decide, by decide⟩ (k := 1) (t := 90) (by decide) ⟨by decide, fun j a b => by omega⟩
    (.step ⟨by decide, by decide⟩ (k := 2) (t := 204) (by decide) ⟨by decide, fun j a b => by omega⟩ (.last rfl ⟨by decide, by decide⟩))
theorem bentRes {l : List (Int × Int)} {e : Int} (h : FewRes (8, 12) bentX l e) : e = 0 ∧ l.length = 3 := by
  rcases h with ⟨h, _⟩ | ⟨_, _, _, h⟩ | ⟨_, h, s, hc, hm⟩
  · exact absurd fewX h
  · exact absurd bentChain (h 0 3)
  · refine ⟨h, ?_⟩
    have h3 := hm 0 3 bentChain
    cases hc with
    | last hi _ => cases hi
    | @step _ k _ t l hr hik hj hc =>
      cases hc with
      | last hi hr2 =>
        have hi : k + 1 = 3 := hi
        obtain rfl : k = 2 := by omega
        have hm1 : meetsB ((0, s), (20, t)) (10, 90, 92) = true := hj.meets 1 (by decide) (by decide)
        have hm2 : (90 : Int) * (20 - 0) ≤ s * (20 - 0) + (t - s) * (10 - 0) ∧ s * (20 - 0) + (t - s) * (10 - 0) ≤ 92 * (20 - 0) := of_decide_eq_true hm1
        have r1 : (0 : Int) ≤ s ∧ s ≤ 0 := hr
        have r2 : (200 : Int) ≤ t ∧ t ≤ 204 := hr2
        omega
      | step hr2 hik2 hj2 hc2 =>
        have := hc2.chain.lt.2
        simp only [List.length_cons] at h3 ⊢
        omega
theorem fbt : (false != true) = true := rfl
section
variable {H : AHeap}
theorem map0_c : ACall Go.Proofs.Try.prog 69 [] H fun w H' => ∃ s, w = .agg ⟨[s]⟩ ∧ Pairs H' mapX s ∧ Ext H H' := by
  (refine a69 ?_; simp only [n69, List.replicate, yq, yr, yt, yu]; first | refine q1 ?_ | refine q2 ?_ | refine q6 ?_ | refine q7 ?_ | refine qh rfl ?_ | skip)
  have g0 : (H ++ [AObj.cells true 0 [.slice none 0 0]])[H.length]? = some (.cells true 0 [.slice none 0 0]) := at_new
  have xG : Ext H (H ++ [AObj.cells true 0 [.slice none 0 0]]) := (Ext.refl H).app _
  (refine yh ?_)
  generalize (H ++ [AObj.cells true 0 [.slice none 0 0]] : AHeap) = G at g0 xG
  have hf : fillA [.int .i64 0, .int .i64 0, .int .i64 0, .int .i64 0, .int .i64 0, .int .i64 0] [(0, 2, .agg ⟨[.int .i64 0, .int .i64 0]⟩), (2, 2, .agg ⟨[.int .i64 10, .int .i64 100]⟩), (4, 2, .agg ⟨[.int .i64 20, .int .i64 220]⟩)] = some (flatP mapX) := rfl
  have hm : mkSliceL 2 3 (some (flatP mapX)) G = some (.slice (some ⟨G.length, 0, none⟩) 3 3, G ++ [.cells true 2 (flatP mapX)]) := mkSliceL_some rfl
  have k0 := at_app (N := [AObj.cells true 2 (flatP mapX)]) g0
  have hP : Pairs (G ++ [AObj.cells true 2 (flatP mapX)]) mapX (.slice (some ⟨G.length, 0, none⟩) 3 3) := Pairs.last (l := mapX) 3
  have hst := store_a1 (y := .slice (some ⟨G.length, 0, none⟩) 3 3) k0 rfl
  (repeat (first | refine yw ?_ | ((first | apply yd | apply ye); simp (disch := first|exact zz|fail) only [go_sem, fill_none, fill2i, hf, hm, fillA_slice, hst]; with_reducible rfl)))
  refine fin_l1 (u := .agg ⟨[.slice (some ⟨G.length, 0, none⟩) 3 3]⟩) (n1_at (get_set_self k0)) ⟨_, rfl, ?_, (xG.app _).set (Nat.le_refl _) _⟩
  have hl := (List.getElem?_eq_some_iff.1 g0).1
  exact Sl.of (e := 2) (o := true) (by rw [List.getElem?_set_ne (by omega)]; exact at_new) rfl
theorem ev0_c : ACall Go.Proofs.Try.prog 70 [] H fun w H' => ∃ s, w = evV (8, 12) s ∧ Tris H' evX s ∧ Ext H H' := by
  (refine a70 ?_; simp only [n70, List.replicate, yq, yr, yt, yu]; first | refine q1 ?_ | refine q2 ?_ | refine q6 ?_ | refine q7 ?_ | refine qh rfl ?_ | skip)
  have g0 : (H ++ [AObj.cells true 0 [.int .i64 0, .int .i64 0, .slice none 0 0]])[H.length]? = some (.cells true 0 [.int .i64 0, .int .i64 0, .slice none 0 0]) := at_new
  have xG : Ext H (H ++ [AObj.cells true 0 [.int .i64 0, .int .i64 0, .slice none 0 0]]) := (Ext.refl H).app _
  (refine yh ?_)
  generalize (H ++ [AObj.cells true 0 [.int .i64 0, .int .i64 0, .slice none 0 0]] : AHeap) = G at g0 xG
  have hf1 : ∀ a b c : Int, fillA [.int .i64 0, .int .i64 0, .int .i64 0] [(0, 1, .int .i64 a), (1, 2, .agg ⟨[.int .i64 b, .int .i64 c]⟩)] = some [.int .i64 a, .int .i64 b, .int .i64 c] := fun _ _ _ => rfl
  have hf : fillA [.int .i64 0, .int .i64 0, .int .i64 0, .int .i64 0, .int .i64 0, .int .i64 0, .int .i64 0, .int .i64 0, .int .i64 0] [(0, 3, .agg ⟨[.int .i64 0, .int .i64 0, .int .i64 0]⟩), (3, 3, .agg ⟨[.int .i64 10, .int .i64 90, .int .i64 130]⟩), (6, 3, .agg ⟨[.int .i64 20, .int .i64 150, .int .i64 210]⟩)] = some (flat3 evX) := rfl
  have hm : mkSliceL 3 3 (some (flat3 evX)) G = some (.slice (some ⟨G.length, 0, none⟩) 3 3, G ++ [.cells true 3 (flat3 evX)]) := mkSliceL_some rfl
  have hf2 : fillA [.int .i64 0, .int .i64 0, .slice none 0 0] [(0, 2, .agg ⟨[.int .i64 8, .int .i64 12]⟩), (2, 1, .slice (some ⟨G.length, 0, none⟩) 3 3)] = some (evC (8, 12) (.slice (some ⟨G.length, 0, none⟩) 3 3)) := rfl
  have k0 := at_app (N := [AObj.cells true 3 (flat3 evX)]) g0
  have hst := store_all (n := 3) (us := evC (8, 12) (.slice (some ⟨G.length, 0, none⟩) 3 3)) k0 rfl rfl rfl
  (repeat (first | refine yw ?_ | ((first | apply yd | apply ye); simp (disch := first|exact zz|fail) only [go_sem, fill_none, fill2i, hf1, hf, hm, hf2, hst]; with_reducible rfl)))
  refine fin_l1 (u := evV (8, 12) (.slice (some ⟨G.length, 0, none⟩) 3 3)) (load_ev (get_set_self k0)) ⟨_, rfl, ?_, (xG.app _).set (Nat.le_refl _) _⟩
  have hl := (List.getElem?_eq_some_iff.1 g0).1
  exact Sl.of (e := 3) (o := true) (by rw [List.getElem?_set_ne (by omega)]; exact at_new) rfl
theorem bent_c : ACall Go.Proofs.Try.prog 71 [] H fun w H' => ∃ s, w = evV (8, 12) s ∧ Tris H' bentX s ∧ Ext H H' := by
  (refine a71 ?_; simp only [n71, List.replicate, yq, yr, yt, yu]; first | refine q1 ?_ | refine q2 ?_ | refine q6 ?_ | refine q7 ?_ | refine qh rfl ?_ | skip)
  have g0 : (H ++ [AObj.cells true 0 [.int .i64 0, .int .i64 0, .slice none 0 0]])[H.length]? = some (.cells true 0 [.int .i64 0, .int .i64 0, .slice none 0 0]) := at_new
  have xG : Ext H (H ++ [AObj.cells true 0 [.int .i64 0, .int .i64 0, .slice none 0 0]]) := (Ext.refl H).app _
  (refine yh ?_)
  generalize (H ++ [AObj.cells true 0 [.int .i64 0, .int .i64 0, .slice none 0 0]] : AHeap) = G at g0 xG
  have hf1 : ∀ a b c : Int, fillA [.int .i64 0, .int .i64 0, .int .i64 0] [(0, 1, .int .i64 a), (1, 2, .agg ⟨[.int .i64 b, .int .i64 c]⟩)] = some [.int .i64 a, .int .i64 b, .int .i64 c] := fun _ _ _ => rfl
  have hf : fillA [.int .i64 0, .int .i64 0, .int .i64 0, .int .i64 0, .int .i64 0, .int .i64 0, .int .i64 0, .int .i64 0, .int .i64 0] [(0, 3, .agg ⟨[.int .i64 0, .int .i64 0, .int .i64 0]⟩), (3, 3, .agg ⟨[.int .i64 10, .int .i64 90, .int .i64 92]⟩), (6, 3, .agg ⟨[.int .i64 20, .int .i64 200, .int .i64 204]⟩)] = some (flat3 bentX) := rfl
  have hm : mkSliceL 3 3 (some (flat3 bentX)) G = some (.slice (some ⟨G.length, 0, none⟩) 3 3, G ++ [.cells true 3 (flat3 bentX)]) := mkSliceL_some rfl
  have hf2 : fillA [.int .i64 0, .int .i64 0, .slice none 0 0] [(0, 2, .agg ⟨[.int .i64 8, .int .i64 12]⟩), (2, 1, .slice (some ⟨G.length, 0, none⟩) 3 3)] = some (evC (8, 12) (.slice (some ⟨G.length, 0, none⟩) 3 3)) := rfl
  have k0 := at_app (N := [AObj.cells true 3 (flat3 bentX)]) g0
  have hst := store_all (n := 3) (us := evC (8, 12) (.slice (some ⟨G.length, 0, none⟩) 3 3)) k0 rfl rfl rfl
  (repeat (first | refine yw ?_ | ((first | apply yd | apply ye); simp (disch := first|exact zz|fail) only [go_sem, fill_none, fill2i, hf1, hf, hm, hf2, hst]; with_reducible rfl)))
  refine fin_l1 (u := evV (8, 12) (.slice (some ⟨G.length, 0, none⟩) 3 3)) (load_ev (get_set_self k0)) ⟨_, rfl, ?_, (xG.app _).set (Nat.le_refl _) _⟩
  have hl := (List.getElem?_eq_some_iff.1 g0).1
  exact Sl.of (e := 3) (o := true) (by rw [List.getElem?_set_ne (by omega)]; exact at_new) rfl
set_option maxHeartbeats 4000000 in
theorem awake_c : ACall Go.Proofs.Try.prog 17 [] H fun w H' => w = .bool true ∧ H' = H := by
  refine ACall.drop (.bool _) ?_
  (refine a17 ?_; simp only [n17, List.replicate, yq, yr, yt, yu]; first | refine q1 ?_ | refine q2 ?_ | refine q6 ?_ | refine q7 ?_ | refine qh rfl ?_ | skip)
  (refine yg ?_)
  refine aops_call (map0_c.mono fun w G1 ⟨s1, hw, hP, x1⟩ => ?_)
  subst hw
  (refine yg ?_)
  (refine aops_call_to (positionAt_c hP (by decide)) ?_)
  rw [posX]
  (repeat (first | refine yw ?_ | ((first | apply yd | apply ye); simp (disch := first|exact zz|fail) only [go_sem, store_newF]; with_reducible rfl)))
  have c1 : (G1 ++ [AObj.cells true 0 [.int .i64 666, .int .i64 667]])[G1.length]? = some (.cells true 0 [.int .i64 666, .int .i64 667]) := at_new
  have xH1 := x1.app [AObj.cells true 0 [.int .i64 666, .int .i64 667]]
  obtain ⟨i1, h1⟩ : ∃ i1, G1.length = i1 := ⟨_, rfl⟩
  rw [h1] at c1 ⊢
  generalize (G1 ++ [AObj.cells true 0 [.int .i64 666, .int .i64 667]] : AHeap) = G2 at c1 xH1
  refine aops_call (ev0_c.mono fun w G3 ⟨s3, hw, hE, x3⟩ => ?_)
  subst hw
  have c1 := x3.cell c1
  have xH3 := xH1.trans x3
  (refine yg ?_)
  (refine aops_call_to (encAt_c hE (by decide)) ?_)
  rw [encX]
  (repeat (first | refine yw ?_ | ((first | apply yd | apply ye); simp (disch := first|exact zz|fail) only [go_sem, store_newF]; with_reducible rfl)))
  have c3 : (G3 ++ [AObj.cells true 0 [.int .i64 90, .int .i64 120]])[G3.length]? = some (.cells true 0 [.int .i64 90, .int .i64 120]) := at_new
  have c1 := at_app (N := [AObj.cells true 0 [.int .i64 90, .int .i64 120]]) c1
  have xH4 := xH3.app [AObj.cells true 0 [.int .i64 90, .int .i64 120]]
  obtain ⟨i3, h3⟩ : ∃ i3, G3.length = i3 := ⟨_, rfl⟩
  rw [h3] at c3 ⊢
  generalize (G3 ++ [AObj.cells true 0 [.int .i64 90, .int .i64 120]] : AHeap) = G4 at c1 c3 xH4
  refine aops_call (bent_c.mono fun w G5 ⟨s5, hw, hB, x5⟩ => ?_)
  subst hw
  have c1 := x5.cell c1
  have c3 := x5.cell c3
  have xH5 := xH4.trans x5
  (refine yg ?_)
  refine aops_call ((fewest_c hB (by decide)).mono fun w G6 ⟨x6, s6, l, e, hw, hL, hF⟩ => ?_)
  subst hw
  obtain ⟨rfl, hl3⟩ := bentRes hF
  have c1 := x6.cell c1
  have c3 := x6.cell c3
  have xH6 := xH5.trans x6
  have hst : storeR 1 (.pointer (some ⟨G6.length, 0, none⟩)) (.agg ⟨[s6]⟩) (G6 ++ [.cells true 0 [.slice none 0 0]]) = some (undef, G6 ++ [.cells true 0 [s6]]) := store_newA hL.atom
  (repeat (first | refine yw ?_ | ((first | apply yd | apply ye); simp (disch := first|exact zz|fail) only [go_sem, hst]; with_reducible rfl)))
  have c5 : (G6 ++ [AObj.cells true 0 [s6]])[G6.length]? = some (.cells true 0 [s6]) := at_new
  have hL := hL.ext ((Ext.refl G6).app [AObj.cells true 0 [s6]])
  have c1 := at_app (N := [AObj.cells true 0 [s6]]) c1
  have c3 := at_app (N := [AObj.cells true 0 [s6]]) c3
  have xH7 := xH6.app [AObj.cells true 0 [s6]]
  obtain ⟨i5, h5⟩ : ∃ i5, G6.length = i5 := ⟨_, rfl⟩
  rw [h5] at c5 ⊢
  clear hst
  generalize (G6 ++ [AObj.cells true 0 [s6]] : AHeap) = G7 at c1 c3 c5 xH7 hL
  refine aops_call (map0_c.mono fun w G8 ⟨s8, hw, hP8, x8⟩ => ?_)
  subst hw
  have c1 := x8.cell c1
  have c3 := x8.cell c3
  have c5 := x8.cell c5
  have hL := hL.ext x8
  have xH8 := xH7.trans x8
  (refine yg ?_)
  (refine aops_call_to (wowOf_c hP8 (by decide)) ?_)
  rw [wowX]
  (repeat (first | refine yw ?_ | ((first | apply yd | apply ye); simp (disch := first|exact zz|fail) only [go_sem, store_newF]; with_reducible rfl)))
  have c7 : (G8 ++ [AObj.cells true 0 [.int .i64 10, .int .i64 1]])[G8.length]? = some (.cells true 0 [.int .i64 10, .int .i64 1]) := at_new
  have c1 := at_app (N := [AObj.cells true 0 [.int .i64 10, .int .i64 1]]) c1
  have c3 := at_app (N := [AObj.cells true 0 [.int .i64 10, .int .i64 1]]) c3
  have c5 := at_app (N := [AObj.cells true 0 [.int .i64 10, .int .i64 1]]) c5
  have hL := hL.ext ((Ext.refl G8).app [AObj.cells true 0 [.int .i64 10, .int .i64 1]])
  have xH9 := xH8.app [AObj.cells true 0 [.int .i64 10, .int .i64 1]]
  obtain ⟨i7, h7⟩ : ∃ i7, G8.length = i7 := ⟨_, rfl⟩
  rw [h7] at c7 ⊢
  generalize (G8 ++ [AObj.cells true 0 [.int .i64 10, .int .i64 1]] : AHeap) = G9 at c1 c3 c5 c7 xH9 hL
  have d3 : decide (((l.length : Nat) : Int) = 3) = true := dec_t (by omega)
  (repeat (first | refine yw ?_ | ((first | apply yd | apply ye); simp (disch := first|exact zz|fail) only [go_sem, hL.len, hL.idx, hL.load, n2_at c1, n2_at c3, load_at c5, n2_at c7, fill2i, d3, fbt]; with_reducible rfl)))
  (refine adraw_call (N := []) (firstD (whole_c 10)) ?_; rw [List.append_nil])
  (repeat (first | refine yw ?_ | ((first | apply yd | apply ye); simp (disch := first|exact zz|fail) only [go_sem, fracV, fbt]; with_reducible rfl)))
  exact fin_1 ⟨rfl, xH9⟩
end
end Go.Lq

namespace Go.Lq
open Go
open Go.Proofs

def intsN (l : List Nat) : List Int := List.map (fun x : Nat => (x : Int)) l
theorem intsN_push (l : List Nat) (x : Nat) : intsN (l ++ [x]) = intsN l ++ [(x : Int)] := by simp [intsN]
theorem intsN_len (l : List Nat) : (intsN l).length = l.length := by simp [intsN]
section
variable {H : AHeap}
end
end Go.Lq

namespace Go.Lq
open Go
open Go.Proofs

theorem wraps_ev {L : Int × Int} : Wraps fun s => evV L s := fun s n a b h => .agg rfl fun i u u' h1 h2 => by
  match i with
  | 0 => simp at h1 h2; subst h1; subst h2; exact .int _ _
  | 1 => simp at h1 h2; subst h1; subst h2; exact .int _ _
  | 2 => simp at h1 h2; subst h1; subst h2; exact h
  | i + 3 => simp at h1
theorem Tris.mark {H H' : AHeap} {M : List Mark} {v : Value} (h : Tris H M v) (hx : Ext H H') {i : Nat} (hi : i < M.length) : loadNR 3 (addrOf v (i * 3)) H' = some (markV (M.getD i (0, 0, 0)), H') := (h.load hx hi).1
section
variable {H : AHeap} {L : Int × Int} {M : List Mark} {v : Value}
theorem fewMarks_c (hl : Tris H M v) : ACall Go.Proofs.Try.prog 18 [evV L v] H fun w H' => w = .bool (decide (M.length ≤ 14)) ∧ H' = H := by
  refine ACall.drop (.bool _) ?_
  (refine a18 ?_; simp only [n18, List.replicate, yq, yr, yt, yu]; first | refine q1 ?_ | refine q2 ?_ | refine q6 ?_ | refine q7 ?_ | refine qh rfl ?_ | skip)
  have g0 : (H ++ [AObj.cells true 0 (evC L v)])[H.length]? = some (.cells true 0 (evC L v)) := at_new
  have xG : Ext H (H ++ [AObj.cells true 0 (evC L v)]) := (Ext.refl H).app _
  (repeat (first | refine yv ?_ | (apply yd; simp (disch := first|exact zz|fail) only [go_sem, box_ev hl.atom]; with_reducible rfl)))
  generalize (H ++ [AObj.cells true 0 (evC L v)] : AHeap) = G at g0 xG
  have hl1 := hl.ext xG
  (repeat (first | refine yw ?_ | ((first | apply yd | apply ye); simp (disch := first|exact zz|fail) only [go_sem, hl1.len, hl1.idx, hl1.load, load_at g0, evC]; with_reducible rfl)))
  have e1 : decide ((M.length : Int) ≤ 14) = decide (M.length ≤ 14) := by simp; omega
  exact fin_1 ⟨by rw [← e1]; rfl, xG⟩
theorem copyEv_c (hl : Tris H M v) (hb : M.length ≤ 1000000) : ACall Go.Proofs.Try.prog 20 [evV L v] H fun w H' =>
    w = evV L (.slice (some ⟨H.length, 0, none⟩) M.length M.length) ∧ H' = H ++ [.cells true 3 (flat3 M)] := by
  refine ACall.tidyE (f := fun s => evV L s) (n := M.length) (sz := 3) wraps_ev (closed_flat3 M) ?_
  (refine a20 ?_; simp only [n20, List.replicate, yq, yr, yt, yu]; first | refine q1 ?_ | refine q2 ?_ | refine q6 ?_ | refine q7 ?_ | refine qh rfl ?_ | skip)
  obtain ⟨G, hG⟩ : ∃ G, G = H ++ [AObj.cells true 0 (evC L v)] ++ [AObj.cells true 0 [.int .i64 0, .int .i64 0, .slice none 0 0]] := ⟨_, rfl⟩
  have g0 : G[H.length]? = some (.cells true 0 (evC L v)) := by rw [hG]; simp
  have g1 : G[H.length + 1]? = some (.cells true 0 [.int .i64 0, .int .i64 0, .slice none 0 0]) := by rw [hG]; simp
  have xG : Ext H G := by rw [hG]; exact ((Ext.refl H).app _).app _
  have lG : G.length = H.length + 2 := by rw [hG]; simp
  (repeat (first | refine yv ?_ | (apply yd; simp (disch := first|exact zz|fail) only [go_sem, box_ev hl.atom]; with_reducible rfl)))
  (simp only [List.length_append, List.length_cons, List.length_nil, Nat.zero_add, Nat.add_assoc, Nat.reduceAdd])
  rw [← hG]
  clear hG
  obtain ⟨s, H2, ha, hx2, id, rfl, hid, hc2⟩ := append_copy (bytes := 24) (hl.ext xG) (isAtom_flat3 M) (roomOk_of (by omega) (by omega))
  have h1 := hx2.cell g1
  have hms : mkSliceL 3 0 (some []) G = some (.slice (some ⟨G.length, 0, none⟩) 0 0, G ++ [.cells true 3 []]) := rfl
  have k0 := at_app (N := [AObj.cells true 3 []]) g0
  have hf : fillA [.int .i64 0, .int .i64 0, .slice none 0 0] [(0, 2, .agg ⟨[.int .i64 L.1, .int .i64 L.2]⟩), (2, 1, .slice (some ⟨id, 0, none⟩) M.length M.length)] = some (evC L (.slice (some ⟨id, 0, none⟩) M.length M.length)) := rfl
  have hst : storeR 3 (.pointer (some ⟨H.length + 1, 0, none⟩)) (.agg ⟨[.int .i64 L.1, .int .i64 L.2, .slice (some ⟨id, 0, none⟩) M.length M.length]⟩) H2 = some (undef, H2.set (H.length + 1) (.cells true 0 (evC L (.slice (some ⟨id, 0, none⟩) M.length M.length)))) := store_all (n := 3) (us := evC L (.slice (some ⟨id, 0, none⟩) M.length M.length)) h1 rfl rfl rfl
  (repeat (first | refine yw ?_ | ((first | apply yd | apply ye); simp (disch := first|exact zz|fail) only [go_sem, load_lim g0, hms, load_at k0, evC, ha, hf, hst]; with_reducible rfl)))
  refine fin_l1 (m := 3) (u := evV L (.slice (some ⟨id, 0, none⟩) M.length M.length)) (load_ev (L := L) (v := .slice (some ⟨id, 0, none⟩) M.length M.length) (get_set_self h1)) ?_
  refine ⟨_, id, rfl, (xG.trans hx2).set (by omega) _, rfl, by omega, ?_⟩
  rw [List.getElem?_set_ne (by omega)]; exact hc2
theorem rMarkErr_c (x : Mark) : ACall Go.Proofs.Try.prog 83 [markV x] H fun v H' => v = .int .i64 (markE x) ∧ H' = H := by
  refine ACall.drop (.int _ _) ?_
  (refine a83 ?_; simp only [n83, List.replicate, yq, yr, yt, yu]; first | refine q1 ?_ | refine q2 ?_ | refine q6 ?_ | refine q7 ?_ | refine qh rfl ?_ | skip)
  have g0 : (H ++ [AObj.cells true 0 (markC x)])[H.length]? = some (.cells true 0 (markC x)) := at_new
  have xG : Ext H (H ++ [AObj.cells true 0 (markC x)]) := (Ext.refl H).app _
  (repeat (first | refine yv ?_ | (apply yd; simp (disch := first|exact zz|fail) only [go_sem, box_mark]; with_reducible rfl)))
  generalize (H ++ [AObj.cells true 0 (markC x)] : AHeap) = G at g0 xG
  have bad : ¬ ((0 ≤ x.1 ∧ x.1 ≤ 1000000) ∧ (0 ≤ x.2.1 ∧ x.2.1 ≤ 1000000000000) ∧ (0 ≤ x.2.2 ∧ x.2.2 ≤ 1000000000000)) → markE x = 2 := fun h => by
    unfold markE; rw [if_neg h, firstErr_e (by decide)]
  (repeat (first | refine yw ?_ | ((first | apply yd | apply ye); simp (disch := first|exact zz|fail) only [go_sem, load_at g0, markC]; with_reducible rfl)))
  (refine aops_call_to (rIsPosition_c _) ?_)
  by_cases h1 : 0 ≤ x.1 ∧ x.1 ≤ 1000000
  rotate_left 1
  · rw [bad (fun h => h1 h.1)]
    (repeat (first | refine yw ?_ | ((first | apply yd | apply ye); simp (disch := first|exact zz|fail) only [go_sem, dec_f h1]; with_reducible rfl)))
    refine cond_t rfl ?_
    (refine yg ?_)
    exact fin_1 ⟨rfl, xG⟩
  (repeat (first | refine yw ?_ | ((first | apply yd | apply ye); simp (disch := first|exact zz|fail) only [go_sem, dec_t h1, load_at g0, markC]; with_reducible rfl)))
  (refine aops_call_to (rIsTick_c _) ?_)
  by_cases h2 : 0 ≤ x.2.1 ∧ x.2.1 ≤ 1000000000000
  rotate_left 1
  · rw [bad (fun h => h2 h.2.1)]
    (repeat (first | refine yw ?_ | ((first | apply yd | apply ye); simp (disch := first|exact zz|fail) only [go_sem, dec_f h2]; with_reducible rfl)))
    refine cond_t rfl ?_
    (refine yg ?_)
    exact fin_1 ⟨rfl, xG⟩
  (repeat (first | refine yw ?_ | ((first | apply yd | apply ye); simp (disch := first|exact zz|fail) only [go_sem, dec_t h2, load_at g0, markC]; with_reducible rfl)))
  (refine aops_call_to (rIsTick_c _) ?_)
  by_cases h3 : 0 ≤ x.2.2 ∧ x.2.2 ≤ 1000000000000
  rotate_left 1
  · rw [bad (fun h => h3 h.2.2)]
    (repeat (first | refine yw ?_ | ((first | apply yd | apply ye); simp (disch := first|exact zz|fail) only [go_sem, dec_f h3]; with_reducible rfl)))
    refine cond_t rfl ?_
    (refine yg ?_)
    exact fin_1 ⟨rfl, xG⟩
  have em : markE x = if x.2.1 ≤ x.2.2 then 0 else 9 := by
    unfold markE
    rw [if_pos ⟨h1, h2, h3⟩, firstErr_z]
    by_cases h : x.2.1 ≤ x.2.2
    · rw [if_pos h]; rfl
    · rw [if_neg h]; rfl
  rw [em]
  (repeat (first | refine yw ?_ | ((first | apply yd | apply ye); simp (disch := first|exact zz|fail) only [go_sem, dec_t h3]; with_reducible rfl)))
  refine cond_f rfl ?_
  by_cases h4 : x.2.1 ≤ x.2.2
  · (repeat (first | refine yw ?_ | ((first | apply yd | apply ye); simp (disch := first|exact zz|fail) only [go_sem, load_at g0, markC, dec_f (show ¬ x.2.2 < x.2.1 by omega)]; with_reducible rfl)))
    refine cond_f rfl ?_
    (refine yg ?_)
    exact fin_1 ⟨by rw [if_pos h4]; rfl, xG⟩
  · (repeat (first | refine yw ?_ | ((first | apply yd | apply ye); simp (disch := first|exact zz|fail) only [go_sem, load_at g0, markC, dec_t (show x.2.2 < x.2.1 by omega)]; with_reducible rfl)))
    refine cond_t rfl ?_
    (refine yg ?_)
    exact fin_1 ⟨by rw [if_neg h4]; rfl, xG⟩
theorem limE_cases (L : Int × Int) (n : Nat) : limE L n = if ¬ ((1 ≤ L.1 ∧ L.1 ≤ 100000) ∧ (1 ≤ L.2 ∧ L.2 ≤ 100000)) then 2 else if L.2 < L.1 then 9 else if (12 : Int) < (n : Int) then 8 else 0 := by
  unfold limE
  by_cases h1 : (1 ≤ L.1 ∧ L.1 ≤ 100000) ∧ (1 ≤ L.2 ∧ L.2 ≤ 100000)
  · rw [if_pos h1, if_neg (show ¬ ¬ ((1 ≤ L.1 ∧ L.1 ≤ 100000) ∧ (1 ≤ L.2 ∧ L.2 ≤ 100000)) from fun h => h h1), firstErr_z]
    by_cases h2 : L.1 ≤ L.2
    · rw [if_pos h2, if_neg (show ¬ L.2 < L.1 by omega), firstErr_z]
      by_cases h3 : (n : Int) ≤ 12
      · rw [if_pos h3, if_neg (show ¬ (12 : Int) < (n : Int) by omega)]; rfl
      · rw [if_neg h3, if_pos (show (12 : Int) < (n : Int) by omega)]; rfl
    · rw [if_neg h2, if_pos (show L.2 < L.1 by omega), firstErr_e (by decide)]
  · rw [if_neg h1, if_pos h1, firstErr_e (by decide)]
theorem markO_cases (M : List Mark) (i : Nat) (h0 : ∀ j, j < M.length → 0 ≤ (M.getD j (0, 0, 0)).1 ∨ markE (M.getD j (0, 0, 0)) ≠ 0) (hi : i < M.length) : markO (lastAt M i) (M.getD i (0, 0, 0)) = if markE (M.getD i (0, 0, 0)) ≠ 0 then markE (M.getD i (0, 0, 0)) else if 0 < i ∧ (M.getD i (0, 0, 0)).1 ≤ lastAt M i then 9 else 0 := by
  unfold markO
  by_cases h1 : markE (M.getD i (0, 0, 0)) = 0
  · have hp := (h0 i hi).resolve_right (fun h => h h1)
    rw [h1, firstErr_z, if_neg (show ¬ (0 : Int) ≠ 0 from fun h => h rfl)]
    by_cases h2 : lastAt M i < (M.getD i (0, 0, 0)).1
    · rw [if_pos h2, if_neg (show ¬ (0 < i ∧ (M.getD i (0, 0, 0)).1 ≤ lastAt M i) by omega)]; rfl
    · rw [if_neg h2, if_pos (show 0 < i ∧ (M.getD i (0, 0, 0)).1 ≤ lastAt M i from ?_)]
      · rfl
      · refine ⟨?_, by omega⟩
        rcases Nat.eq_zero_or_pos i with rfl | h
        · have e : lastAt M 0 = -1 := rfl
          omega
        · exact h
  · rw [if_pos h1, firstErr_e h1]
theorem markE_pos (x : Mark) : 0 ≤ x.1 ∨ markE x ≠ 0 := by
  by_cases h : (0 ≤ x.1 ∧ x.1 ≤ 1000000) ∧ (0 ≤ x.2.1 ∧ x.2.1 ≤ 1000000000000) ∧ (0 ≤ x.2.2 ∧ x.2.2 ≤ 1000000000000)
  · exact .inl h.1.1
  · right
    unfold markE; rw [if_neg h, firstErr_e (by decide)]; decide
set_option maxHeartbeats 4000000 in
theorem rCheckEv_c (hl : Tris H M v) (hb : M.length ≤ 1000000000) : ACall Go.Proofs.Try.prog 22 [evV L v] H fun w H' => w = .tuple #[.int .i64 (ckEv L M).1, .int .i64 (ckEv L M).2] ∧ H' = H := by
  refine ACall.drop (closed_two _ _) ?_
  (refine a22 ?_; simp only [n22, List.replicate, yq, yr, yt, yu]; first | refine q1 ?_ | refine q2 ?_ | refine q6 ?_ | refine q7 ?_ | refine qh rfl ?_ | skip)
  have g0 : (H ++ [AObj.cells true 0 (evC L v)])[H.length]? = some (.cells true 0 (evC L v)) := at_new
  have xG : Ext H (H ++ [AObj.cells true 0 (evC L v)]) := (Ext.refl H).app _
  (repeat (first | refine yv ?_ | (apply yd; simp (disch := first|exact zz|fail) only [go_sem, box_ev hl.atom]; with_reducible rfl)))
  generalize (H ++ [AObj.cells true 0 (evC L v)] : AHeap) = G at g0 xG
  have hl1 := hl.ext xG
  have hlim := limE_cases L M.length
  have bad : ∀ e : Int, e ≠ 0 → limE L M.length = e → ckEv L M = (0, e) := fun e h0 h => by unfold ckEv; rw [h, if_pos h0]
  (repeat (first | refine yw ?_ | ((first | apply yd | apply ye); simp (disch := first|exact zz|fail) only [go_sem, load_at g0, evC]; with_reducible rfl)))
  (refine aops_call_to (bwithin_c _ _ _) ?_)
  by_cases h1 : 1 ≤ L.1 ∧ L.1 ≤ 100000
  rotate_left 1
  · rw [bad 2 (by decide) (by rw [hlim, if_pos (fun h => h1 h.1)])]
    (repeat (first | refine yw ?_ | ((first | apply yd | apply ye); simp (disch := first|exact zz|fail) only [go_sem, dec_f h1]; with_reducible rfl)))
    refine cond_t rfl ?_
    (refine yg ?_)
    exact fin_2 ⟨rfl, xG⟩
  (repeat (first | refine yw ?_ | ((first | apply yd | apply ye); simp (disch := first|exact zz|fail) only [go_sem, dec_t h1, load_at g0, evC]; with_reducible rfl)))
  (refine aops_call_to (bwithin_c _ _ _) ?_)
  by_cases h2 : 1 ≤ L.2 ∧ L.2 ≤ 100000
  rotate_left 1
  · rw [bad 2 (by decide) (by rw [hlim, if_pos (fun h => h2 h.2)])]
    (repeat (first | refine yw ?_ | ((first | apply yd | apply ye); simp (disch := first|exact zz|fail) only [go_sem, dec_f h2]; with_reducible rfl)))
    refine cond_t rfl ?_
    (refine yg ?_)
    exact fin_2 ⟨rfl, xG⟩
  rw [if_neg (fun h => h ⟨h1, h2⟩)] at hlim
  (repeat (first | refine yw ?_ | ((first | apply yd | apply ye); simp (disch := first|exact zz|fail) only [go_sem, dec_t h2]; with_reducible rfl)))
  refine cond_f rfl ?_
  (repeat (first | refine yw ?_ | ((first | apply yd | apply ye); simp (disch := first|exact zz|fail) only [go_sem, load_at g0, evC]; with_reducible rfl)))
  refine cond_p (p := L.2 < L.1) rfl (fun h3 => ?_) (fun h3 => ?_)
  · rw [bad 9 (by decide) (by rw [hlim, if_pos h3])]
    (refine yg ?_)
    exact fin_2 ⟨rfl, xG⟩
  rw [if_neg h3] at hlim
  (repeat (first | refine yw ?_ | ((first | apply yd | apply ye); simp (disch := first|exact zz|fail) only [go_sem, hl1.len, hl1.idx, hl1.load, load_at g0, evC]; with_reducible rfl)))
  refine cond_p (p := (12 : Int) < (M.length : Int)) rfl (fun h4 => ?_) (fun h4 => ?_)
  · rw [bad 8 (by decide) (by rw [hlim, if_pos h4])]
    (refine yg ?_)
    exact fin_2 ⟨rfl, xG⟩
  rw [if_neg h4] at hlim
  have ec : ckEv L M = ckMarks (-1) 0 M := by unfold ckEv; rw [hlim, if_neg (by decide)]
  rw [ec]
  (refine yg ?_)
  refine awp_loop_n [false, true, false, false, true, false, false, false, false, false, false, false, false, false, false, false, false, false, false, false, false, false, false, false, false, false, false, false, false, false, false, false, false, false, false, false, false, false, false, false, false, false, false, false, false, false, false, false, false, false, false, false, false, false, false, false, false, false, false, false, false, false, false, false, false] M.length (fun i e H' => e = [junk, .pointer (some ⟨H.length, 0, none⟩), junk, junk, .int .i64 i, junk, junk, junk, junk, junk, junk, junk, junk, junk, junk, junk, junk, junk, junk, junk, junk, junk, junk, junk, junk, junk, junk, junk, junk, junk, junk, junk, junk, junk, junk, junk, junk, junk, junk, junk, junk, junk, junk, junk, junk, junk, junk, junk, junk, junk, junk, junk, junk, junk, junk, junk, junk, junk, junk, junk, junk, junk, junk, junk, junk] ∧ Ext G H' ∧ ckMarks (-1) 0 M = ckMarks (lastAt M i) i (M.drop i)) ?_ ?_
  · exact ⟨by simp [forget], Ext.refl _, rfl⟩
  rintro i e H' hi ⟨rfl, x3, hj⟩
  have hll := hl1.ext x3
  have k0 := x3.cell g0
  (repeat (first | refine yw ?_ | ((first | apply yd | apply ye); simp (disch := first|exact zz|fail) only [go_sem, hll.len, hll.idx, hll.load, load_at k0, evC]; with_reducible rfl)))
  refine cond_p rfl (fun hlt => ?_) (fun hge => ?_)
  rotate_left 1
  · obtain rfl : i = M.length := by omega
    rw [ckMarks_end (i := M.length)] at hj
    (refine yg ?_)
    exact fin_2 ⟨by rw [hj]; rfl, xG.trans x3⟩
  have hi' : i < M.length := by omega
  rw [ckMarks_at hi', markO_cases M i (fun j _ => markE_pos _) hi'] at hj
  have hmk := hll.mark (Ext.refl H') hi'
  have hld := (hll.load (Ext.refl H') hi').2.2.2.2.2.2.2.1
  have hfd := (hll.load (Ext.refl H') hi').2.2.1
  have hix := hll.idx (H' := H') (i := (i : Int)) (k := .i64) (by omega) (by omega)
  rw [Int.toNat_natCast] at hix
  obtain ⟨x, hx⟩ : ∃ x, M.getD i (0, 0, 0) = x := ⟨_, rfl⟩
  rw [hx] at hj hmk hld
  (repeat (first | refine yw ?_ | ((first | apply yd | apply ye); simp (disch := first|exact zz|fail) only [go_sem, load_at k0, evC, hix, hmk]; with_reducible rfl)))
  (refine aops_call_to (rMarkErr_c x) ?_)
  (refine yg ?_)
  refine cond_p rfl (fun hne => ?_) (fun heq => ?_)
  · rw [if_pos hne, if_pos hne] at hj
    (refine yg ?_)
    exact fin_2 ⟨by rw [hj]; rfl, xG.trans x3⟩
  rw [if_neg heq] at hj
  rcases Nat.eq_zero_or_pos i with hi0 | hi0
  · rw [if_neg (show ¬ (0 < i ∧ x.1 ≤ lastAt M i) by omega), if_neg (show ¬ (0 : Int) ≠ 0 from fun h => h rfl)] at hj
    (repeat (first | refine yw ?_ | ((first | apply yd | apply ye); simp (disch := first|exact zz|fail) only [go_sem, dec_f (show ¬ (0 : Int) < (i : Int) by omega)]; with_reducible rfl)))
    refine cond_f rfl ?_
    (refine yg ?_)
    exact ⟨by omega, by simp [forget], x3, hj⟩
  · obtain ⟨p, rfl⟩ : ∃ p, i = p + 1 := ⟨i - 1, by omega⟩
    have ep : (((p + 1 : Nat) : Int)) - 1 = (p : Int) := by omega
    have hld2 := (hll.load (Ext.refl H') (i := p) (by omega)).2.2.2.2.2.2.2.1
    have hfd2 := (hll.load (Ext.refl H') (i := p) (by omega)).2.2.1
    have hix2 := hll.idx (H' := H') (i := (p : Int)) (k := .i64) (by omega) (by omega)
    rw [Int.toNat_natCast] at hix2
    have els : lastAt M (p + 1) = (M.getD p (0, 0, 0)).1 := lastAt_succ
    rw [els] at hj
    have e2 : ((p + 1 : Nat) : Int) + 1 = ((p + 1 + 1 : Nat) : Int) := by omega
    by_cases h9 : x.1 ≤ (M.getD p (0, 0, 0)).1
    · rw [if_pos (show 0 < p + 1 ∧ x.1 ≤ (M.getD p (0, 0, 0)).1 from ⟨hi0, h9⟩), if_pos (show (9 : Int) ≠ 0 by decide)] at hj
      (repeat (first | refine yw ?_ | ((first | apply yd | apply ye); simp (disch := first|exact zz|fail) only [go_sem, dec_t (show (0 : Int) < ((p + 1 : Nat) : Int) by omega), load_at k0, evC, hix, hfd, hld, ep, hix2, hfd2, hld2, dec_t h9]; with_reducible rfl)))
      refine cond_t rfl ?_
      (refine yg ?_)
      exact fin_2 ⟨by rw [hj]; rfl, xG.trans x3⟩
    · rw [if_neg (show ¬ (0 < p + 1 ∧ x.1 ≤ (M.getD p (0, 0, 0)).1) from fun h => h9 h.2), if_neg (show ¬ (0 : Int) ≠ 0 from fun h => h rfl)] at hj
      (repeat (first | refine yw ?_ | ((first | apply yd | apply ye); simp (disch := first|exact zz|fail) only [go_sem, dec_t (show (0 : Int) < ((p + 1 : Nat) : Int) by omega), load_at k0, evC, hix, hfd, hld, ep, hix2, hfd2, hld2, dec_f h9]; with_reducible rfl)))
      refine cond_f rfl ?_
      (repeat (first | refine yw ?_ | ((first | apply yd | apply ye); simp (disch := first|exact zz|fail) only [go_sem, e2]; with_reducible rfl)))
      exact ⟨by omega, by simp [forget], x3, hj⟩
theorem rEvErr_c (hl : Tris H M v) (hb : M.length ≤ 1000000000) : ACall Go.Proofs.Try.prog 38 [evV L v] H fun w H' => w = .int .i64 (evErrL L M) ∧ H' = H := by
  refine ACall.drop (.int _ _) ?_
  (refine a38 ?_; simp only [n38, List.replicate, yq, yr, yt, yu]; first | refine q1 ?_ | refine q2 ?_ | refine q6 ?_ | refine q7 ?_ | refine qh rfl ?_ | skip)
  have g0 : (H ++ [AObj.cells true 0 (evC L v)])[H.length]? = some (.cells true 0 (evC L v)) := at_new
  have xG : Ext H (H ++ [AObj.cells true 0 (evC L v)]) := (Ext.refl H).app _
  (repeat (first | refine yv ?_ | (apply yd; simp (disch := first|exact zz|fail) only [go_sem, box_ev hl.atom]; with_reducible rfl)))
  generalize (H ++ [AObj.cells true 0 (evC L v)] : AHeap) = G at g0 xG
  (repeat (first | refine yw ?_ | ((first | apply yd | apply ye); simp (disch := first|exact zz|fail) only [go_sem, load_ev g0]; with_reducible rfl)))
  (refine aops_call_to (rCheckEv_c (hl.ext xG) hb) ?_)
  (refine yg ?_)
  exact fin_1 ⟨rfl, xG⟩
end
end Go.Lq

namespace Go.Lq
open Go
open Go.Proofs

theorem pushT_at {H : AHeap} {v : Value} {l : List (Int × Int × Int)} {x : Int × Int × Int} {i : Nat} {c : AObj} (h : H[i]? = some c) (hv : v = .slice none 0 0 ∨ idOf v ≠ i) : (pushTH H v l x)[i]? = some c := by
  have hi := (List.getElem?_eq_some_iff.1 h).1
  unfold pushTH
  rw [appH_at (by simp; omega) hv, List.getElem?_append_left hi]; exact h
theorem OwnT.aside {H0 H : AHeap} {l : List (Int × Int × Int)} {v : Value} (h : OwnT H0 H l v) {j : Nat} (hj : j < H0.length) : v = .slice none 0 0 ∨ idOf v ≠ j := by
  rcases h.2 with ⟨rfl, h0⟩ | ⟨id, rfl, h1, _, _⟩
  · exact .inl rfl
  · exact .inr (by show id ≠ j; omega)
theorem OwnT.set_ne {H0 H : AHeap} {l : List (Int × Int × Int)} {v : Value} (h : OwnT H0 H l v) {j : Nat} (hj : v = .slice none 0 0 ∨ idOf v ≠ j) (c : AObj) : OwnT H0 (H.set j c) l v := by
  refine Own.set_ne h ?_ c
  rcases hj with rfl | hj
  · rcases h.2 with ⟨_, h0⟩ | ⟨id, e, _⟩
    · exact .inl h0
    · cases e
  · exact .inr hj
theorem OwnT.pushedL {H0 H : AHeap} {l : List (Int × Int × Int)} {v : Value} (h : OwnT H0 H l v) (hx : H0.length ≤ H.length) (x : Int × Int × Int) : OwnT H0 (pushTH H v l x) (l ++ [x]) (pushV H l.length) := by
  have := Own.appended (h.app [.cells true 3 [.int .i64 x.1, .int .i64 x.2.1, .int .i64 x.2.2]]) (m := 1) (cs := [.int .i64 x.1, .int .i64 x.2.1, .int .i64 x.2.2]) rfl (by omega) (by simp; omega)
  unfold OwnT
  simpa [pushV, pushTH, flat3] using this
theorem store_e2 {G : AHeap} {id : Nat} {L : Int × Int} {k w : Value} (h : G[id]? = some (.cells true 0 (evC L k))) (ha : isAtom w = true) (hc : w.cells = ⟨[w]⟩) : storeR 1 (.pointer (some ⟨id, 2, none⟩)) w G = some (undef, G.set id (.cells true 0 (evC L w))) := by
  have e2 : ([w] : List Value).all isAtom = true := by simp [ha]
  have e3 : setCells (evC L k) 2 [w] = evC L w := rfl
  simp only [storeR, hc, List.size_toArray, storeAt, h, e2, e3, and_true, List.length_cons, List.length_nil]
  rfl
def woTo (K : List Int) (M : List (Int × Int × Int)) : Nat → List (Int × Int × Int)
  | 0 => []
  | n + 1 => if (n : Int) ∈ K then woTo K M n else woTo K M n ++ [M.getD n (0, 0, 0)]
theorem woTo_succ {K : List Int} {M : List (Int × Int × Int)} {n : Nat} : woTo K M (n + 1) = if (n : Int) ∈ K then woTo K M n else woTo K M n ++ [M.getD n (0, 0, 0)] := rfl
theorem woTo_sub {K : List Int} {M : List (Int × Int × Int)} : ∀ {n : Nat}, n ≤ M.length → (woTo K M n).Sublist (M.take n)
  | 0, _ => by simp [woTo]
  | n + 1, h => by
    have ih := woTo_sub (K := K) (M := M) (n := n) (by omega)
    rw [woTo_succ, take_succ_getD (d := (0, 0, 0)) (show n < M.length by omega)]
    split
    · exact ih.trans (List.sublist_append_left _ _)
    · exact ih.append (List.Sublist.refl _)
theorem woTo_len {K : List Int} {M : List (Int × Int × Int)} : ∀ {n : Nat}, (woTo K M n).length ≤ n
  | 0 => Nat.le_refl _
  | n + 1 => by
    have := woTo_len (K := K) (M := M) (n := n)
    rw [woTo_succ]
    split
    · omega
    · rw [List.length_append]; simpa using this
section
variable {H : AHeap} {L : Int × Int} {M : List Mark} {v kv : Value} {K : List Int}
theorem has_c {n : Int} (hk : Ints H K kv) (hb : K.length ≤ 1000000000) : ACall Go.Proofs.Try.prog 45 [kv, .int .i64 n] H fun w H' => w = .bool (decide (n ∈ K)) ∧ H' = H := by
  (refine a45 ?_; simp only [n45, List.replicate, yq, yr, yt, yu]; first | refine q1 ?_ | refine q2 ?_ | refine q6 ?_ | refine q7 ?_ | refine qh rfl ?_ | skip)
  (refine yg ?_)
  refine awp_loop_n [true, true, false, false, false, true, false, false, false, false, false, false, false, false, false, false, false, false] K.length (fun i e H' => H' = H ∧ e = [kv, .int .i64 n, junk, junk, junk, .int .i64 i, junk, junk, junk, junk, junk, junk, junk, junk, junk, junk, junk, junk] ∧ ∀ j : Nat, j < i → K.getD j 0 ≠ n) ?_ ?_
  · exact ⟨rfl, by simp [forget], by omega⟩
  rintro i e H1 hi ⟨rfl, rfl, hbef⟩
  (repeat (first | refine yw ?_ | ((first | apply yd | apply ye); simp (disch := first|exact zz|fail) only [go_sem, hk.len, hk.idx, hk.load]; with_reducible rfl)))
  refine cond_p rfl (fun hlt => ?_) (fun hge => ?_)
  rotate_left 1
  · obtain rfl : i = K.length := by omega
    have hn : ¬ n ∈ K := fun hm => by
      obtain ⟨j, hj, e⟩ := List.getElem_of_mem hm
      exact hbef j hj (by rw [List.getD_eq_getElem?_getD, List.getElem?_eq_getElem hj]; exact e)
    rw [dec_f hn]
    (refine yg ?_)
    exact fin_1 ⟨rfl, rfl⟩
  have hi' : i < K.length := by omega
  by_cases e : K.getD i 0 = n
  · have hn : n ∈ K := by rw [← e, List.getD_eq_getElem?_getD, List.getElem?_eq_getElem hi']; exact List.getElem_mem hi'
    rw [dec_t hn]
    (repeat (first | refine yw ?_ | ((first | apply yd | apply ye); simp (disch := first|exact zz|fail) only [go_sem, hk.len, hk.idx, hk.load, dec_t e]; with_reducible rfl)))
    refine cond_t rfl ?_
    (refine yg ?_)
    exact fin_1 ⟨rfl, rfl⟩
  · have e1 : (i : Int) + 1 = ((i + 1 : Nat) : Int) := by omega
    (repeat (first | refine yw ?_ | ((first | apply yd | apply ye); simp (disch := first|exact zz|fail) only [go_sem, hk.len, hk.idx, hk.load, dec_f e]; with_reducible rfl)))
    refine cond_f rfl ?_
    (repeat (first | refine yw ?_ | ((first | apply yd | apply ye); simp (disch := first|exact zz|fail) only [go_sem, e1]; with_reducible rfl)))
    refine ⟨by omega, rfl, by simp [forget], fun j hj => ?_⟩
    by_cases hji : j = i
    · subst hji; exact e
    · exact hbef j (by omega)
set_option maxHeartbeats 4000000 in
theorem without_c (hl : Tris H M v) (hb : M.length ≤ 1000000) (hk : Ints H K kv) (hkb : K.length ≤ 1000000000) : ACall Go.Proofs.Try.prog 59 [evV L v, kv] H fun w H' =>
    w = evV L (retV H (woTo K M M.length).length) ∧ H' = H ++ retN 3 (woTo K M M.length).length (flat3 (woTo K M M.length)) := by
  refine ACall.tidy (f := fun s => evV L s) wraps_ev (closed_flat3 (woTo K M M.length)) ?_
  (refine a59 ?_; simp only [n59, List.replicate, yq, yr, yt, yu]; first | refine q1 ?_ | refine q2 ?_ | refine q6 ?_ | refine q7 ?_ | refine qh rfl ?_ | skip)
  obtain ⟨G, hG⟩ : ∃ G, G = H ++ [AObj.cells true 0 (evC L v)] ++ [AObj.cells true 0 [.int .i64 0, .int .i64 0, .slice none 0 0]] := ⟨_, rfl⟩
  have g0 : G[H.length]? = some (.cells true 0 (evC L v)) := by rw [hG]; simp
  have g4 : G[H.length + 1]? = some (.cells true 0 [.int .i64 0, .int .i64 0, .slice none 0 0]) := by rw [hG]; simp
  have xG : Ext H G := by rw [hG]; exact ((Ext.refl H).app _).app _
  have lG : G.length = H.length + 2 := by rw [hG]; simp
  have hst : storeR 3 (.pointer (some ⟨G.length, 0, none⟩)) (.agg ⟨[.int .i64 L.1, .int .i64 L.2, .slice none 0 0]⟩) (G ++ [.cells true 0 [.int .i64 0, .int .i64 0, .slice none 0 0]]) = some (undef, G ++ [.cells true 0 (evC L (.slice none 0 0))]) := store_newN (us := evC L (.slice none 0 0)) (by simp [evC, isAtom_int, isAtom]) rfl rfl
  have hfe : fillA [.int .i64 0, .int .i64 0, .slice none 0 0] [(0, 2, .agg ⟨[.int .i64 L.1, .int .i64 L.2]⟩)] = some [.int .i64 L.1, .int .i64 L.2, .slice none 0 0] := rfl
  (repeat (first | refine yv ?_ | (apply yd; simp (disch := first|exact zz|fail) only [go_sem, box_ev hl.atom]; with_reducible rfl)))
  (simp only [List.length_append, List.length_cons, List.length_nil, Nat.zero_add, Nat.add_assoc, Nat.reduceAdd])
  rw [← hG]
  clear hG
  have h2 : loadNR 2 (.pointer (some ⟨H.length, 0, none⟩)) G = some (.agg ⟨[.int .i64 L.1, .int .i64 L.2]⟩, G) := load_lim g0
  obtain ⟨B, hB⟩ : ∃ B, B = G ++ [AObj.cells true 0 (evC L (.slice none 0 0))] := ⟨_, rfl⟩
  have xB : Ext G B := ⟨_, hB⟩
  have c5 : B[H.length + 2]? = some (.cells true 0 (evC L (.slice none 0 0))) := by rw [hB, ← lG]; exact at_new
  have lB : B.length = H.length + 3 := by rw [hB]; simp [lG]
  rw [← hB, lG] at hst
  have lG' : G.length = H.length + 2 := lG
  (repeat (first | refine yv ?_ | (apply yd; simp (disch := first|exact zz|fail) only [go_sem, h2, hfe, lG', hst]; with_reducible rfl)))
  clear hst hfe hB
  have k0 := xB.cell g0
  have k4 := xB.cell g4
  have hlB := hl.ext (xG.trans xB)
  have hkB := hk.ext (xG.trans xB)
  refine awp_loop_n [false, true, true, false, true, true, true, false, false, false, false, false, false, false, false, false, false, false, false, false, false, false, false, false, false, false, false, false, false, false, false, false] M.length (fun i e J => ∃ sv, e = [junk, kv, .pointer (some ⟨H.length, 0, none⟩), junk, .pointer (some ⟨H.length + 1, 0, none⟩), .pointer (some ⟨H.length + 2, 0, none⟩), .int .i64 i, junk, junk, junk, junk, junk, junk, junk, junk, junk, junk, junk, junk, junk, junk, junk, junk, junk, junk, junk, junk, junk, junk, junk, junk, junk] ∧
    Ext G J ∧ J[H.length + 2]? = some (.cells true 0 (evC L sv)) ∧ OwnT B J (woTo K M i) sv) ?_ ?_
  · exact ⟨_, by simp [forget], xB, c5, OwnT.nil _ _⟩
  rintro i e J hi ⟨sv, rfl, x5, c5, hown⟩
  have hsv : isAtom sv = true := hown.tris.atom
  have hlJ := hl.ext (xG.trans x5)
  have hkJ := hk.ext (xG.trans x5)
  have k0 := x5.cell g0
  have k4 := x5.cell g4
  have l6 := (List.getElem?_eq_some_iff.1 c5).1
  have hwl := woTo_len (K := K) (M := M) (n := i)
  (repeat (first | refine yw ?_ | ((first | apply yd | apply ye); simp (disch := first|exact zz|fail) only [go_sem, hlJ.len, hlJ.idx, hlJ.load, load_at k0, evC]; with_reducible rfl)))
  refine cond_p rfl (fun hlt => ?_) (fun hge => ?_)
  rotate_left 1
  · obtain rfl : i = M.length := by omega
    have hst4 : storeR 3 (.pointer (some ⟨H.length + 1, 0, none⟩)) (evV L sv) J = some (undef, J.set (H.length + 1) (.cells true 0 (evC L sv))) := store_all k4 rfl (by simp [evC, isAtom_int, hsv]) rfl
    (repeat (first | refine yw ?_ | ((first | apply yd | apply ye); simp (disch := first|exact zz|fail) only [go_sem, load_ev c5, hst4]; with_reducible rfl)))
    refine fin_l1 (u := evV L sv) (loadN_at (k := 0) (get_set_self k4) (by simp [evC])) ⟨sv, rfl, ((xG.trans x5).set (by omega) _), ?_⟩
    exact Own.weaken (hown.set_ne (hown.aside (by omega)) _) (by omega)
  have hi' : i < M.length := by omega
  (refine yg ?_)
  (refine aops_call_to (has_c hkJ hkb) ?_)
  by_cases hmem : (i : Int) ∈ K
  · have ew : woTo K M (i + 1) = woTo K M i := by rw [woTo_succ, if_pos hmem]
    have e1 : (i : Int) + 1 = ((i + 1 : Nat) : Int) := by omega
    (repeat (first | refine yw ?_ | ((first | apply yd | apply ye); simp (disch := first|exact zz|fail) only [go_sem, dec_t hmem]; with_reducible rfl)))
    refine cond_f rfl ?_
    (repeat (first | refine yw ?_ | ((first | apply yd | apply ye); simp (disch := first|exact zz|fail) only [go_sem, e1]; with_reducible rfl)))
    exact ⟨by omega, sv, by simp [forget], x5, c5, by rw [ew]; exact hown⟩
  · have ew : woTo K M (i + 1) = woTo K M i ++ [M.getD i (0, 0, 0)] := by rw [woTo_succ, if_neg hmem]
    have e1 : (i : Int) + 1 = ((i + 1 : Nat) : Int) := by omega
    have hmk := (hlJ.load (Ext.refl J) hi').1
    have ix := hlJ.idx (H' := J) (i := (i : Int)) (k := .i64) (by omega) (by omega)
    rw [Int.toNat_natCast] at ix
    obtain ⟨x, hx⟩ : ∃ x, M.getD i (0, 0, 0) = x := ⟨_, rfl⟩
    rw [hx] at hmk ew
    have hpush := hown.push (by omega) x.1 x.2.1 x.2.2
    have p5 := pushT_at (l := woTo K M i) (x := x) c5 (hown.aside (by omega))
    have hst5 := store_e2 (w := pushV J (woTo K M i).length) p5 rfl rfl
    have own2 := hown.pushedL (by omega) x
    have xB1 : Ext G (pushTH J sv (woTo K M i) x) := OwnT.ext (Own.weaken hown xB.len) x5 _
    have hf3 : ∀ a b c : Int, fillA [.int .i64 0, .int .i64 0, .int .i64 0] [(0, 3, .agg ⟨[.int .i64 a, .int .i64 b, .int .i64 c]⟩)] = some [.int .i64 a, .int .i64 b, .int .i64 c] := fun _ _ _ => rfl
    (repeat (first | refine yw ?_ | ((first | apply yd | apply ye); simp (disch := first|exact zz|fail) only [go_sem, dec_f hmem]; with_reducible rfl)))
    refine cond_t rfl ?_
    (repeat (first | refine yw ?_ | ((first | apply yd | apply ye); simp (disch := first|exact zz|fail) only [go_sem, load_at c5, load_at k0, evC, ix, hmk, hf3, hpush, hst5]; with_reducible rfl)))
    (repeat (first | refine yw ?_ | ((first | apply yd | apply ye); simp (disch := first|exact zz|fail) only [go_sem, e1]; with_reducible rfl)))
    refine ⟨by omega, pushV J (woTo K M i).length, by simp [forget], xB1.set (by omega) _, get_set_self p5, ?_⟩
    rw [ew]
    refine own2.set_ne (.inr ?_) _
    show J.length + 1 ≠ H.length + 2
    omega
end
end Go.Lq









namespace Go.Lq
open Go
open Go.Proofs

def accRate (L : Int × Int) (l : List (Int × Int)) (i : Nat) : Nat → Option Nat
  | 0 => none
  | n + 1 => if keepsB L (pieceOf l i) = true then accRate L l (i + 1) n else some i
theorem accRate_succ {L : Int × Int} {l : List (Int × Int)} {i n : Nat} : accRate L l i (n + 1) = if keepsB L (pieceOf l i) = true then accRate L l (i + 1) n else some i := rfl
def accMark (M : List Mark) (l : List (Int × Int)) (i : Nat) : Nat → Int × Int
  | 0 => (0, 0)
  | n + 1 => if (l.getD 0 (0, 0)).1 ≤ (M.getD i (0, 0, 0)).1 ∧ (M.getD i (0, 0, 0)).1 ≤ (l.getD (l.length - 1) (0, 0)).1 then
      (if meetsB (pieceP l (M.getD i (0, 0, 0)).1) (M.getD i (0, 0, 0)) = true then accMark M l (i + 1) n else ((i : Int), 13)) else ((i : Int), 14)
theorem accMark_succ {M : List Mark} {l : List (Int × Int)} {i n : Nat} : accMark M l i (n + 1) = if (l.getD 0 (0, 0)).1 ≤ (M.getD i (0, 0, 0)).1 ∧ (M.getD i (0, 0, 0)).1 ≤ (l.getD (l.length - 1) (0, 0)).1 then
      (if meetsB (pieceP l (M.getD i (0, 0, 0)).1) (M.getD i (0, 0, 0)) = true then accMark M l (i + 1) n else ((i : Int), 13)) else ((i : Int), 14) := rfl
def accGo (L : Int × Int) (M : List Mark) (l : List (Int × Int)) : Int × Int := match accRate L l 0 (l.length - 1) with | some i => ((i : Int), 23) | none => accMark M l 0 M.length
section
variable {H : AHeap} {L : Int × Int} {M : List Mark} {v u : Value} {l : List (Int × Int)}
end
end Go.Lq


namespace Go.Lq
open Go
open Go.Proofs

theorem meets_iff {p : (Int × Int) × (Int × Int)} {x : Mark} : meetsB p x = true ↔ atLeast p x.1 x.2.1 ∧ atMost p x.1 x.2.2 := decide_eq_true_iff
section
variable {H : AHeap} {L : Int × Int} {M : List Mark} {v u : Value} {l : List (Int × Int)}
end
end Go.Lq

namespace Go.Lq

theorem accRate_all {L : Int × Int} {l : List (Int × Int)} : ∀ {n i : Nat}, accRate L l i n = none → ∀ j, i ≤ j → j < i + n → keepsB L (pieceOf l j) = true
  | 0, i, _, j, h1, h2 => by omega
  | n + 1, i, h, j, h1, h2 => by
    rw [accRate_succ] at h
    by_cases hk : keepsB L (pieceOf l i) = true
    · rw [if_pos hk] at h
      by_cases e : j = i
      · subst e; exact hk
      · exact accRate_all h j (by omega) (by omega)
    · rw [if_neg hk] at h; cases h
theorem accMark_all {M : List Mark} {l : List (Int × Int)} : ∀ {n i : Nat}, (accMark M l i n).2 = 0 → ∀ j, i ≤ j → j < i + n → ((l.getD 0 (0, 0)).1 ≤ mP M j ∧ mP M j ≤ (l.getD (l.length - 1) (0, 0)).1) ∧ meetsB (pieceP l (mP M j)) (M.getD j (0, 0, 0)) = true
  | 0, i, _, j, h1, h2 => by omega
  | n + 1, i, h, j, h1, h2 => by
    rw [accMark_succ] at h
    by_cases hr : (l.getD 0 (0, 0)).1 ≤ (M.getD i (0, 0, 0)).1 ∧ (M.getD i (0, 0, 0)).1 ≤ (l.getD (l.length - 1) (0, 0)).1
    · rw [if_pos hr] at h
      by_cases hm : meetsB (pieceP l (M.getD i (0, 0, 0)).1) (M.getD i (0, 0, 0)) = true
      · rw [if_pos hm] at h
        by_cases e : j = i
        · subst e; exact ⟨hr, hm⟩
        · exact accMark_all h j (by omega) (by omega)
      · rw [if_neg hm] at h; exact absurd (show (13 : Int) = 0 from h) (by decide)
    · rw [if_neg hr] at h; exact absurd (show (14 : Int) = 0 from h) (by decide)
structure AccOk (L : Int × Int) (M : List Mark) (l : List (Int × Int)) : Prop where
  ok : MapOk l
  rate : RateOk L l
  marks : ∀ j, j < M.length → ((l.getD 0 (0, 0)).1 ≤ mP M j ∧ mP M j ≤ (l.getD (l.length - 1) (0, 0)).1) ∧ (atLeast (pieceP l (mP M j)) (mP M j) (M.getD j (0, 0, 0)).2.1 ∧ atMost (pieceP l (mP M j)) (mP M j) (M.getD j (0, 0, 0)).2.2)
theorem AccOk.of {L : Int × Int} {M : List Mark} {l : List (Int × Int)} (hok : MapOk l) (h : (accGo L M l).2 = 0) : AccOk L M l := by
  unfold accGo at h
  cases hr : accRate L l 0 (l.length - 1) with
  | some i => rw [hr] at h; exact absurd h (by show ¬ ((23 : Int) = 0); decide)
  | none =>
    rw [hr] at h
    have hk := accRate_all hr
    have hm := accMark_all (i := 0) (n := M.length) h
    exact ⟨hok, fun i hi => of_decide_eq_true (hk i (Nat.zero_le _) (by omega)), fun j hj => ⟨(hm j (Nat.zero_le _) (by omega)).1, meets_iff.1 (hm j (Nat.zero_le _) (by omega)).2⟩⟩
section
variable {L : Int × Int} {M : List Mark} {l : List (Int × Int)} (ha : AccOk L M l) (he : EvOk L M)
include ha he
theorem AccOk.one {i : Nat} (hi : i < M.length) {q : Int} (hq : (l.getD 0 (0, 0)).1 ≤ q ∧ q ≤ (l.getD (l.length - 1) (0, 0)).1) : (byR L (M.getD i (0, 0, 0)) q).1 ≤ mapTimLo l q ∧ mapTimHi l q ≤ (byR L (M.getD i (0, 0, 0)) q).2 := by
  have hm := ha.ok
  have hlo := hm.lo
  obtain ⟨m1, m2⟩ := ha.marks i hi
  obtain ⟨b1, b2⟩ := by_encloses hm ha.rate he.le (x := M.getD i (0, 0, 0)) (q := q) m1 hq m2
  obtain ⟨a1, _⟩ := atPos_in (l := l) (t := q) (k := l.length - 2) (i := 0) (by omega) hq.1
  have hp : (pieceP l q).1.1 < (pieceP l q).2.1 := (hm.piece a1).pos
  rw [least_lo hp] at b1
  rw [most_hi hp] at b2
  exact ⟨b1, b2⟩
theorem AccOk.enc (h0 : 0 < M.length) {q : Int} (hq : (l.getD 0 (0, 0)).1 ≤ q ∧ q ≤ (l.getD (l.length - 1) (0, 0)).1) : (encTo L M q M.length).1 ≤ mapTimLo l q ∧ mapTimHi l q ≤ (encTo L M q M.length).2 :=
  enc_le h0 fun _ hi => ha.one he hi hq
end
/-! ### Fewer marks -/
theorem mark_mem {M : List Mark} {x : Mark} (h : x ∈ M) : ∃ k, k < M.length ∧ M.getD k (0, 0, 0) = x := by
  obtain ⟨k, hk, e⟩ := List.getElem_of_mem h
  exact ⟨k, hk, by rw [List.getD_eq_getElem?_getD, List.getElem?_eq_getElem hk]; exact e⟩
theorem getD_mem {M : List Mark} {k : Nat} (h : k < M.length) : M.getD k (0, 0, 0) ∈ M := by
  rw [List.getD_eq_getElem?_getD, List.getElem?_eq_getElem h]; exact List.getElem_mem h
theorem pair_iff {M : List Mark} {R : Mark → Mark → Prop} : M.Pairwise R ↔ ∀ i k, i < k → k < M.length → R (M.getD i (0, 0, 0)) (M.getD k (0, 0, 0)) := by
  rw [List.pairwise_iff_getElem]
  constructor
  · intro h i k hik hk
    rw [List.getD_eq_getElem?_getD, List.getElem?_eq_getElem (show i < M.length by omega), List.getD_eq_getElem?_getD, List.getElem?_eq_getElem hk]
    exact h i k _ _ hik
  · intro h i k hi hk hik
    have := h i k hik hk
    rw [List.getD_eq_getElem?_getD, List.getElem?_eq_getElem hi, List.getD_eq_getElem?_getD, List.getElem?_eq_getElem hk] at this
    exact this
theorem EvOk.sub {L : Int × Int} {M N : List Mark} (h : EvOk L M) (hs : N.Sublist M) : EvOk L N := by
  have hm : ∀ i, i < N.length → ∃ k, k < M.length ∧ M.getD k (0, 0, 0) = N.getD i (0, 0, 0) := fun i hi => mark_mem (hs.subset (getD_mem hi))
  refine ⟨h.lo, h.hi, h.le, Nat.le_trans hs.length_le h.len, fun i hi => ?_, fun i hi => ?_, fun i hi => ?_, fun i hi => ?_, fun i hi => ?_⟩
  · obtain ⟨k, hk, e⟩ := hm i hi; rw [← e]; exact h.pos k hk
  · obtain ⟨k, hk, e⟩ := hm i hi; rw [← e]; exact h.t1 k hk
  · obtain ⟨k, hk, e⟩ := hm i hi; rw [← e]; exact h.t2 k hk
  · obtain ⟨k, hk, e⟩ := hm i hi; rw [← e]; exact h.lohi k hk
  · have hp : M.Pairwise (fun a b => a.1 < b.1) := pair_iff.2 fun i k hik hk => h.lt hik hk
    exact pair_iff.1 (hp.sublist hs) i (i + 1) (by omega) hi
theorem NoClash.sub {L : Int × Int} {M N : List Mark} (h : NoClash L M) (hs : N.Sublist M) : NoClash L N := by
  have hp : M.Pairwise (fun a b => clashB L a b = false) := pair_iff.2 h
  exact pair_iff.1 (hp.sublist hs)
theorem ckMarks_from {M : List Mark} : ∀ {i : Nat}, (∀ j, j < i → markO (lastAt M j) (M.getD j (0, 0, 0)) = 0) → i ≤ M.length → ckMarks (-1) 0 M = ckMarks (lastAt M i) i (M.drop i)
  | 0, _, _ => rfl
  | i + 1, h, hi => by
    rw [ckMarks_from (i := i) (fun j hj => h j (by omega)) (by omega), ckMarks_at (by omega), if_neg (by rw [h i (by omega)]; decide)]
theorem EvOk.err {L : Int × Int} {M : List Mark} (h : EvOk L M) : evErrL L M = 0 := by
  have hlen := h.len
  have e1 : limE L M.length = 0 := by unfold limE; rw [if_pos ⟨h.lo, h.hi⟩, firstErr_z, if_pos h.le, firstErr_z, if_pos (by omega), firstErr_z]; rfl
  unfold evErrL ckEv
  rw [if_neg (by rw [e1]; decide), ckMarks_from (i := M.length) (fun j hj => ?_) (Nat.le_refl _), ckMarks_end]
  have hp := h.pos j hj
  have hlast : lastAt M j < (M.getD j (0, 0, 0)).1 := by
    cases j with
    | zero => show (-1 : Int) < _; omega
    | succ j => rw [lastAt_succ]; exact h.up j hj
  unfold markO markE
  rw [if_pos ⟨hp, h.t1 j hj, h.t2 j hj⟩, firstErr_z, if_pos (h.lohi j hj), firstErr_z, if_pos hlast]
  rfl
end Go.Lq

namespace Go.Lq
open Go
open Go.Proofs

theorem intsN_at {l : List Nat} {i : Nat} (h : i < l.length) : (intsN l).getD i 0 = ((l.getD i 0 : Nat) : Int) := by
  unfold intsN
  rw [List.getD_eq_getElem?_getD, List.getElem?_map, List.getD_eq_getElem?_getD, List.getElem?_eq_getElem h]; rfl
theorem intsN_mem {l : List Nat} {n : Nat} : (n : Int) ∈ intsN l ↔ n ∈ l := by
  unfold intsN
  rw [List.mem_map]
  constructor
  · rintro ⟨x, hx, e⟩
    obtain rfl : x = n := by omega
    exact hx
  · exact fun h => ⟨n, h, rfl⟩
theorem woTo_withoutL {M : List Mark} {s : List Nat} : woTo (intsN s) M M.length = withoutL M s := by
  have h : ∀ n, woTo (intsN s) M n = ((List.range n).filter fun i => !s.contains i).map fun i => M.getD i (0, 0, 0) := by
    intro n
    induction n with
    | zero => rfl
    | succ n ih =>
      rw [woTo_succ, List.range_succ, List.filter_append, List.map_append, ih]
      by_cases hm : n ∈ s
      · rw [if_pos (intsN_mem.2 hm)]
        simp [hm]
      · rw [if_neg (fun h => hm (intsN_mem.1 h))]
        simp [hm]
  exact h M.length
section
variable {H : AHeap}
end
end Go.Lq

namespace Go.Lq
open Go
open Go.Proofs

def GenS (P : Program) (f : FuncId) (xs ys : List Value) (Fact : AHeap → Prop) (items : List (List Nat)) : Prop :=
  ∀ (l : Nat) (I : (Nat → Prop) → List (List Nat) → AHeap → Prop) (S : AHeap → Prop) (H : AHeap), (∀ B rest H, I B rest H → Fact H) → (∀ B rest H N, I B rest H → I B rest (H ++ N)) →
    (∀ B rest H c, I B rest H → I (fun b => B b ∨ b = H.length) rest (H ++ [c])) → (∀ B b rest H c, B b → I B rest H → I B rest (H.set b c)) →
    (∀ B s rest H' w, I B (s :: rest) H' → OwnI H H' (intsN s) w → ARound P l [w] H' fun v H'' => (v = .bool true ∧ I B rest H'' ∧ ∀ b c, B b → H'[b]? = some c → H''[b]? = some c) ∨ (v = .bool false ∧ S H'')) → I (fun _ => False) items H →
    ACall P f (xs ++ [.func (.yield l) #[] #[]] ++ ys) H fun _ H' => (∃ B, I B [] H') ∨ S H'
section
variable {P : Program} {ar : Option Nat} {g : Operand} {f : FuncId} {xs ys : List Value} {ps : List Nat} {assign body : RCode} {Q : AExit → Env → AHeap → Prop} {env : Env} {H : AHeap} {Fact : AHeap → Prop} {items : List (List Nat)}
theorem awp_rangeS (hm : P.follows .mixedOrders = true) (hg : evalA env g = .func (.func f) ⟨xs⟩ ⟨ys⟩) (har : ∀ l, ar = some l → ∃ r, H[l]? = some (.loop r)) (hgen : GenS P f xs ys Fact items)
    (J : (Nat → Prop) → List (List Nat) → AHeap → Prop) (S : AExit → AHeap → Prop) (hJ : ∀ B rest H' c, J B rest H' → J B rest (H'.set H.length c)) (hS : ∀ x H' c, S x H' → S x (H'.set H.length c)) (hF : ∀ B rest H', J B rest H' → Fact H')
    (happ : ∀ B rest H' N, J B rest H' → J B rest (H' ++ N)) (hpriv : ∀ B rest H' c, J B rest H' → H.length < H'.length → J (fun b => B b ∨ b = H'.length) rest (H' ++ [c])) (hset : ∀ B b rest H' c, B b → J B rest H' → J B rest (H'.set b c))
    (h0 : ∀ N, J (fun _ => False) items (H ++ N))
    (hbody : ∀ B s rest H1 w, (∀ b, B b → b ≠ H.length) → J B (s :: rest) H1 → OwnI (H ++ [.dead]) H1 (intsN s) w → H.length < H1.length →
      1 = ps.length ∧ Round P H.length assign body (assignParams env ps [w]) H1 (fun H' => J B rest H' ∧ ∀ b c, B b → H1[b]? = some c → H'[b]? = some c) S)
    (hend : ∀ B H', J B [] H' → Q .normal env H') (hstop : ∀ x H', x ≠ .normal → S x H' → Q x env H') : AWP P ar (.rangeFunc g ps assign body) Q env H := by
  refine awp_rangeFunc hg har ?_
  show ACall P f _ (H ++ [.loop (recOf env ps assign body)]) _
  refine (hgen H.length (fun B rest H' => J B rest H' ∧ (∀ b, B b → b ≠ H.length) ∧ H'[H.length]? = some (.loop (recOf env ps assign body)))
    (fun H' => ∃ x, x ≠ .normal ∧ S x H' ∧ H'[H.length]? = some (.loop { recOf env ps assign body with state := .done, pending := some x })) _ (fun B rest H' h => hF B rest H' h.1)
    (fun B rest H' N ⟨h1, hb, h2⟩ => ⟨happ _ _ _ _ h1, hb, by rw [List.getElem?_append_left (List.getElem?_eq_some_iff.1 h2).1]; exact h2⟩)
    (fun B rest H' c ⟨h1, hb, h2⟩ => ⟨hpriv _ _ _ _ h1 (List.getElem?_eq_some_iff.1 h2).1, fun b hB => ?_, by rw [List.getElem?_append_left (List.getElem?_eq_some_iff.1 h2).1]; exact h2⟩)
    (fun B b rest H' c hB ⟨h1, hb, h2⟩ => ⟨hset _ _ _ _ _ hB h1, hb, by rw [List.getElem?_set_ne (hb b hB)]; exact h2⟩)
    (fun B a rest H1 w ⟨h1, hb, h2⟩ hw => ?_) ⟨h0 _, fun _ h => h.elim, by simp⟩).mono fun _ H' h => ?_
  · rcases hB with hB | rfl
    · exact hb b hB
    · have := (List.getElem?_eq_some_iff.1 h2).1; omega
  · have hw' : OwnI (H ++ [.dead]) H1 (intsN a) w := OwnI.weaken hw (by simp)
    refine round_of (J := fun H' => J B rest H' ∧ ∀ b c, B b → H1[b]? = some c → H'[b]? = some c) hm (hbody B a rest H1 w hb h1 hw' (List.getElem?_eq_some_iff.1 h2).1).1 (hbody B a rest H1 w hb h1 hw' (List.getElem?_eq_some_iff.1 h2).1).2 h2 rfl rfl (fun H' c ⟨h, h'⟩ _ => ⟨hJ _ _ _ _ h, fun b d hB hc => by rw [List.getElem?_set_ne (Ne.symm (hb b hB))]; exact h' b d hB hc⟩) (fun H' h3 h4 => .inl ⟨rfl, ⟨h4.1, hb, h3⟩, h4.2⟩) fun H' x hn h3 ⟨H3, h4, e⟩ => .inr ⟨rfl, x, hn, ?_, h3⟩
    rw [e]; exact hS _ _ _ h4
  · rcases h with ⟨B, h1, _, h2⟩ | ⟨x, hn, h1, h2⟩
    · exact rangeEnd_n h2 rfl rfl fun c => hend B _ (hJ _ _ _ _ h1)
    · exact rangeEnd_x hn h2 fun c => hstop x _ hn (hS _ _ _ h1)
end

theorem subsF_cons {n d k : Nat} (h : k < n) : subsF n (d + 1) k = (subsF n d (k + 1)).map (fun l => k :: l) ++ subsF n (d + 1) (k + 1) := by
  have e : n - k = n - (k + 1) + 1 := by omega
  show (List.range (n - k)).flatMap _ = _ ++ (List.range (n - (k + 1))).flatMap _
  rw [e, List.range_succ_eq_map, List.flatMap_cons, List.flatMap_map]
  refine congrArg (List.map (fun l => k :: l) (subsF n d (k + 1)) ++ ·) ?_
  refine congrArg (fun f => List.flatMap f (List.range (n - (k + 1)))) (funext fun j => ?_)
  show (subsF n d (k + (j + 1) + 1)).map (fun l => (k + (j + 1)) :: l) = _
  rw [show k + (j + 1) = k + 1 + j by omega]
theorem subsF_end {n d k : Nat} (h : n ≤ k) : subsF n (d + 1) k = [] := by
  show (List.range (n - k)).flatMap _ = _
  rw [show n - k = 0 by omega]; rfl
theorem subsF_zero {n k : Nat} : subsF n 0 k = [[]] := rfl

def SetV (B : Nat → Prop) (H : AHeap) (s : List Nat) (v : Value) : Prop := (s = [] ∧ v = .slice none 0 0) ∨ ∃ id c, v = .slice (some ⟨id, 0, none⟩) s.length c ∧ 0 < s.length ∧ B id ∧ H[id]? = some (.cells true 1 ((intsN s).map (.int .i64)))
theorem SetV.ints {B : Nat → Prop} {H : AHeap} {s : List Nat} {v : Value} (h : SetV B H s v) : Ints H (intsN s) v := by
  rcases h with ⟨rfl, rfl⟩ | ⟨id, c, rfl, _, _, h⟩
  · exact ⟨rfl, .inl ⟨rfl, rfl⟩⟩
  · have e := intsN_len s
    refine ⟨by simp, .inr ⟨id, 0, c, by rw [e], fun _ => ?_⟩⟩
    unfold cellsAt
    rw [h]
    dsimp only
    rw [if_pos (by simp), List.drop_zero, List.take_of_length_le (by simp)]
theorem SetV.keep {B B' : Nat → Prop} {H H' : AHeap} {s : List Nat} {v : Value} (h : SetV B H s v) (hB : ∀ b, B b → B' b) (hk : ∀ b c, B b → H[b]? = some c → H'[b]? = some c) : SetV B' H' s v := by
  rcases h with h | ⟨id, c, e, h0, hb, h⟩
  · exact .inl h
  · exact .inr ⟨id, c, e, h0, hB _ hb, hk _ _ hb h⟩
def fullV (v : Value) : Value := match v with | .slice (some a) n _ => .slice (some a) n 0 | v => v
theorem full_r {B : Nat → Prop} {H J : AHeap} {s : List Nat} {v : Value} (h : SetV B H s v) : sliceR 1 v none (some (.int .i64 (s.length : Nat))) (some (.int .i64 (s.length : Nat))) J = some (fullV v, J) := by
  rcases h with ⟨rfl, rfl⟩ | ⟨id, c, rfl, _, _, _⟩
  · rfl
  · simp [sliceR, sliceA, loA, hiA, fullV]
theorem full_push {B : Nat → Prop} {H : AHeap} {s : List Nat} {v : Value} {x : Nat} (h : SetV B H s v) (hs : s.length ≤ 1000) :
    appendF 1 8 (H ++ [.cells true 1 [.int .i64 (x : Nat)]]) (fullV v) (.slice (some ⟨H.length, 0, none⟩) 1 1) =
      some (.slice (some ⟨H.length + 1, 0, none⟩) (s.length + 1) (s.length + 1), H ++ [.cells true 1 [.int .i64 (x : Nat)]] ++ [.cells true 1 ((intsN (s ++ [x])).map (.int .i64))]) := by
  have hn : cellsAt (H ++ [AObj.cells true 1 [.int .i64 (x : Nat)]]) H.length 0 (1 * 1) = some [.int .i64 (x : Nat)] := by
    unfold cellsAt
    rw [at_new]; rfl
  have hroom : roomOk 8 (s.length + 1) = true := roomOk_of (by omega) (by omega)
  rcases h with ⟨rfl, rfl⟩ | ⟨id, c, rfl, h0, _, h⟩
  · have e : fullV (.slice none 0 0) = .slice none 0 0 := rfl
    rw [e, appendF_nil]
    have hr1 : roomOk 8 1 = true := roomOk_of (by omega) (by omega)
    have ha : ([.int .i64 (x : Nat)] : List Value).all isAtom = true := rfl
    simp only [appendA, hn, ha, hr1, and_self, if_true, List.length_append, List.length_cons, List.length_nil]
    rfl
  · obtain ⟨m, hm⟩ : ∃ m, s.length = m + 1 := ⟨s.length - 1, by omega⟩
    have e : fullV (.slice (some ⟨id, 0, none⟩) s.length c) = .slice (some ⟨id, 0, none⟩) (m + 1) 0 := by rw [← hm]; rfl
    have ho : cellsAt (H ++ [AObj.cells true 1 [.int .i64 (x : Nat)]]) id 0 ((m + 1) * 1) = some ((intsN s).map (.int .i64)) := by
      unfold cellsAt
      rw [at_app h]
      dsimp only
      rw [if_pos (by simp [intsN_len]; omega), List.drop_zero, List.take_of_length_le (by simp [intsN_len]; omega)]
    rw [hm] at hroom
    have hr2 : roomOk 8 (m + 1 + (0 + 1)) = true := hroom
    rw [e]
    unfold appendF
    rw [if_neg (by simp [fullS])]
    have hn' : cellsAt (H ++ [AObj.cells true 1 [.int .i64 (x : Nat)]]) H.length 0 ((0 + 1) * 1) = some [.int .i64 (x : Nat)] := hn
    show (match cellsAt (H ++ [AObj.cells true 1 [.int .i64 (x : Nat)]]) id 0 ((m + 1) * 1), cellsAt (H ++ [AObj.cells true 1 [.int .i64 (x : Nat)]]) H.length 0 ((0 + 1) * 1) with
      | some old, some new => if roomOk 8 (m + 1 + (0 + 1)) = true then some (Value.slice (some ⟨(H ++ [AObj.cells true 1 [.int .i64 (x : Nat)]]).length, 0, none⟩) (m + 1 + (0 + 1)) (m + 1 + (0 + 1)), (H ++ [AObj.cells true 1 [.int .i64 (x : Nat)]]) ++ [AObj.cells true 1 (old ++ new)]) else none
      | _, _ => none) = _
    rw [ho, hn']
    show (if roomOk 8 (m + 1 + (0 + 1)) = true then _ else _) = _
    rw [if_pos hr2, hm, intsN_push, List.map_append]
    simp
section
variable {H : AHeap}
theorem cloneS_c {B : Nat → Prop} {s : List Nat} {v : Value} (h : SetV B H s v) (hl : s.length ≤ 1000) : ACall Go.Proofs.Try.prog 134 [v] H (IntsRet H (intsN s)) := by
  refine ACall.ints ?_
  have hX := h.ints
  rcases h with ⟨rfl, rfl⟩ | ⟨id, c, rfl, h0, _, h⟩
  · (refine a134 ?_; simp only [n134, List.replicate, yq, yr, yt, yu]; first | refine q1 ?_ | refine q2 ?_ | refine q6 ?_ | refine q7 ?_ | refine qh rfl ?_ | skip)
    (refine yg ?_)
    refine cond_t rfl ?_
    (refine yg ?_)
    exact fin_1 ⟨Ext.refl _, OwnI.nil _ _⟩
  · (refine a134 ?_; simp only [n134, List.replicate, yq, yr, yt, yu]; first | refine q1 ?_ | refine q2 ?_ | refine q6 ?_ | refine q7 ?_ | refine qh rfl ?_ | skip)
    (refine yg ?_)
    refine cond_f rfl ?_
    obtain ⟨s', H', h1, h2, id', rfl, h3, h4⟩ := append_copy (bytes := 8) hX (isAtom_ints _) (roomOk_of (by rw [intsN_len]; omega) (by rw [intsN_len]; omega))
    (repeat (first | refine yw ?_ | ((first | apply yd | apply ye); simp (disch := first|exact zz|fail) only [go_sem, h1]; with_reducible rfl)))
    exact fin_1 ⟨h2, by simp, .inr ⟨id', rfl, h3, by rw [intsN_len]; exact h0, h4⟩⟩
theorem sindex_c {K : List Int} {v : Value} {x : Int} (hl : Ints H K v) (hb : K.length ≤ 1000000000) :
    ACall Go.Proofs.Try.prog 135 [v, .int .i64 x] H fun w H' => ∃ r : Int, w = .int .i64 r ∧ (0 ≤ r ↔ x ∈ K) ∧ H' = H := by
  (refine a135 ?_; simp only [n135, List.replicate, yq, yr, yt, yu]; first | refine q1 ?_ | refine q2 ?_ | refine q6 ?_ | refine q7 ?_ | refine qh rfl ?_ | skip)
  (repeat (first | refine yw ?_ | ((first | apply yd | apply ye); simp (disch := first|exact zz|fail) only [go_sem, hl.len, hl.idx, hl.load]; with_reducible rfl)))
  refine awp_loop_n [true, true, false, false, false, false, true, true, true, false, false, false, false, false, false, false, false, false, false] K.length (fun i e H' => H' = H ∧ e = [v, .int .i64 x, junk, junk, junk, junk, v, .int .i64 K.length, .int .i64 i, junk, junk, junk, junk, junk, junk, junk, junk, junk, junk] ∧ ∀ j : Nat, j < i → K.getD j 0 ≠ x) ?_ ?_
  · exact ⟨rfl, by simp [forget], by omega⟩
  rintro i e H1 hi ⟨rfl, rfl, hbef⟩
  (refine yg ?_)
  refine cond_p rfl (fun hlt => ?_) (fun hge => ?_)
  rotate_left 1
  · obtain rfl : i = K.length := by omega
    have hn : ¬ x ∈ K := fun hm => by
      obtain ⟨j, hj, e⟩ := List.getElem_of_mem hm
      exact hbef j hj (by rw [List.getD_eq_getElem?_getD, List.getElem?_eq_getElem hj]; exact e)
    (refine yg ?_)
    exact fin_1 ⟨-1, rfl, ⟨fun h => by omega, fun h => absurd h hn⟩, rfl⟩
  have hi' : i < K.length := by omega
  by_cases e : x = K.getD i 0
  · (repeat (first | refine yw ?_ | ((first | apply yd | apply ye); simp (disch := first|exact zz|fail) only [go_sem, hl.len, hl.idx, hl.load, dec_t e]; with_reducible rfl)))
    refine cond_t rfl ?_
    (refine yg ?_)
    refine fin_1 ⟨(i : Nat), rfl, ⟨fun _ => ?_, fun _ => by omega⟩, rfl⟩
    rw [e, List.getD_eq_getElem?_getD, List.getElem?_eq_getElem hi']; exact List.getElem_mem hi'
  · have e1 : (i : Int) + 1 = ((i + 1 : Nat) : Int) := by omega
    (repeat (first | refine yw ?_ | ((first | apply yd | apply ye); simp (disch := first|exact zz|fail) only [go_sem, hl.len, hl.idx, hl.load, dec_f e]; with_reducible rfl)))
    refine cond_f rfl ?_
    (repeat (first | refine yw ?_ | ((first | apply yd | apply ye); simp (disch := first|exact zz|fail) only [go_sem, e1]; with_reducible rfl)))
    refine ⟨by omega, rfl, by simp [forget], fun j hj => ?_⟩
    by_cases hji : j = i
    · subst hji; exact fun h => e h.symm
    · exact hbef j (by omega)
theorem contains_c {K : List Int} {v : Value} {x : Int} (hl : Ints H K v) (hb : K.length ≤ 1000000000) :
    ACall Go.Proofs.Try.prog 118 [v, .int .i64 x] H fun w H' => w = .bool (decide (x ∈ K)) ∧ H' = H := by
  (refine a118 ?_; simp only [n118, List.replicate, yq, yr, yt, yu]; first | refine q1 ?_ | refine q2 ?_ | refine q6 ?_ | refine q7 ?_ | refine qh rfl ?_ | skip)
  (refine yg ?_)
  refine aops_call ((sindex_c hl hb).mono fun w H1 ⟨r, hw, hr, e⟩ => ?_)
  subst hw
  subst e
  (refine yg ?_)
  exact fin_1 ⟨congrArg Value.bool (decide_eq_decide.2 hr), rfl⟩
end
end Go.Lq

namespace Go.Lq
open Go
open Go.Proofs

section
variable {n c lp jc jb jy jg : Nat} {I : (Nat → Prop) → List (List Nat) → AHeap → Prop} {S : AHeap → Prop} {G0 : AHeap}
def growV (jc jy jb jg : Nat) : Value := .func (.func 133) #[] #[.pointer (some ⟨jc, 0, none⟩), .pointer (some ⟨jy, 0, none⟩), .pointer (some ⟨jb, 0, none⟩), .pointer (some ⟨jg, 0, none⟩)]
set_option maxHeartbeats 8000000 in
theorem grow_c (hc : c ≤ 12) (hn : n ≤ 12)
    (hF : ∀ B rest H, I B rest H → H[jc]? = some (.cells true 0 [.int .i64 (c : Nat)]) ∧ H[jb]? = some (.cells true 0 [.int .i64 (n : Nat)])) (hjy : G0.length ≤ jy) (happ : ∀ B rest H N, I B rest H → I B rest (H ++ N))
    (hpriv : ∀ B rest H c, I B rest H → I (fun b => B b ∨ b = H.length) rest (H ++ [c]))
    (hround : ∀ B s rest H' w, I B (s :: rest) H' → OwnI G0 H' (intsN s) w → ARound Go.Proofs.Try.prog lp [w] H' fun v H'' => (v = .bool true ∧ I B rest H'' ∧ ∀ b c, B b → H'[b]? = some c → H''[b]? = some c) ∨ (v = .bool false ∧ S H'')) :
    ∀ (d : Nat) (s : List Nat) (k : Nat) (v : Value) (B : Nat → Prop) (rest : List (List Nat)) (H : AHeap), d + s.length = c → k ≤ n → B jy → B jg → H[jy]? = some (.cells true 0 [.func (.yield lp) #[] #[]]) → H[jg]? = some (.cells true 0 [growV jc jy jb jg]) → SetV B H s v →
      I B ((subsF n d k).map (fun t => s ++ t) ++ rest) H →
      ACall Go.Proofs.Try.prog 133 [v, .int .i64 (k : Nat), .pointer (some ⟨jc, 0, none⟩), .pointer (some ⟨jy, 0, none⟩), .pointer (some ⟨jb, 0, none⟩), .pointer (some ⟨jg, 0, none⟩)] H
        fun w H' => (w = .bool true ∧ ∃ B', (∀ b, B b → B' b) ∧ I B' rest H' ∧ ∀ b c, B b → H[b]? = some c → H'[b]? = some c) ∨ (w = .bool false ∧ S H') := by
  intro d
  induction d with
  | zero =>
    intro s k v B rest H hd hk b1 b2 hy hg hv hI
    obtain ⟨f1, f2⟩ := hF _ _ _ hI
    have f3 : G0.length ≤ H.length := by have := (List.getElem?_eq_some_iff.1 hy).1; omega
    have hlv := hv.ints.len (H' := H)
    rw [intsN_len] at hlv
    rw [subsF_zero] at hI
    simp only [List.map_cons, List.map_nil, List.append_nil, List.cons_append, List.nil_append] at hI
    (refine a133 ?_; simp only [n133, List.replicate, yq, yr, yt, yu]; first | refine q1 ?_ | refine q2 ?_ | refine q6 ?_ | refine q7 ?_ | refine qh rfl ?_ | skip)
    (repeat (first | refine yw ?_ | ((first | apply yd | apply ye); simp (disch := first|exact zz|fail) only [go_sem, hlv, load_at f1, dec_t (show ((s.length : Nat) : Int) = (c : Int) by omega)]; with_reducible rfl)))
    refine cond_t rfl ?_
    (repeat (first | refine yw ?_ | ((first | apply yd | apply ye); simp (disch := first|exact zz|fail) only [go_sem, load_at hy]; with_reducible rfl)))
    refine adraw_call (cloneS_c hv (by omega)) ?_
    have hI2 := happ _ _ _ (retN 1 (intsN s).length ((intsN s).map (.int .i64))) hI
    have hw := OwnI.ret_own (H0 := G0) (H := H) (l := intsN s) f3
    have hkeep : ∀ b c, H[b]? = some c → (H ++ retN 1 (intsN s).length ((intsN s).map (.int .i64)))[b]? = some c := fun b c h => at_app h
    generalize (H ++ retN 1 (intsN s).length ((intsN s).map (.int .i64)) : AHeap) = H2 at hI2 hw hkeep
    generalize retV H (intsN s).length = w at hw
    (refine yg ?_)
    refine adraw_callV ?_
    refine aops_call ((hround _ _ _ _ w hI2 hw).mono fun v1 H3 h => ?_)
    rcases h with ⟨rfl, hI3, hk3⟩ | ⟨rfl, hS⟩
    · (refine yg ?_)
      exact fin_1 (.inl ⟨rfl, B, fun _ h => h, hI3, fun b c hb h => hk3 b c hb (hkeep b c h)⟩)
    · (refine yg ?_)
      exact fin_1 (.inr ⟨rfl, hS⟩)
  | succ d ih =>
    intro s k v B rest H hd hk b1 b2 hy hg hv hI
    obtain ⟨f1, f2⟩ := hF _ _ _ hI
    have hlv := hv.ints.len (H' := H)
    rw [intsN_len] at hlv
    (refine a133 ?_; simp only [n133, List.replicate, yq, yr, yt, yu]; first | refine q1 ?_ | refine q2 ?_ | refine q6 ?_ | refine q7 ?_ | refine qh rfl ?_ | skip)
    (repeat (first | refine yw ?_ | ((first | apply yd | apply ye); simp (disch := first|exact zz|fail) only [go_sem, hlv, load_at f1, dec_f (show ¬ ((s.length : Nat) : Int) = (c : Int) by omega)]; with_reducible rfl)))
    refine cond_f rfl ?_
    (refine yg ?_)
    refine awp_loop_n [true, false, true, true, true, true, false, false, false, true, false, false, false, false, false, false, false, false, false, false, false, false, false, false, false, false, false, false, false, false, false, false, false, false, false, false, false, false] (n - k) (fun j e J => ∃ B', e = [v, junk, .pointer (some ⟨jc, 0, none⟩), .pointer (some ⟨jy, 0, none⟩), .pointer (some ⟨jb, 0, none⟩), .pointer (some ⟨jg, 0, none⟩), junk, junk, junk, .int .i64 ((k + j : Nat) : Int), junk, junk, junk, junk, junk, junk, junk, junk, junk, junk, junk, junk, junk, junk, junk, junk, junk, junk, junk, junk, junk, junk, junk, junk, junk, junk, junk, junk] ∧
      (∀ b, B b → B' b) ∧ I B' ((subsF n (d + 1) (k + j)).map (fun t => s ++ t) ++ rest) J ∧ ∀ b c, B b → H[b]? = some c → J[b]? = some c) ?_ ?_
    · exact ⟨B, by simp [forget], fun _ h => h, hI, fun _ _ _ h => h⟩
    rintro j e J hj ⟨B', rfl, hB, hI1, hk1⟩
    obtain ⟨f1, f2⟩ := hF _ _ _ hI1
    (repeat (first | refine yw ?_ | ((first | apply yd | apply ye); simp (disch := first|exact zz|fail) only [go_sem, load_at f2]; with_reducible rfl)))
    refine cond_p rfl (fun hlt => ?_) (fun hge => ?_)
    rotate_left 1
    · rw [subsF_end (by omega)] at hI1
      (refine yg ?_)
      exact fin_1 (.inl ⟨rfl, B', hB, hI1, hk1⟩)
    have hlt' : k + j < n := by omega
    have hv1 := hv.keep hB hk1
    have hfu := full_r (J := J) hv1
    have hlv1 := hv1.ints.len (H' := J)
    rw [intsN_len] at hlv1
    have hpu := full_push (H := J) (x := k + j) hv1 (by omega)
    rw [subsF_cons hlt', List.map_append, List.map_map, List.append_assoc] at hI1
    have e1 : ((fun t => s ++ t) ∘ fun l => (k + j) :: l) = fun t => (s ++ [k + j]) ++ t := funext fun t => by simp
    rw [e1] at hI1
    have e2 : ((k + j : Nat) : Int) + 1 = ((k + j + 1 : Nat) : Int) := by omega
    have hI2 := hpriv _ _ _ (.cells true 1 ((intsN (s ++ [k + j])).map (.int .i64))) (happ _ _ _ [.cells true 1 [.int .i64 ((k + j : Nat) : Int)]] hI1)
    have hg1 := hk1 _ _ b2 hg
    (repeat (first | refine yw ?_ | ((first | apply yd | apply ye); simp (disch := first|exact zz|fail) only [go_sem, load_at hg1, hlv1, hfu, hpu, e2]; with_reducible rfl)))
    have hk2 : ∀ b c, J[b]? = some c → (J ++ [AObj.cells true 1 [.int .i64 ((k + j : Nat) : Int)]] ++ [AObj.cells true 1 ((intsN (s ++ [k + j])).map (.int .i64))])[b]? = some c := fun b c h => at_app (at_app h)
    have hat : (J ++ [AObj.cells true 1 [.int .i64 ((k + j : Nat) : Int)]] ++ [AObj.cells true 1 ((intsN (s ++ [k + j])).map (.int .i64))])[J.length + 1]? = some (.cells true 1 ((intsN (s ++ [k + j])).map (.int .i64))) := by simp
    have lJ : (J ++ [AObj.cells true 1 [.int .i64 ((k + j : Nat) : Int)]]).length = J.length + 1 := by simp
    rw [lJ] at hI2
    generalize (J ++ [AObj.cells true 1 [.int .i64 ((k + j : Nat) : Int)]] ++ [AObj.cells true 1 ((intsN (s ++ [k + j])).map (.int .i64))] : AHeap) = J2 at hI2 hk2 hat
    have hv2 : SetV (fun b => B' b ∨ b = J.length + 1) J2 (s ++ [k + j]) (.slice (some ⟨J.length + 1, 0, none⟩) (s.length + 1) (s.length + 1)) := .inr ⟨J.length + 1, s.length + 1, by simp, by simp, .inr rfl, hat⟩
    refine adraw_callV ?_
    refine aops_call ((ih (s ++ [k + j]) (k + j + 1) _ _ _ J2 (by simp; omega) (by omega) (.inl (hB _ b1)) (.inl (hB _ b2)) (hk2 _ _ (hk1 _ _ b1 hy)) (hk2 _ _ hg1) hv2 hI2).mono fun v1 J3 h => ?_)
    rcases h with ⟨rfl, B3, hB3, hI3, hk3⟩ | ⟨rfl, hS⟩
    · (refine yg ?_)
      refine cond_f rfl ?_
      (refine yg ?_)
      exact ⟨by omega, B3, by simp [forget]; omega, fun b hb => hB3 b (.inl (hB b hb)), hI3, fun b c hb h => hk3 b c (.inl (hB b hb)) (hk2 b c (hk1 b c hb h))⟩
    · (refine yg ?_)
      refine cond_t rfl ?_
      (refine yg ?_)
      exact fin_1 (.inr ⟨rfl, hS⟩)
set_option maxHeartbeats 8000000 in
theorem subsets1_c (hc : c ≤ 12) (hn : n ≤ 12) : GenS Go.Proofs.Try.prog 132 [] [.pointer (some ⟨jc, 0, none⟩), .pointer (some ⟨jb, 0, none⟩)]
    (fun H => H[jc]? = some (.cells true 0 [.int .i64 (c : Nat)]) ∧ H[jb]? = some (.cells true 0 [.int .i64 (n : Nat)])) (subsF n c 0) := by
  intro lp I S H hF happ hpriv hset hround h0
  show ACall _ _ [.func (.yield lp) #[] #[], .pointer (some ⟨jc, 0, none⟩), .pointer (some ⟨jb, 0, none⟩)] _ _
  obtain ⟨f1, f2⟩ := hF _ _ _ h0
  have hlt1 := (List.getElem?_eq_some_iff.1 f1).1
  have hI1 := hpriv _ _ _ (AObj.cells true 0 [.func (.yield lp) #[] #[]]) h0
  have hI2 := hpriv _ _ _ (AObj.cells true 0 [.nilFunc]) hI1
  have c3 : (H ++ [AObj.cells true 0 [.func (.yield lp) #[] #[]]] ++ [AObj.cells true 0 [.nilFunc]])[H.length]? = some (.cells true 0 [.func (.yield lp) #[] #[]]) := at_app at_new
  have c4 : (H ++ [AObj.cells true 0 [.func (.yield lp) #[] #[]]] ++ [AObj.cells true 0 [.nilFunc]])[H.length + 1]? = some (.cells true 0 [.nilFunc]) := by simp
  have l1 : (H ++ [AObj.cells true 0 [.func (.yield lp) #[] #[]]]).length = H.length + 1 := by simp
  rw [l1] at hI2
  have c4' : ∀ c, (((H ++ [AObj.cells true 0 [.func (.yield lp) #[] #[]]] ++ [AObj.cells true 0 [.nilFunc]]).set (H.length + 1) c))[H.length]? = some (.cells true 0 [.func (.yield lp) #[] #[]]) := fun c => by rw [List.getElem?_set_ne (by omega)]; exact c3
  have hst := store_b1 (y := growV jc H.length jb (H.length + 1)) c4 rfl rfl
  have hI3 := hset _ (H.length + 1) _ _ (.cells true 0 [growV jc H.length jb (H.length + 1)]) (.inr rfl) hI2
  have c5 := c4' (.cells true 0 [growV jc H.length jb (H.length + 1)])
  have c6 := get_set_self (d := .cells true 0 [growV jc H.length jb (H.length + 1)]) c4
  have e0 : subsF n c 0 = (subsF n c 0).map (fun t => [] ++ t) ++ [] := by simp
  rw [e0] at hI3
  have egv : growV jc H.length jb (H.length + 1) = .func (.func 133) #[] #[.pointer (some ⟨jc, 0, none⟩), .pointer (some ⟨H.length, 0, none⟩), .pointer (some ⟨jb, 0, none⟩), .pointer (some ⟨H.length + 1, 0, none⟩)] := rfl
  rw [egv] at hst hI3 c5 c6
  have hbx : boxR (.func (.yield lp) #[] #[]) H = some (.pointer (some ⟨H.length, 0, none⟩), H ++ [.cells true 0 [.func (.yield lp) #[] #[]]]) := rfl
  (refine a132 ?_; simp only [n132, List.replicate, yq, yr, yt, yu]; first | refine q1 ?_ | refine q2 ?_ | refine q6 ?_ | refine q7 ?_ | refine qh rfl ?_ | skip)
  (repeat (first | refine yw ?_ | ((first | apply yd | apply ye); simp (disch := first|exact zz|fail) only [go_sem, hbx, l1, hst]; with_reducible rfl)))
  generalize (H ++ [AObj.cells true 0 [.func (.yield lp) #[] #[]]] ++ [AObj.cells true 0 [.nilFunc]]).set (H.length + 1) (.cells true 0 [.func (.func 133) #[] #[.pointer (some ⟨jc, 0, none⟩), .pointer (some ⟨H.length, 0, none⟩), .pointer (some ⟨jb, 0, none⟩), .pointer (some ⟨H.length + 1, 0, none⟩)]]) = H3 at hI3 c5 c6
  (repeat (first | refine yw ?_ | ((first | apply yd | apply ye); simp (disch := first|exact zz|fail) only [go_sem, load_at c6]; with_reducible rfl)))
  refine aops_call ((grow_c hc hn hF (Nat.le_refl _) happ hpriv hround c [] 0 (.slice none 0 0) _ [] H3 (by simp) (Nat.zero_le _) (.inl (.inr rfl)) (.inr rfl) c5 c6 (.inl ⟨rfl, rfl⟩) hI3).mono fun v1 H4 h => ?_)
  (refine yg ?_)
  refine ⟨.inl rfl, undef, rfl, ?_⟩
  rcases h with ⟨-, B, -, hI4, -⟩ | ⟨-, hS⟩
  · exact .inl ⟨B, hI4⟩
  · exact .inr hS
end
end Go.Lq

namespace Go.Lq
open Go
open Go.Proofs

def clashOfL (L : Int × Int) (M : List Mark) : (Int × Int) × Int := if evErrL L M ≠ 0 then ((0, 0), evErrL L M) else match clashL L M with | some r => (((r.1 : Int), (r.2 : Int)), 0) | none => ((0, 0), 12)
section
variable {H : AHeap} {L : Int × Int} {M : List Mark} {v : Value}
theorem fin_l2l {c : RCode} {n a b m : Nat} {R : Value → AHeap → Prop} {e : Env} {H : AHeap} {u w : Value} (h1 : loadNR m (e.getD a undef) H = some (u, H)) (h2 : loadR (e.getD b undef) H = some (w, H)) (h : R (.tuple #[u, w]) H) :
    Fin ⟨c, n, [.loadN m a, .load b]⟩ R .ret e H := by
  refine ⟨.inr rfl, _, ?_, h⟩
  unfold loadNR at h1
  unfold loadR at h2
  split at h1
  · rename_i id off hp
    simp only [Option.map_eq_some_iff, Prod.mk.injEq, and_true] at h1
    obtain ⟨us, h3, rfl⟩ := h1
    split at h2
    · rename_i id' off' hp'
      simp only [Option.map_eq_some_iff, Prod.mk.injEq, and_true] at h2
      obtain ⟨us', h4, rfl⟩ := h2
      simp only [resultA, List.mapM_cons, resA, hp, h3, hp', h4, Option.map_some, List.mapM_nil]
      rfl
    · cases h2
  · cases h1
set_option maxHeartbeats 8000000 in
theorem clashOf_c (hl : Tris H M v) (hb : M.length ≤ 1000000000) : ACall Go.Proofs.Try.prog 41 [evV L v] H fun w H' => w = .tuple #[fracV (clashOfL L M).1, .int .i64 (clashOfL L M).2] ∧ H' = H := by
  refine ACall.drop (closed_frac1 _ _) ?_
  (refine a41 ?_; simp only [n41, List.replicate, yq, yr, yt, yu]; first | refine q1 ?_ | refine q2 ?_ | refine q6 ?_ | refine q7 ?_ | refine qh rfl ?_ | skip)
  obtain ⟨G, hG⟩ : ∃ G, G = H ++ [AObj.cells true 0 (evC L v)] ++ [AObj.cells true 0 [.int .i64 0, .int .i64 0]] ++ [AObj.cells true 0 [.int .i64 0]] := ⟨_, rfl⟩
  have g0 : G[H.length]? = some (.cells true 0 (evC L v)) := by rw [hG]; simp
  have g2 : G[H.length + 1]? = some (.cells true 0 [.int .i64 0, .int .i64 0]) := by rw [hG]; simp
  have g3 : G[H.length + 2]? = some (.cells true 0 [.int .i64 0]) := by rw [hG]; simp
  have xG : Ext H G := by rw [hG]; exact (((Ext.refl H).app _).app _).app _
  have lG : G.length = H.length + 3 := by rw [hG]; simp
  (repeat (first | refine yv ?_ | (apply yd; simp (disch := first|exact zz|fail) only [go_sem, box_ev hl.atom]; with_reducible rfl)))
  (simp only [List.length_append, List.length_cons, List.length_nil, Nat.zero_add, Nat.add_assoc, Nat.reduceAdd])
  rw [← hG]
  clear hG
  (repeat (first | refine yw ?_ | ((first | apply yd | apply ye); simp (disch := first|exact zz|fail) only [go_sem, load_ev g0]; with_reducible rfl)))
  refine aops_call ((open_c (hl.ext xG) hb).mono fun w G2 ⟨hw, x2⟩ => ?_)
  subst hw
  have l2 := x2.len
  have hst : storeR 3 (.pointer (some ⟨G2.length, 0, none⟩)) (evV L v) (G2 ++ [.cells true 0 [.int .i64 0, .int .i64 0, .slice none 0 0]]) = some (undef, G2 ++ [.cells true 0 (evC L v)]) := store_newN (by simp [hl.atom, isAtom_int]) rfl rfl
  (repeat (first | refine yw ?_ | ((first | apply yd | apply ye); simp (disch := first|exact zz|fail) only [go_sem, hst]; with_reducible rfl)))
  have k4 : (G2 ++ [AObj.cells true 0 (evC L v)])[G2.length]? = some (.cells true 0 (evC L v)) := at_new
  have x3 := x2.app [AObj.cells true 0 (evC L v)]
  have l3 : (G2 ++ [AObj.cells true 0 (evC L v)]).length = G2.length + 1 := by simp
  generalize (G2 ++ [AObj.cells true 0 (evC L v)] : AHeap) = G3 at k4 x3 l3
  have xH3 := xG.trans x3
  have hl3 := hl.ext xH3
  have k2 := x3.cell g2
  have k3 := x3.cell g3
  have k3' : ∀ c, (G3.set (H.length + 1) c)[H.length + 2]? = some (.cells true 0 [.int .i64 0]) := fun c => by rw [List.getElem?_set_ne (by omega)]; exact k3
  clear hst
  refine cond_p (p := evErrL L M ≠ 0) rfl (fun hne => ?_) (fun heq => ?_)
  · have ev : clashOfL L M = ((0, 0), evErrL L M) := by unfold clashOfL; rw [if_pos hne]
    rw [ev]
    (repeat (first | refine yw ?_ | ((first | apply yd | apply ye); simp (disch := first|exact zz|fail) only [go_sem, fill_none, store_b2 k2, store_b1 (y := .int .i64 (evErrL L M)) (k3' _) rfl rfl]; with_reducible rfl)))
    refine fin_l2l (n2_at (by rw [List.getElem?_set_ne (by omega)]; exact get_set_self k2)) (load1 (get_set_self (k3' _))) ⟨rfl, (xH3.set (by omega) _).set (by omega) _⟩
  have hk := evErr_ok (Decidable.not_not.1 heq)
  have evS : ∀ r, clashL L M = some r → clashOfL L M = (((r.1 : Int), (r.2 : Int)), 0) := fun r hr => by unfold clashOfL; rw [if_neg heq, hr]
  have evN : clashL L M = none → clashOfL L M = ((0, 0), 12) := fun hr => by unfold clashOfL; rw [if_neg heq, hr]
  (repeat (first | refine yw ?_ | ((first | apply yd | apply ye); simp (disch := first|exact zz|fail) only [go_sem, load_ev k4]; with_reducible rfl)))
  refine awp_rangeB (f := 100) (xs := [evV L v]) (ys := []) mo rfl (fun l h => by cases h) (clashes_c hk)
    (fun B rest H' => rest = pairI (allPairs L M) ∧ (∀ b, B b → G3.length < b) ∧ Ext G3 H')
    (fun x H' => x = .ret ∧ ∃ r, clashL L M = some r ∧ H'[H.length + 1]? = some (.cells true 0 [.int .i64 (r.1 : Int), .int .i64 (r.2 : Int)]) ∧ H'[H.length + 2]? = some (.cells true 0 [.int .i64 0]) ∧ Ext H H') ?_ ?_ ?_ ?_ ?_ ?_ ?_ ?_ ?_ ?_
  · rintro B rest H' c ⟨h1, h2, h3⟩
    exact ⟨h1, h2, h3.set (Nat.le_refl _) _⟩
  · rintro x H' c ⟨h1, r, h2, h3, h4, h5⟩
    exact ⟨h1, r, h2, by rw [List.getElem?_set_ne (by omega)]; exact h3, by rw [List.getElem?_set_ne (by omega)]; exact h4, h5.set (by omega) _⟩
  · rintro B rest H' ⟨h1, h2, h3⟩
    exact hl3.ext h3
  · rintro B rest H' N ⟨h1, h2, h3⟩
    exact ⟨h1, h2, h3.app N⟩
  · rintro B rest H' c ⟨h1, h2, h3⟩ hlt
    refine ⟨h1, fun b hb => ?_, h3.app _⟩
    rcases hb with hb | rfl
    · exact h2 b hb
    · exact hlt
  · rintro B b rest H' c hB ⟨h1, h2, h3⟩
    exact ⟨h1, h2, h3.set (by have := h2 b hB; omega) _⟩
  · intro N
    exact ⟨rfl, fun b h => h.elim, (Ext.refl G3).app N⟩
  · rintro B a rest H1 hBl ⟨h1, h2, h3⟩ hlt
    obtain ⟨p, hp, rfl⟩ : ∃ p, clashL L M = some p ∧ a = [.int .i64 (p.1 : Int), .int .i64 (p.2 : Int)] := by
      rw [← pairs_head]
      cases hp : allPairs L M with
      | nil => rw [hp] at h1; cases h1
      | cons p l => rw [hp] at h1; obtain ⟨rfl, _⟩ := List.cons.inj h1; exact ⟨p, rfl, rfl⟩
    refine ⟨rfl, fun R Rb _ hR => ?_⟩
    simp only [assignParams, List.zip_cons_cons, List.zip_nil_left, List.foldl_cons, List.foldl_nil]
    (refine yg ?_)
    refine ⟨rfl, hR, ?_⟩
    have hRb : (H1.set G3.length Rb)[G3.length]? = some Rb := get_set_self hR
    have x5 : Ext G3 (H1.set G3.length Rb) := h3.set (Nat.le_refl _) _
    generalize (H1.set G3.length Rb : AHeap) = H2 at hRb x5
    have b2 := x5.cell k2
    have b3 : ∀ c, (H2.set (H.length + 1) c)[H.length + 2]? = some (.cells true 0 [.int .i64 0]) := fun c => by rw [List.getElem?_set_ne (by omega)]; exact x5.cell k3
    (repeat (first | refine yw ?_ | ((first | apply yd | apply ye); simp (disch := first|exact zz|fail) only [go_sem, fill2i, store_b2 b2, store_b1 (b3 _) (y := .int .i64 0) rfl rfl]; with_reducible rfl)))
    refine rounded_r ?_ ⟨rfl, p, hp, ?_, get_set_self (b3 _), ((xH3.trans x5).set (by omega) _).set (by omega) _⟩
    · rw [List.getElem?_set_ne (by omega), List.getElem?_set_ne (by omega)]; exact hRb
    · rw [List.getElem?_set_ne (by omega)]; exact get_set_self b2
  · rintro B H' ⟨h1, h2, h3⟩
    have b2 := h3.cell k2
    have b3 : ∀ c, (H'.set (H.length + 1) c)[H.length + 2]? = some (.cells true 0 [.int .i64 0]) := fun c => by rw [List.getElem?_set_ne (by omega)]; exact h3.cell k3
    have hn : clashL L M = none := by
      rw [← pairs_head]
      cases hp : allPairs L M with
      | nil => rfl
      | cons p l => rw [hp] at h1; cases h1
    rw [evN hn]
    (repeat (first | refine yw ?_ | ((first | apply yd | apply ye); simp (disch := first|exact zz|fail) only [go_sem, fill_none, store_b2 b2, store_b1 (b3 _) (y := .int .i64 12) rfl rfl]; with_reducible rfl)))
    refine fin_l2l (n2_at (by rw [List.getElem?_set_ne (by omega)]; exact get_set_self b2)) (load1 (get_set_self (b3 _))) ⟨rfl, ((xH3.trans h3).set (by omega) _).set (by omega) _⟩
  · rintro x H' hx ⟨rfl, r, h1, h2, h3, h4⟩
    rw [evS r h1]
    (refine yg ?_)
    refine fin_l2l (n2_at h2) (load1 h3) ⟨rfl, h4⟩
end
end Go.Lq

namespace Go.Lq
open Go
open Go.Proofs

theorem mem_row {L : Int × Int} {M : List Mark} {i : Nat} {p : Nat × Nat} : ∀ {n k : Nat}, p ∈ pairsRow L M i k n ↔ p.1 = i ∧ k ≤ p.2 ∧ p.2 < k + n ∧ clashB L (M.getD i (0, 0, 0)) (M.getD p.2 (0, 0, 0)) = true
  | 0, k => by
    constructor
    · intro h; cases h
    · rintro ⟨_, h1, h2, _⟩; omega
  | n + 1, k => by
    have ih := mem_row (L := L) (M := M) (i := i) (p := p) (n := n) (k := k + 1)
    unfold pairsRow
    by_cases hc : clashB L (M.getD i (0, 0, 0)) (M.getD k (0, 0, 0)) = true
    · rw [if_pos hc, List.mem_cons, ih]
      constructor
      · rintro (rfl | ⟨h1, h2, h3, h4⟩)
        · exact ⟨rfl, Nat.le_refl _, by show k < _; omega, hc⟩
        · exact ⟨h1, by omega, by omega, h4⟩
      · rintro ⟨h1, h2, h3, h4⟩
        by_cases e : p.2 = k
        · exact .inl (Prod.ext h1 e)
        · exact .inr ⟨h1, by omega, by omega, h4⟩
    · rw [if_neg hc, ih]
      constructor
      · rintro ⟨h1, h2, h3, h4⟩; exact ⟨h1, by omega, by omega, h4⟩
      · rintro ⟨h1, h2, h3, h4⟩
        have e : p.2 ≠ k := fun e => hc (by rw [← e]; exact h4)
        exact ⟨h1, by omega, by omega, h4⟩
theorem mem_from {L : Int × Int} {M : List Mark} {p : Nat × Nat} : ∀ {n i : Nat}, p ∈ pairsFrom L M i n ↔ i ≤ p.1 ∧ p.1 < p.2 ∧ p.2 < i + n ∧ clashB L (M.getD p.1 (0, 0, 0)) (M.getD p.2 (0, 0, 0)) = true
  | 0, i => by
    constructor
    · intro h; cases h
    · rintro ⟨h1, h2, h3, _⟩; omega
  | n + 1, i => by
    have ih := mem_from (L := L) (M := M) (p := p) (n := n) (i := i + 1)
    unfold pairsFrom
    rw [List.mem_append, ih, mem_row]
    constructor
    · rintro (⟨h1, h2, h3, h4⟩ | ⟨h1, h2, h3, h4⟩)
      · rw [h1]; exact ⟨Nat.le_refl _, by omega, by omega, h4⟩
      · exact ⟨by omega, h2, by omega, h4⟩
    · rintro ⟨h1, h2, h3, h4⟩
      by_cases e : p.1 = i
      · rw [e] at h4; exact .inl ⟨e, by omega, by omega, h4⟩
      · exact .inr ⟨by omega, h2, by omega, h4⟩
def hitP (s : List Nat) (p : Nat × Nat) : Prop := p.1 ∈ s ∨ p.2 ∈ s
theorem hits_all_pairs {L : Int × Int} {M : List Mark} {s : List Nat} : hitsB L M s = true ↔ ∀ p ∈ allPairs L M, hitP s p := by
  rw [hits_iff]
  constructor
  · intro h p hp
    obtain ⟨_, h2, h3, h4⟩ := mem_from.1 hp
    exact h p.1 p.2 h2 (by omega) h4
  · intro h i k hik hk hc
    exact h (i, k) (mem_from.2 ⟨Nat.zero_le _, hik, by show k < 0 + M.length; omega, hc⟩)
theorem fin_oo {c : RCode} {n a b : Nat} {R : Value → AHeap → Prop} {e : Env} {H : AHeap} {u w : Value} (h1 : loadR (e.getD a undef) H = some (u, H)) (h2 : loadR (e.getD b undef) H = some (w, H)) (h : R (.tuple #[u, w]) H) :
    Fin ⟨c, n, [.load a, .load b]⟩ R .ret e H := by
  refine ⟨.inr rfl, _, ?_, h⟩
  unfold loadR at h1 h2
  split at h1
  · rename_i id off hp
    simp only [Option.map_eq_some_iff, Prod.mk.injEq, and_true] at h1
    obtain ⟨us, h3, rfl⟩ := h1
    split at h2
    · rename_i id' off' hp'
      simp only [Option.map_eq_some_iff, Prod.mk.injEq, and_true] at h2
      obtain ⟨us', h4, rfl⟩ := h2
      simp only [resultA, List.mapM_cons, resA, hp, h3, hp', h4, Option.map_some, List.mapM_nil]
      rfl
    · cases h2
  · cases h1
theorem store_at_new {H : AHeap} {e : Nat} {w x : Value} (ha : isAtom w = true) (hc : w.cells = ⟨[w]⟩) : storeR 1 (.pointer (some ⟨H.length, 0, none⟩)) w (H ++ [.cells true e [x]]) = some (undef, H ++ [.cells true e [w]]) := by
  rw [store_b1 at_new ha hc, List.set_append_right _ _ (Nat.le_refl _), Nat.sub_self]; rfl
theorem leastF_succ {p : List Nat → Bool} {n c k : Nat} : leastF p n c (k + 1) = match (subsF n c 0).find? p with | some a => a | none => leastF p n (c + 1) k := rfl
section
variable {H : AHeap} {L : Int × Int} {M : List Mark} {v : Value}
theorem subsets_c (n c : Nat) : ACall Go.Proofs.Try.prog 117 [.int .i64 (n : Nat), .int .i64 (c : Nat)] H fun w H' => w = .func (.func 132) #[] #[.pointer (some ⟨H.length + 1, 0, none⟩), .pointer (some ⟨H.length, 0, none⟩)] ∧
    H' = H ++ [.cells true 0 [.int .i64 (n : Nat)]] ++ [.cells true 0 [.int .i64 (c : Nat)]] := by
  (refine a117 ?_; simp only [n117, List.replicate, yq, yr, yt, yu]; first | refine q1 ?_ | refine q2 ?_ | refine q6 ?_ | refine q7 ?_ | refine qh rfl ?_ | skip)
  have l1 : (H ++ [AObj.cells true 0 [.int .i64 (n : Nat)]]).length = H.length + 1 := by simp
  have hbx : ∀ (J : AHeap) (k : Int), boxR (.int .i64 k) J = some (.pointer (some ⟨J.length, 0, none⟩), J ++ [.cells true 0 [.int .i64 k]]) := fun _ _ => rfl
  (repeat (first | refine yw ?_ | ((first | apply yd | apply ye); simp (disch := first|exact zz|fail) only [go_sem, hbx, l1]; with_reducible rfl)))
  exact fin_1 ⟨rfl, rfl⟩
set_option maxHeartbeats 8000000 in
theorem outliers_c (hl : Tris H M v) (hb : M.length ≤ 1000000000) : ACall Go.Proofs.Try.prog 63 [evV L v] H (IntsRes H (intsN (if evErrL L M = 0 then outlL L M else [])) (evErrL L M)) := by
  refine ACall.intsE ?_
  (refine a63 ?_; simp only [n63, List.replicate, yq, yr, yt, yu]; first | refine q1 ?_ | refine q2 ?_ | refine q6 ?_ | refine q7 ?_ | refine qh rfl ?_ | skip)
  obtain ⟨G, hG⟩ : ∃ G, G = H ++ [AObj.cells true 0 (evC L v)] ++ [AObj.cells true 0 [.slice none 0 0]] ++ [AObj.cells true 0 [.int .i64 0]] := ⟨_, rfl⟩
  have g0 : G[H.length]? = some (.cells true 0 (evC L v)) := by rw [hG]; simp
  have g2 : G[H.length + 1]? = some (.cells true 0 [.slice none 0 0]) := by rw [hG]; simp
  have g3 : G[H.length + 2]? = some (.cells true 0 [.int .i64 0]) := by rw [hG]; simp
  have xG : Ext H G := by rw [hG]; exact (((Ext.refl H).app _).app _).app _
  have lG : G.length = H.length + 3 := by rw [hG]; simp
  (repeat (first | refine yv ?_ | (apply yd; simp (disch := first|exact zz|fail) only [go_sem, box_ev hl.atom]; with_reducible rfl)))
  (simp only [List.length_append, List.length_cons, List.length_nil, Nat.zero_add, Nat.add_assoc, Nat.reduceAdd])
  rw [← hG]
  clear hG
  (repeat (first | refine yw ?_ | ((first | apply yd | apply ye); simp (disch := first|exact zz|fail) only [go_sem, load_ev g0]; with_reducible rfl)))
  refine aops_call ((open_c (hl.ext xG) hb).mono fun w G2 ⟨hw, x2⟩ => ?_)
  subst hw
  have l2 := x2.len
  have hst : storeR 3 (.pointer (some ⟨G2.length, 0, none⟩)) (evV L v) (G2 ++ [.cells true 0 [.int .i64 0, .int .i64 0, .slice none 0 0]]) = some (undef, G2 ++ [.cells true 0 (evC L v)]) := store_newN (by simp [hl.atom, isAtom_int]) rfl rfl
  (repeat (first | refine yw ?_ | ((first | apply yd | apply ye); simp (disch := first|exact zz|fail) only [go_sem, hst]; with_reducible rfl)))
  have k4 : (G2 ++ [AObj.cells true 0 (evC L v)])[G2.length]? = some (.cells true 0 (evC L v)) := at_new
  have x3 := x2.app [AObj.cells true 0 (evC L v)]
  have l3 : (G2 ++ [AObj.cells true 0 (evC L v)]).length = G2.length + 1 := by simp
  generalize (G2 ++ [AObj.cells true 0 (evC L v)] : AHeap) = G3 at k4 x3 l3
  have xH3 := xG.trans x3
  have hl3 := hl.ext xH3
  have k0 := x3.cell g0
  have k2 := x3.cell g2
  have k3 := x3.cell g3
  clear hst
  refine cond_p (p := evErrL L M ≠ 0) rfl (fun hne => ?_) (fun heq => ?_)
  · rw [if_neg hne]
    have k3' : (G3.set (H.length + 1) (.cells true 0 [.slice none 0 0]))[H.length + 2]? = some (.cells true 0 [.int .i64 0]) := by rw [List.getElem?_set_ne (by omega)]; exact k3
    (repeat (first | refine yw ?_ | ((first | apply yd | apply ye); simp (disch := first|exact zz|fail) only [go_sem, store_b1 (y := .slice none 0 0) k2 rfl rfl, store_b1 (y := .int .i64 (evErrL L M)) k3' rfl rfl]; with_reducible rfl)))
    refine fin_oo (load1 (by rw [List.getElem?_set_ne (by omega)]; exact get_set_self k2)) (load1 (get_set_self k3')) ⟨_, rfl, (xH3.set (by omega) _).set (by omega) _, OwnI.nil _ _⟩
  have hez := Decidable.not_not.1 heq
  rw [hez, if_pos rfl]
  have hk := evErr_ok hez
  have hlen := hk.len
  (repeat (first | refine yw ?_ | ((first | apply yd | apply ye); simp (disch := first|exact zz|fail) only [go_sem, hl3.len, hl3.idx, hl3.load, load_at k0, evC]; with_reducible rfl)))
  refine awp_loop_n [false, true, true, true, true, false, false, false, false, false, false, false, false, false, false, false, false, false, false, false, false, true, true, false, false, false, false, false, false, false, false, false, false, false, false, false, false, false, false, false, false, false, false, false, false, false, false] (M.length + 1) (fun c e J => e = [junk, .pointer (some ⟨H.length, 0, none⟩), .pointer (some ⟨H.length + 1, 0, none⟩), .pointer (some ⟨H.length + 2, 0, none⟩), .pointer (some ⟨G2.length, 0, none⟩), junk, junk, junk, junk, junk, junk, junk, junk, junk, junk, junk, junk, junk, junk, junk, junk, .int .i64 ((M.length : Int) + 1), .int .i64 (c : Nat), junk, junk, junk, junk, junk, junk, junk, junk, junk, junk, junk, junk, junk, junk, junk, junk, junk, junk, junk, junk, junk, junk, junk, junk] ∧ Ext G3 J ∧
    leastF (hitsB L M) M.length c (M.length + 1 - c) = outlL L M) ?_ ?_
  · exact ⟨by simp [forget], Ext.refl _, rfl⟩
  rintro c e J hc ⟨rfl, xJ, hA⟩
  have xHJ := xH3.trans xJ
  have k0 := xJ.cell k0
  have k2 := xJ.cell k2
  have k3 := xJ.cell k3
  have k4 := xJ.cell k4
  have hlJ := hl3.ext xJ
  (refine yg ?_)
  refine cond_p rfl (fun hlt => ?_) (fun hge => ?_)
  rotate_left 1
  · obtain rfl : c = M.length + 1 := by omega
    rw [Nat.sub_self] at hA
    rw [← hA]
    have k3' : (J.set (H.length + 1) (.cells true 0 [.slice none 0 0]))[H.length + 2]? = some (.cells true 0 [.int .i64 0]) := by rw [List.getElem?_set_ne (by omega)]; exact k3
    (repeat (first | refine yw ?_ | ((first | apply yd | apply ye); simp (disch := first|exact zz|fail) only [go_sem, store_b1 (y := .slice none 0 0) k2 rfl rfl, store_b1 (y := .int .i64 0) k3' rfl rfl]; with_reducible rfl)))
    exact fin_oo (load1 (by rw [List.getElem?_set_ne (by omega)]; exact get_set_self k2)) (load1 (get_set_self k3')) ⟨_, rfl, (xHJ.set (by omega) _).set (by omega) _, OwnI.nil _ _⟩
  have hc' : c < M.length + 1 := by omega
  rw [show M.length + 1 - c = M.length + 1 - (c + 1) + 1 by omega, leastF_succ] at hA
  (repeat (first | refine yw ?_ | ((first | apply yd | apply ye); simp (disch := first|exact zz|fail) only [go_sem, hlJ.len, hlJ.idx, hlJ.load, load_at k0, evC]; with_reducible rfl)))
  (refine aops_call_to (subsets_c M.length c) ?_)
  have jb : (J ++ [AObj.cells true 0 [.int .i64 (M.length : Nat)]] ++ [AObj.cells true 0 [.int .i64 (c : Nat)]])[J.length]? = some (.cells true 0 [.int .i64 (M.length : Nat)]) := at_app at_new
  have jc : (J ++ [AObj.cells true 0 [.int .i64 (M.length : Nat)]] ++ [AObj.cells true 0 [.int .i64 (c : Nat)]])[J.length + 1]? = some (.cells true 0 [.int .i64 (c : Nat)]) := by simp
  have x5 : Ext J (J ++ [AObj.cells true 0 [.int .i64 (M.length : Nat)]] ++ [AObj.cells true 0 [.int .i64 (c : Nat)]]) := ((Ext.refl J).app _).app _
  generalize (J ++ [AObj.cells true 0 [.int .i64 (M.length : Nat)]] ++ [AObj.cells true 0 [.int .i64 (c : Nat)]] : AHeap) = G5 at jb jc x5
  have l5 := x5.len
  have lJ := xHJ.len
  have hlt2 := (List.getElem?_eq_some_iff.1 jc).1
  have hl4 := (List.getElem?_eq_some_iff.1 k4).1
  have lk3 := (List.getElem?_eq_some_iff.1 k3).1
  have k0 := x5.cell k0
  have k2 := x5.cell k2
  have k3 := x5.cell k3
  have k4 := x5.cell k4
  have xH5 := xHJ.trans x5
  have hl5 := hlJ.ext x5
  (refine yg ?_)
  refine awp_rangeS (f := 132) (xs := []) (ys := [.pointer (some ⟨J.length + 1, 0, none⟩), .pointer (some ⟨J.length, 0, none⟩)]) mo rfl (fun l h => by cases h) (subsets1_c (n := M.length) (c := c) (by omega) hlen)
    (fun B rest H' => (subsF M.length c 0).find? (hitsB L M) = rest.find? (hitsB L M) ∧ (∀ t ∈ rest, t.length = c) ∧ (∀ b, B b → G5.length < b) ∧ Ext G5 H')
    (fun x H' => x = .ret ∧ ∃ s w, (subsF M.length c 0).find? (hitsB L M) = some s ∧ OwnI (G5 ++ [.dead]) H' (intsN s) w ∧ H'[H.length + 1]? = some (.cells true 0 [w]) ∧ H'[H.length + 2]? = some (.cells true 0 [.int .i64 0]) ∧ Ext H H') ?_ ?_ ?_ ?_ ?_ ?_ ?_ ?_ ?_ ?_
  · rintro B rest H' c ⟨h1, h2b, h2, h3⟩
    exact ⟨h1, h2b, h2, h3.set (Nat.le_refl _) _⟩
  · rintro x H' c ⟨h1, s, w, h2, h3, h4, h5, h6⟩
    refine ⟨h1, s, w, h2, ?_, by rw [List.getElem?_set_ne (by omega)]; exact h4, by rw [List.getElem?_set_ne (by omega)]; exact h5, h6.set (by omega) _⟩
    refine h3.set_ne ?_ _
    rcases h3.2 with ⟨_, h0⟩ | ⟨id, rfl, h1, _⟩
    · exact .inl h0
    · simp at h1; exact .inr (by show id ≠ _; omega)
  · rintro B rest H' ⟨h1, h2b, h2, h3⟩
    exact ⟨h3.cell jc, h3.cell jb⟩
  · rintro B rest H' N ⟨h1, h2b, h2, h3⟩
    exact ⟨h1, h2b, h2, h3.app N⟩
  · rintro B rest H' c ⟨h1, h2b, h2, h3⟩ hlt
    refine ⟨h1, h2b, fun b hb => ?_, h3.app _⟩
    rcases hb with hb | rfl
    · exact h2 b hb
    · exact hlt
  · rintro B b rest H' c hB ⟨h1, h2b, h2, h3⟩
    exact ⟨h1, h2b, h2, h3.set (by have := h2 b hB; omega) _⟩
  · intro N
    exact ⟨rfl, fun t ht => (mem_subs.1 ht).1, fun b h => h.elim, (Ext.refl G5).app N⟩
  · rintro B s rest H1 w hBl ⟨h1, h2b, h2, h3⟩ hw hlt
    refine ⟨rfl, fun R Rb hRb hR => ?_⟩
    simp only [assignParams, List.zip_cons_cons, List.zip_nil_left, List.foldl_cons, List.foldl_nil]
    have wa := isAtom_sl hw.shape
    have hst7 : storeR 1 (.pointer (some ⟨H1.length, 0, none⟩)) w (H1 ++ [.cells true 0 [.slice none 0 0]]) = some (undef, H1 ++ [.cells true 0 [w]]) := store_at_new wa (cells_sl hw.shape)
    (repeat (first | refine yw ?_ | ((first | apply yd | apply ye); simp (disch := first|exact zz|fail) only [go_sem, hst7]; with_reducible rfl)))
    have hltR := (List.getElem?_eq_some_iff.1 hR).1
    refine ⟨rfl, at_app hR, ?_⟩
    have b7 : ((H1 ++ [AObj.cells true 0 [w]]).set G5.length Rb)[H1.length]? = some (.cells true 0 [w]) := by rw [List.getElem?_set_ne (by omega)]; exact at_new
    have bR : ((H1 ++ [AObj.cells true 0 [w]]).set G5.length Rb)[G5.length]? = some Rb := get_set_self (at_app hR)
    have xK : Ext G5 ((H1 ++ [AObj.cells true 0 [w]]).set G5.length Rb) := (h3.app _).set (Nat.le_refl _) _
    have hwK : OwnI (G5 ++ [.dead]) ((H1 ++ [AObj.cells true 0 [w]]).set G5.length Rb) (intsN s) w := by
      refine (hw.app _).set_ne ?_ _
      rcases hw.2 with ⟨_, h0⟩ | ⟨id, rfl, h1, _⟩
      · exact .inl h0
      · simp at h1; exact .inr (by show id ≠ _; omega)
    have hBk : ∀ b c, B b → H1[b]? = some c → ((H1 ++ [AObj.cells true 0 [w]]).set G5.length Rb)[b]? = some c := fun b c hb h => by
      rw [List.getElem?_set_ne (by have := hBl b hb; omega)]; exact at_app h
    generalize ((H1 ++ [AObj.cells true 0 [w]]).set G5.length Rb : AHeap) = K0 at b7 bR xK hwK hBk
    have lK := xK.len
    have hltK := (List.getElem?_eq_some_iff.1 b7).1
    have hwn := hwK.ints
    have hlK := hl5.ext xK
    have hsl : s.length = c := h2b s (by simp)
    (repeat (first | refine yw ?_ | ((first | apply yd | apply ye); simp (disch := first|exact zz|fail) only [go_sem, load_ev (xK.cell k4)]; with_reducible rfl)))
    refine awp_rangeB (f := 100) (xs := [evV L v]) (ys := []) mo rfl (fun l h => by cases h; obtain ⟨r, rfl⟩ := hRb; exact ⟨r, bR⟩) (clashes_c hk)
      (fun B2 rest2 H' => ∃ q, rest2 = pairI q ∧ ((∀ p ∈ allPairs L M, hitP s p) ↔ ∀ p ∈ q, hitP s p) ∧ (∀ b, B2 b → K0.length < b) ∧ Ext K0 H')
      (fun x H' => x = .exit 3 ∧ hitsB L M s = false ∧ Ext K0 H') ?_ ?_ ?_ ?_ ?_ ?_ ?_ ?_ ?_ ?_
    · rintro B2 rest2 H' c ⟨q, e1, e2, e3, e4⟩
      exact ⟨q, e1, e2, e3, e4.set (Nat.le_refl _) _⟩
    · rintro x H' c ⟨e1, e2, e3⟩
      exact ⟨e1, e2, e3.set (Nat.le_refl _) _⟩
    · rintro B2 rest2 H' ⟨q, e1, e2, e3, e4⟩
      exact hlK.ext e4
    · rintro B2 rest2 H' N ⟨q, e1, e2, e3, e4⟩
      exact ⟨q, e1, e2, e3, e4.app N⟩
    · rintro B2 rest2 H' c ⟨q, e1, e2, e3, e4⟩ hlt2
      refine ⟨q, e1, e2, fun b hb => ?_, e4.app _⟩
      rcases hb with hb | rfl
      · exact e3 b hb
      · exact hlt2
    · rintro B2 b rest2 H' c hB ⟨q, e1, e2, e3, e4⟩
      exact ⟨q, e1, e2, e3, e4.set (by have := e3 b hB; omega) _⟩
    · intro N
      exact ⟨allPairs L M, rfl, Iff.rfl, fun b h => h.elim, (Ext.refl K0).app N⟩
    · rintro B2 a rest2 H2 hBl2 ⟨q, e1, e2, e3, e4⟩ hlt2
      obtain ⟨p, q', rfl, rfl, rfl⟩ : ∃ p q', q = p :: q' ∧ a = [.int .i64 (p.1 : Int), .int .i64 (p.2 : Int)] ∧ rest2 = pairI q' := by
        cases q with
        | nil => cases e1
        | cons p q' => obtain ⟨h1, h2⟩ := List.cons.inj e1; exact ⟨p, q', rfl, h1, h2⟩
      refine ⟨rfl, fun R2 Rb2 hRb2 hR2 => ?_⟩
      simp only [assignParams, List.zip_cons_cons, List.zip_nil_left, List.foldl_cons, List.foldl_nil]
      (refine yg ?_)
      refine ⟨rfl, hR2, ?_⟩
      have c2 : (H2.set K0.length Rb2)[K0.length]? = some Rb2 := get_set_self hR2
      have x6 : Ext K0 (H2.set K0.length Rb2) := e4.set (Nat.le_refl _) _
      have hB6 : ∀ b c, B2 b → H2[b]? = some c → (H2.set K0.length Rb2)[b]? = some c := fun b c hb h => by
        rw [List.getElem?_set_ne (by have := e3 b hb; omega)]; exact h
      generalize (H2.set K0.length Rb2 : AHeap) = K1 at c2 x6 hB6
      have hw1 := hwn.ext x6
      (repeat (first | refine yw ?_ | ((first | apply yd | apply ye); simp (disch := first|exact zz|fail) only [go_sem, load_at (x6.cell b7)]; with_reducible rfl)))
      (refine aops_call_to (contains_c hw1 (by rw [intsN_len]; omega)) ?_)
      by_cases m1 : p.1 ∈ s
      · (repeat (first | refine yw ?_ | ((first | apply yd | apply ye); simp (disch := first|exact zz|fail) only [go_sem, dec_t (intsN_mem.2 m1)]; with_reducible rfl)))
        refine cond_f rfl ?_
        (refine yg ?_)
        refine rounded_n c2 ⟨⟨q', rfl, ?_, e3, x6⟩, hB6⟩
        rw [e2]
        simp [hitP, m1]
      · (repeat (first | refine yw ?_ | ((first | apply yd | apply ye); simp (disch := first|exact zz|fail) only [go_sem, dec_f (fun h => m1 (intsN_mem.1 h)), load_at (x6.cell b7)]; with_reducible rfl)))
        (refine aops_call_to (contains_c hw1 (by rw [intsN_len]; omega)) ?_)
        by_cases m2 : p.2 ∈ s
        · (repeat (first | refine yw ?_ | ((first | apply yd | apply ye); simp (disch := first|exact zz|fail) only [go_sem, dec_t (intsN_mem.2 m2)]; with_reducible rfl)))
          refine cond_f rfl ?_
          (refine yg ?_)
          refine rounded_n c2 ⟨⟨q', rfl, ?_, e3, x6⟩, hB6⟩
          rw [e2]
          simp [hitP, m2]
        · (repeat (first | refine yw ?_ | ((first | apply yd | apply ye); simp (disch := first|exact zz|fail) only [go_sem, dec_f (fun h => m2 (intsN_mem.1 h))]; with_reducible rfl)))
          refine cond_t rfl ?_
          (refine yg ?_)
          refine rounded_x c2 ⟨rfl, ?_, x6⟩
          cases hh : hitsB L M s with
          | false => rfl
          | true =>
            have := e2.1 (hits_all_pairs.1 hh) p (by simp)
            rcases this with h | h
            · exact absurd h m1
            · exact absurd h m2
    · rintro B2 H' ⟨q, e1, e2, e3, e4⟩
      have hq : q = [] := by
        cases q with
        | nil => rfl
        | cons p q' => cases e1
      subst hq
      have hh : hitsB L M s = true := hits_all_pairs.2 (e2.2 fun p hp => by simp at hp)
      have k2' := e4.cell (xK.cell k2)
      have k3' := e4.cell (xK.cell k3)
      have k3s : (H'.set (H.length + 1) (.cells true 0 [w]))[H.length + 2]? = some (.cells true 0 [.int .i64 0]) := by rw [List.getElem?_set_ne (by omega)]; exact k3'
      (repeat (first | refine yw ?_ | ((first | apply yd | apply ye); simp (disch := first|exact zz|fail) only [go_sem, load_at (e4.cell b7), store_b1 (y := w) k2' wa (cells_sl hw.shape), store_b1 (y := .int .i64 0) k3s rfl rfl]; with_reducible rfl)))
      refine rounded_r ?_ ⟨rfl, s, w, ?_, ?_, ?_, get_set_self k3s, ((xH5.trans (xK.trans e4)).set (by omega) _).set (by omega) _⟩
      · rw [List.getElem?_set_ne (by omega), List.getElem?_set_ne (by omega)]; exact e4.cell bR
      · rw [h1, List.find?_cons, hh]
      · refine hwK.same fun h0 => ?_
        have hid := hwK.id_lt h0
        simp only [List.length_append, List.length_cons, List.length_nil] at hid
        rw [List.getElem?_set_ne (by omega), List.getElem?_set_ne (by omega)]
        exact e4.get hid.2
      · rw [List.getElem?_set_ne (by omega)]; exact get_set_self k2'
    · rintro x H' hx ⟨rfl, e1, e2⟩
      (refine yg ?_)
      refine rounded_n (e2.cell bR) ⟨⟨?_, fun t ht => h2b t (by simp [ht]), h2, xK.trans e2⟩, fun b c hb h => e2.cell (hBk b c hb h)⟩
      rw [h1, List.find?_cons, e1]
  · rintro B H' ⟨h1, h2b, h2, h3⟩
    rw [h1, List.find?_nil] at hA
    (refine yg ?_)
    refine ⟨hc', ?_, xJ.trans (x5.trans h3), ?_⟩
    · simp [forget]
    · exact hA
  · rintro x H' hx ⟨rfl, s, w, h1, h2, h3, h4, h5⟩
    rw [h1] at hA
    subst hA
    (refine yg ?_)
    exact fin_oo (load1 h3) (load1 h4) ⟨w, rfl, h5, OwnI.weaken h2 (by simp; omega)⟩
end
end Go.Lq

namespace Go.Lq
open Go
open Go.Proofs

theorem append_ints {H : AHeap} {id : Nat} {l m : List Int} {w : Value} (h : H[id]? = some (.cells true 1 (l.map (.int .i64)))) (hw : Ints H m w) (hl : l.length ≤ 1000000000) (hm : m.length ≤ 1000000000) :
    ∃ s H', appendA 1 8 H (.slice (some ⟨id, 0, none⟩) l.length l.length) w = some (s, H') ∧ Ints H' (l ++ m) s ∧ ∀ G, Ext G H → G.length ≤ id → Ext G H' := by
  rcases hw.2 with ⟨rfl, h0⟩ | ⟨jd, off, c, rfl, hc⟩
  · have e : m = [] := List.length_eq_zero_iff.1 h0
    subst e
    refine ⟨_, H, rfl, ?_, fun G hx _ => hx⟩
    rw [List.append_nil]; exact Sl.of h (by simp)
  · by_cases h0 : m.length = 0
    · have e : m = [] := List.length_eq_zero_iff.1 h0
      subst e
      refine ⟨_, H, rfl, ?_, fun G hx _ => hx⟩
      rw [List.append_nil]; exact Sl.of h (by simp)
    · obtain ⟨k, hk⟩ : ∃ k, m.length = k + 1 := ⟨m.length - 1, by omega⟩
      have hc' := hc (by omega)
      have ha : (m.map (Value.int .i64)).all isAtom = true := isAtom_ints m
      have hr : roomOk 8 (l.length + m.length) = true := roomOk_of (by omega) (by omega)
      by_cases hl0 : l.length = 0
      · have e : l = [] := List.length_eq_zero_iff.1 hl0
        subst e
        have hr2 : roomOk 8 (0 + m.length) = true := hr
        refine ⟨.slice (some ⟨H.length, 0, none⟩) m.length m.length, H ++ [.cells true 1 (m.map (.int .i64))], ?_, Ints.last m.length, fun G hx _ => hx.app _⟩
        rw [hk] at hc' hr2 ⊢
        show (match cellsAt H jd off ((k + 1) * 1) with | some new => if new.all isAtom = true ∧ roomOk 8 (0 + (k + 1)) = true then (if (0 : Nat) = 0 ∧ (0 : Nat) = 0 then some (Value.slice (some ⟨H.length, 0, none⟩) (k + 1) (k + 1), H ++ [AObj.cells true 1 new]) else _) else none | none => none) = _
        rw [hc']
        show (if (m.map (Value.int .i64)).all isAtom = true ∧ roomOk 8 (0 + (k + 1)) = true then _ else none) = _
        rw [if_pos ⟨ha, hr2⟩, if_pos ⟨rfl, rfl⟩]
      · have hOwn : Own [] H 1 l.length (l.map (.int .i64)) (.slice (some ⟨id, 0, none⟩) l.length l.length) := ⟨by simp, .inr ⟨id, rfl, Nat.zero_le _, by omega, h⟩⟩
        have happ := Own.append (bytes := 8) hOwn (w := .slice (some ⟨jd, off, none⟩) m.length c) (m := m.length) (cs := m.map (.int .i64)) hw (by omega) ha hr
        refine ⟨_, _, happ, ?_, fun G hx hid => ?_⟩
        · have := Own.sl (Own.appended hOwn (m := m.length) (cs := m.map (.int .i64)) (by simp) (by omega) (Nat.zero_le _))
          unfold Ints
          rw [List.length_append, List.map_append]
          exact this
        · have hOG : Own G H 1 l.length (l.map (.int .i64)) (.slice (some ⟨id, 0, none⟩) l.length l.length) := ⟨by simp, .inr ⟨id, rfl, hid, by omega, h⟩⟩
          exact Own.ext hOG hx
end Go.Lq

namespace Go.Lq

theorem without_nil {M : List Mark} : withoutL M [] = M := by
  have hf : (List.range M.length).filter (fun i => !([] : List Nat).contains i) = List.range M.length := List.filter_eq_self.2 (fun a _ => by simp)
  unfold withoutL
  rw [hf]
  refine List.ext_getElem (by simp) fun i h1 h2 => ?_
  rw [List.getElem_map, List.getElem_range, List.getD_eq_getElem?_getD, List.getElem?_eq_getElem h2]; rfl
theorem outl_nil {L : Int × Int} {M : List Mark} : outlL L M = [] ↔ clashL L M = none := by
  constructor
  · intro h
    have := (outl_least (L := L) (M := M)).is
    rw [h] at this
    unfold hitsB at this
    rw [without_nil] at this
    exact of_decide_eq_true this
  · intro h
    have hb : hitsB L M [] = true := by unfold hitsB; rw [without_nil]; exact decide_eq_true h
    rcases outl_least.min [] ⟨List.Pairwise.nil, fun x hx => by simp at hx⟩ hb with h1 | ⟨h1, _⟩
    · simp at h1
    · exact List.length_eq_zero_iff.1 (by simpa using h1)
theorem outl_len {L : Int × Int} {M : List Mark} : (outlL L M).length ≤ M.length := by
  rcases (outl_least (L := L) (M := M)).min _ (range_asc _) hits_all with h | ⟨h, _⟩ <;> rw [List.length_range] at h <;> omega
theorem outl_hits {L : Int × Int} {M : List Mark} : clashL L (withoutL M (outlL L M)) = none := of_decide_eq_true (outl_least (L := L) (M := M)).is
theorem two_clash {L : Int × Int} {a b : Mark} (h : clashB L a b = true) : clashL L [a, b] = some (0, 1) := by
  have e : clashRow L [a, b] 0 1 1 = some (0, 1) := if_pos h
  show (match clashRow L [a, b] 0 1 1 with | some r => some r | none => clashFrom L [a, b] 1 1) = _
  rw [e]
theorem two_sub {M : List Mark} {i k : Nat} (h : i < k) (hk : k < M.length) : [M.getD i (0, 0, 0), M.getD k (0, 0, 0)].Sublist M := by
  have h1 : [M.getD i (0, 0, 0)].Sublist (M.take k) := by
    refine List.singleton_sublist.2 ?_
    rw [List.getD_eq_getElem?_getD, List.getElem?_eq_getElem (by omega)]
    exact List.mem_take_iff_getElem.2 ⟨i, by omega, rfl⟩
  have h2 : [M.getD k (0, 0, 0)].Sublist (M.drop k) := by
    refine List.singleton_sublist.2 ?_
    rw [drop_mark hk]
    exact List.mem_cons_self
  have := h1.append h2
  rwa [List.take_append_drop] at this
def lessL (s : List Nat) (i : Nat) : List Nat := s.take i ++ s.drop (i + 1)
theorem less_clash {L : Int × Int} {M : List Mark} {i : Nat} (hi : i < (outlL L M).length) : clashL L (withoutL M (lessL (outlL L M) i)) ≠ none := by
  intro hn
  have hl := outl_least (L := L) (M := M)
  have hs : (lessL (outlL L M) i).Sublist (outlL L M) := by
    have := (List.Sublist.refl ((outlL L M).take i)).append (List.drop_sublist_drop_left (outlL L M) (Nat.le_succ i))
    rwa [List.take_append_drop] at this
  rcases hl.min _ ⟨hl.asc.asc.sublist hs, fun x hx => hl.asc.mem x (hs.subset hx)⟩ (decide_eq_true hn) with h1 | ⟨h1, _⟩
  · have := hs.length_le; omega
  · unfold lessL at h1
    rw [List.length_append, List.length_take, List.length_drop] at h1; omega
end Go.Lq

namespace Go.Lq
open Go
open Go.Proofs

theorem tz12 : decide ((12 : Int) ≠ 12) = false := by decide
theorem tz0 : decide ((0 : Int) ≠ 0) = false := by decide
theorem tidx0 {id : Nat} {J : AHeap} : idxAR 2 1 (.pointer (some ⟨id, 0, none⟩)) (.int .i64 0) J = some (.pointer (some ⟨id, 0, none⟩), J) := rfl
theorem tidx1 {id : Nat} {J : AHeap} : idxAR 2 1 (.pointer (some ⟨id, 0, none⟩)) (.int .i64 1) J = some (.pointer (some ⟨id, 1, none⟩), J) := rfl
theorem eqvBool {a b : Bool} {H : AHeap} : eqvR 0 true (.bool a) (.bool b) H = some (.bool (a != b), H) := by cases a <;> cases b <;> rfl
set_option maxRecDepth 100000 in
set_option maxHeartbeats 16000000 in
theorem law15 {H : AHeap} {avs : List Value} (h : RepAll Try.prog H [26] avs) : ACall Try.prog 15 avs H fun v _ => v = .bool true := by
  obtain ⟨a, rfl, h1⟩ := h.one
  obtain ⟨L, M, s, rfl, hl, hlm⟩ := repEv h1
  have e0 : Value.agg ⟨[.int .i64 L.1, .int .i64 L.2, s]⟩ = evV L s := rfl
  rw [e0]
  (refine a15 ?_; simp only [n15, List.replicate, yq, yr, yt, yu]; first | refine q1 ?_ | refine q2 ?_ | refine q6 ?_ | refine q7 ?_ | refine qh rfl ?_ | skip)
  have g0 : (H ++ [AObj.cells true 0 (evC L s)])[H.length]? = some (.cells true 0 (evC L s)) := at_new
  have xG : Ext H (H ++ [AObj.cells true 0 (evC L s)]) := (Ext.refl H).app _
  (repeat (first | refine yv ?_ | (apply yd; simp (disch := first|exact zz|fail) only [go_sem, box_ev hl.atom]; with_reducible rfl)))
  generalize (H ++ [AObj.cells true 0 (evC L s)] : AHeap) = G at g0 xG
  have k0 := hl.ext xG
  (refine yg ?_)
  (refine aops_call_to (awake_c) ?_)
  (refine yg ?_)
  refine cond_f rfl ?_
  (repeat (first | refine yw ?_ | ((first | apply yd | apply ye); simp (disch := first|exact zz|fail) only [go_sem, load_ev g0]; with_reducible rfl)))
  (refine aops_call_to (fewMarks_c k0) ?_)
  by_cases hf : M.length ≤ 14
  rotate_left 1
  · (repeat (first | refine yw ?_ | ((first | apply yd | apply ye); simp (disch := first|exact zz|fail) only [go_sem, dec_f hf]; with_reducible rfl)))
    refine cond_t rfl ?_
    (refine yg ?_)
    exact fin_1 rfl
  (repeat (first | refine yw ?_ | ((first | apply yd | apply ye); simp (disch := first|exact zz|fail) only [go_sem, dec_t hf, load_ev g0]; with_reducible rfl)))
  (refine aops_call_to (rEvErr_c k0 (by omega)) ?_)
  by_cases hz : evErrL L M = 0
  rotate_left 1
  · (repeat (first | refine yw ?_ | ((first | apply yd | apply ye); simp (disch := first|exact zz|fail) only [go_sem, dec_t (show evErrL L M ≠ 0 from hz)]; with_reducible rfl)))
    refine cond_t rfl ?_
    (refine yg ?_)
    exact fin_1 rfl
  (repeat (first | refine yw ?_ | ((first | apply yd | apply ye); simp (disch := first|exact zz|fail) only [go_sem, dec_f (show ¬ evErrL L M ≠ 0 from fun h => h hz)]; with_reducible rfl)))
  refine cond_f rfl ?_
  have hk := evErr_ok hz
  have hlen := hk.len
  have hout := outl_len (L := L) (M := M)
  have hleast := outl_least (L := L) (M := M)
  have hnil := outl_nil (L := L) (M := M)
  have hhit := outl_hits (L := L) (M := M)
  have hless := fun i => less_clash (L := L) (M := M) (i := i)
  (repeat (first | refine yw ?_ | ((first | apply yd | apply ye); simp (disch := first|exact zz|fail) only [go_sem, load_ev g0]; with_reducible rfl)))
  (refine aops_call_to (copyEv_c k0 (by omega)) ?_)
  have hC : Tris (G ++ [.cells true 3 (flat3 M)]) M (.slice (some ⟨G.length, 0, none⟩) M.length M.length) := Tris.last M.length
  have x1 : Ext G (G ++ [AObj.cells true 3 (flat3 M)]) := (Ext.refl G).app _
  (refine yg ?_)
  generalize (G ++ [AObj.cells true 3 (flat3 M)] : AHeap) = G1 at hC x1
  (refine aops_call_to (clashOf_c hC (by omega)) ?_)
  obtain ⟨c, hc⟩ : ∃ c, clashOfL L M = c := ⟨_, rfl⟩
  have ec : c = match clashL L M with | some r => (((r.1 : Int), (r.2 : Int)), 0) | none => ((0, 0), 12) := by rw [← hc]; unfold clashOfL; rw [if_neg (fun h => h hz)]; first | done | (cases clashL L M <;> rfl)
  rw [hc]
  clear hc
  (repeat (first | refine yw ?_ | ((first | apply yd | apply ye); simp (disch := first|exact zz|fail) only [go_sem, store_newF]; with_reducible rfl)))
  have c3 : (G1 ++ [AObj.cells true 0 [.int .i64 c.1.1, .int .i64 c.1.2]])[G1.length]? = some (.cells true 0 [.int .i64 c.1.1, .int .i64 c.1.2]) := at_new
  have x2 : Ext G1 (G1 ++ [AObj.cells true 0 [.int .i64 c.1.1, .int .i64 c.1.2]]) := (Ext.refl G1).app _
  generalize (G1 ++ [AObj.cells true 0 [.int .i64 c.1.1, .int .i64 c.1.2]] : AHeap) = G2 at c3 x2
  have x12 := x1.trans x2
  have g2 := x12.cell g0
  have k2 := k0.ext x12
  (repeat (first | refine yw ?_ | ((first | apply yd | apply ye); simp (disch := first|exact zz|fail) only [go_sem, load_ev g2]; with_reducible rfl)))
  (refine aops_call_to (copyEv_c k2 (by omega)) ?_)
  have hC2 : Tris (G2 ++ [.cells true 3 (flat3 M)]) M (.slice (some ⟨G2.length, 0, none⟩) M.length M.length) := Tris.last M.length
  have x3 : Ext G2 (G2 ++ [AObj.cells true 3 (flat3 M)]) := (Ext.refl G2).app _
  (refine yg ?_)
  generalize (G2 ++ [AObj.cells true 3 (flat3 M)] : AHeap) = G3 at hC2 x3
  refine aops_call ((outliers_c hC2 (by omega)).mono fun w G4 h => ?_)
  obtain ⟨r, rfl, hr, x4⟩ := h.use
  have x34 := x3.trans x4
  have g4 := x34.cell g2
  have k4 := k2.ext x34
  have c4 := x34.cell c3
  rw [if_pos hz] at hr
  rw [hz]
  clear hC hC2
  obtain ⟨O, hO⟩ : ∃ O, outlL L M = O := ⟨_, rfl⟩
  rw [hO] at hr hout hleast hnil hhit hless
  have hrl := hr.len (H' := G4)
  rw [intsN_len] at hrl
  have hgt : ¬ ((O.length : Nat) : Int) > ((M.length : Nat) : Int) := by omega
  have hb : (decide (c.2 = 12) != decide (((O.length : Nat) : Int) = 0)) = false := by
    rw [ec]
    cases hcl : clashL L M with
    | none => rw [hnil.2 hcl]; rfl
    | some p =>
      have : O ≠ [] := fun h => by rw [hnil.1 h] at hcl; cases hcl
      have h0 : O.length ≠ 0 := fun h => this (List.length_eq_zero_iff.1 h)
      rw [dec_f (show ¬ ((O.length : Nat) : Int) = 0 by omega)]
      rfl
  (repeat (first | refine yw ?_ | ((first | apply yd | apply ye); simp (disch := first|exact zz|fail) only [go_sem, k4.len, k4.idx, k4.load, tz0, hrl, load_at g4, evC, dec_f hgt, eqvBool, hb]; with_reducible rfl)))
  refine cond_f rfl ?_
  (refine yg ?_)
  refine awp_loop_n [false, true, false, true, true, true, false, true, false, false, false, false, false, false, false, false, false, false, false, false, false, false, false, false, false, false, false, false, false, false, false, false, false, false, false, false, false, false, false, false, false, false, false, false, false, false, false, false, false, false, false, false, false, false, false, false, false, false, false, false, false, false, false, false, false, false, false, false, false, false, false, false, false, false, false, false, false, false, false, false, false, false, false, false, false, false, false, false, false, false, false, false, false, false, false, false, false, false, false, false, false, false, false, false, false, false, false, false, false, false, false, false, false, false, false, false, false, false, false, false, false, false, false, false, false, false, false, false, false, false, false, false, false, false, false, false, false, false, false, false, false, false, false, false, false, false, false, false, false, false, false, false, false, false, false, false, false, false, false, false, false, false] O.length (fun i e J => e = [junk, .pointer (some ⟨H.length, 0, none⟩), junk, .pointer (some ⟨G1.length, 0, none⟩), .int .i64 c.2, r, junk, .int .i64 (i : Nat), junk, junk, junk, junk, junk, junk, junk, junk, junk, junk, junk, junk, junk, junk, junk, junk, junk, junk, junk, junk, junk, junk, junk, junk, junk, junk, junk, junk, junk, junk, junk, junk, junk, junk, junk, junk, junk, junk, junk, junk, junk, junk, junk, junk, junk, junk, junk, junk, junk, junk, junk, junk, junk, junk, junk, junk, junk, junk, junk, junk, junk, junk, junk, junk, junk, junk, junk, junk, junk, junk, junk, junk, junk, junk, junk, junk, junk, junk, junk, junk, junk, junk, junk, junk, junk, junk, junk, junk, junk, junk, junk, junk, junk, junk, junk, junk, junk, junk, junk, junk, junk, junk, junk, junk, junk, junk, junk, junk, junk, junk, junk, junk, junk, junk, junk, junk, junk, junk, junk, junk, junk, junk, junk, junk, junk, junk, junk, junk, junk, junk, junk, junk, junk, junk, junk, junk, junk, junk, junk, junk, junk, junk, junk, junk, junk, junk, junk, junk, junk, junk, junk, junk, junk, junk] ∧ J = G4) ?_ ?_
  · exact ⟨by simp [forget], rfl⟩
  · rintro i e J hi ⟨rfl, rfl⟩
    (repeat (first | refine yw ?_ | ((first | apply yd | apply ye); simp (disch := first|exact zz|fail) only [go_sem, hrl]; with_reducible rfl)))
    refine cond_p rfl (fun hlt => ?_) (fun hge => ?_)
    · have hi' : i < O.length := by omega
      have ix := hr.idx (H' := J) (i := (i : Int)) (k := .i64) (by omega) (by rw [intsN_len]; omega)
      rw [Int.toNat_natCast] at ix
      have ld := hr.load (Ext.refl J) (k := i) (by rw [intsN_len]; omega)
      rw [intsN_at hi'] at ld
      have hin := hleast.asc.mem (O.getD i 0) (by rw [List.getD_eq_getElem?_getD, List.getElem?_eq_getElem hi']; exact List.getElem_mem hi')
      (repeat (first | refine yw ?_ | ((first | apply yd | apply ye); simp (disch := first|exact zz|fail) only [go_sem, k4.len, k4.idx, k4.load, ix, ld, load_at g4, evC]; with_reducible rfl)))
      (refine adraw_call (N := []) (firstD (bwithin_c _ _ _)) ?_; rw [List.append_nil])
      have e1 : (i : Int) + 1 = ((i + 1 : Nat) : Int) := by omega
      by_cases h0 : (i : Int) > 0
      · have ix2 := hr.idx (H' := J) (i := (i : Int) - 1) (k := .i64) (by omega) (by rw [intsN_len]; omega)
        rw [show ((i : Int) - 1).toNat = i - 1 by omega] at ix2
        have ld2 := hr.load (Ext.refl J) (k := i - 1) (by rw [intsN_len]; omega)
        rw [intsN_at (show i - 1 < O.length by omega)] at ld2
        have hup : O.getD (i - 1) 0 < O.getD i 0 := by
          have := List.pairwise_iff_getElem.1 hleast.asc.asc (i - 1) i (by omega) hi' (by omega)
          rw [List.getD_eq_getElem?_getD, List.getD_eq_getElem?_getD, List.getElem?_eq_getElem hi', List.getElem?_eq_getElem (show i - 1 < O.length by omega)]
          exact this
        (repeat (first | refine yw ?_ | ((first | apply yd | apply ye); simp (disch := first|exact zz|fail) only [go_sem, dec_t (show (0 : Int) ≤ ((O.getD i 0 : Nat) : Int) ∧ ((O.getD i 0 : Nat) : Int) ≤ (M.length : Int) - 1 by omega), dec_t h0, ix, ix2, ld, ld2, dec_f (show ¬ ((O.getD i 0 : Nat) : Int) ≤ ((O.getD (i - 1) 0 : Nat) : Int) by omega)]; with_reducible rfl)))
        refine cond_f rfl ?_
        (repeat (first | refine yw ?_ | ((first | apply yd | apply ye); simp (disch := first|exact zz|fail) only [go_sem, e1]; with_reducible rfl)))
        exact ⟨hi', by simp [forget], rfl⟩
      · (repeat (first | refine yw ?_ | ((first | apply yd | apply ye); simp (disch := first|exact zz|fail) only [go_sem, dec_t (show (0 : Int) ≤ ((O.getD i 0 : Nat) : Int) ∧ ((O.getD i 0 : Nat) : Int) ≤ (M.length : Int) - 1 by omega), dec_f h0]; with_reducible rfl)))
        refine cond_f rfl ?_
        (repeat (first | refine yw ?_ | ((first | apply yd | apply ye); simp (disch := first|exact zz|fail) only [go_sem, e1]; with_reducible rfl)))
        exact ⟨hi', by simp [forget], rfl⟩
    · (refine yg ?_)
      refine awp_mid [false, true, false, false, false, true, false, false, false, false, false, false, false, false, false, false, false, false, false, false, false, false, false, false, false, false, false, false, false, false, false, false, false, false, false, false, false, false, false, false, false, false, false, false, false, false, false, false, false, false, false, false, false, false, false, false, false, false, false, false, false, false, false, false, false, false, false, false, false, false, false, false, false, false, false, false, false, false, false, false, false, false, false, false, false, false, false, false, false, false, false, false, false, false, false, false, false, false, false, false, false, false, false, false, false, false, false, false, false, false, false, false, false, false, false, false, false, false, false, false, false, false, false, false, false, false, false, false, false, false, false, false, false, false, false, false, false, false, false, false, false, false, false, false, false, false, false, false, false, false, false, false, false, false, false, false, false, false, false, false, false, false] (fun e J2 => e = [junk, .pointer (some ⟨H.length, 0, none⟩), junk, junk, junk, r, junk, junk, junk, junk, junk, junk, junk, junk, junk, junk, junk, junk, junk, junk, junk, junk, junk, junk, junk, junk, junk, junk, junk, junk, junk, junk, junk, junk, junk, junk, junk, junk, junk, junk, junk, junk, junk, junk, junk, junk, junk, junk, junk, junk, junk, junk, junk, junk, junk, junk, junk, junk, junk, junk, junk, junk, junk, junk, junk, junk, junk, junk, junk, junk, junk, junk, junk, junk, junk, junk, junk, junk, junk, junk, junk, junk, junk, junk, junk, junk, junk, junk, junk, junk, junk, junk, junk, junk, junk, junk, junk, junk, junk, junk, junk, junk, junk, junk, junk, junk, junk, junk, junk, junk, junk, junk, junk, junk, junk, junk, junk, junk, junk, junk, junk, junk, junk, junk, junk, junk, junk, junk, junk, junk, junk, junk, junk, junk, junk, junk, junk, junk, junk, junk, junk, junk, junk, junk, junk, junk, junk, junk, junk, junk, junk, junk, junk, junk, junk, junk, junk, junk, junk, junk, junk, junk] ∧ Ext J J2) ?_ ?_
      · refine cond_p (p := c.2 = 0) rfl (fun hc0 => ?_) (fun hc0 => ?_)
        · obtain ⟨p, hcl⟩ : ∃ p, clashL L M = some p := by
            cases hcl : clashL L M with
            | some p => exact ⟨p, rfl⟩
            | none => rw [hcl] at ec; rw [ec] at hc0; cases hc0
          obtain ⟨p1, p2, p3⟩ := clashL_some hcl
          have ec : c = (((p.1 : Int), (p.2 : Int)), 0) := by rw [ec, hcl]
          subst ec
          (repeat (first | refine yw ?_ | ((first | apply yd | apply ye); simp (disch := first|exact zz|fail) only [go_sem, tidx0, tidx1, load_at c4]; with_reducible rfl)))
          (refine aops_call_to (bwithin_c _ _ _) ?_)
          (repeat (first | refine yw ?_ | ((first | apply yd | apply ye); simp (disch := first|exact zz|fail) only [go_sem, k4.len, k4.idx, k4.load, dec_t (show (0 : Int) ≤ (p.1 : Int) ∧ (p.1 : Int) ≤ (p.2 : Int) - 1 by omega), tidx1, load_at c4, load_at g4, evC, dec_f (show ¬ (p.2 : Int) ≥ (M.length : Int) by omega)]; with_reducible rfl)))
          refine cond_f rfl ?_
          have ixx := k4.idx (H' := J) (i := (p.1 : Int)) (k := .i64) (by omega) (by omega)
          have ixy := k4.idx (H' := J) (i := (p.2 : Int)) (k := .i64) (by omega) (by omega)
          rw [Int.toNat_natCast] at ixx ixy
          have ldx := (k4.load (Ext.refl J) (show p.1 < M.length by omega)).1
          have ldy := (k4.load (Ext.refl J) (show p.2 < M.length by omega)).1
          have hsub := two_sub p1 p2
          obtain ⟨x, hx⟩ : ∃ x, M.getD p.1 (0, 0, 0) = x := ⟨_, rfl⟩
          obtain ⟨y, hy⟩ : ∃ y, M.getD p.2 (0, 0, 0) = y := ⟨_, rfl⟩
          rw [hx] at ldx hsub p3
          rw [hy] at ldy hsub p3
          have hft : ∀ a b c d e f : Int, fillA [.int .i64 0, .int .i64 0, .int .i64 0, .int .i64 0, .int .i64 0, .int .i64 0] [(0, 3, .agg ⟨[.int .i64 a, .int .i64 b, .int .i64 c]⟩), (3, 3, .agg ⟨[.int .i64 d, .int .i64 e, .int .i64 f]⟩)] = some [.int .i64 a, .int .i64 b, .int .i64 c, .int .i64 d, .int .i64 e, .int .i64 f] := fun _ _ _ _ _ _ => rfl
          have hfe : ∀ (a b : Int) (u : Option Addr) (n m : Nat), fillA [.int .i64 0, .int .i64 0, .slice none 0 0] [(0, 2, .agg ⟨[.int .i64 a, .int .i64 b]⟩), (2, 1, .slice u n m)] = some [.int .i64 a, .int .i64 b, .slice u n m] := fun _ _ _ _ _ => rfl
          refine yx ?_
          (repeat (first | refine yv ?_ | (apply ye; simp (disch := first|exact zz|fail) only [go_sem, load_lim g4, load_at g4, evC, tidx0, tidx1, load_at c4, ixx, ixy, ldx, ldy, hft, hfe]; with_reducible rfl)))
          have hTN : Tris (J ++ [.cells true 3 (flat3 [x, y])]) [x, y] (.slice (some ⟨J.length, 0, none⟩) 2 2) := Tris.last 2
          have x6 : Ext J (J ++ [AObj.cells true 3 (flat3 [x, y])]) := (Ext.refl J).app _
          have eR : [AObj.cells true 3 (flat3 [x, y])] = [AObj.cells true 3 [.int .i64 x.1, .int .i64 x.2.1, .int .i64 x.2.2, .int .i64 y.1, .int .i64 y.2.1, .int .i64 y.2.2]] := rfl
          rw [eR] at hTN x6
          generalize (J ++ [AObj.cells true 3 [.int .i64 x.1, .int .i64 x.2.1, .int .i64 x.2.2, .int .i64 y.1, .int .i64 y.2.1, .int .i64 y.2.2]] : AHeap) = J6 at hTN x6
          (refine adraw_call (N := []) (firstD (clashOf_c hTN (by simp))) ?_; rw [List.append_nil])
          have ez : clashOfL L [x, y] = ((0, 1), 0) := by unfold clashOfL; rw [if_neg (fun h => h (hk.sub hsub).err), two_clash p3]; rfl
          rw [ez]
          (repeat (first | refine yv ?_ | (apply ye; simp (disch := first|exact zz|fail) only [go_sem]; with_reducible rfl)))
          (repeat (first | refine yw ?_ | ((first | apply yd | apply ye); simp (disch := first|exact zz|fail) only [go_sem, tz0]; with_reducible rfl)))
          refine cond_f rfl ?_
          (refine yg ?_)
          exact ⟨rfl, by simp [forget], x6.app _⟩
        · have hcl : clashL L M = none := by
            cases hcl : clashL L M with
            | none => rfl
            | some p => rw [hcl] at ec; rw [ec] at hc0; exact absurd rfl hc0
          have ec : c = ((0, 0), 12) := by rw [ec, hcl]
          subst ec
          (repeat (first | refine yw ?_ | ((first | apply yd | apply ye); simp (disch := first|exact zz|fail) only [go_sem, tz12]; with_reducible rfl)))
          refine cond_f rfl ?_
          (refine yg ?_)
          exact ⟨rfl, by simp [forget], Ext.refl _⟩
      rintro e J2 ⟨rfl, x5⟩
      have g5 := x5.cell g4
      have k5 := k4.ext x5
      have hr5 := hr.ext x5
      clear k4 k2 k0 c4 c3 g4 g2 g0 hr
      have hwo := fun (J : AHeap) (K : List Nat) (kv : Value) (hl : Tris J M s) (hK : Ints J (intsN K) kv) (hb : K.length ≤ 1000000000) => without_c (L := L) hl (by omega) hK (by rw [intsN_len]; exact hb)
      simp only [woTo_withoutL] at hwo
      have hsub : ∀ K : List Nat, (withoutL M K).Sublist M := fun K => by
        have := woTo_sub (K := intsN K) (M := M) (n := M.length) (Nat.le_refl _)
        rwa [List.take_of_length_le (Nat.le_refl _), woTo_withoutL] at this
      have hsz : ∀ K : List Nat, evErrL L (withoutL M K) = 0 := fun K => (hk.sub (hsub K)).err
      have hsl : ∀ K : List Nat, (withoutL M K).length ≤ 1000000000 := fun K => by have := (hsub K).length_le; omega
      (repeat (first | refine yw ?_ | ((first | apply yd | apply ye); simp (disch := first|exact zz|fail) only [go_sem, load_ev g5]; with_reducible rfl)))
      (refine aops_call_to (hwo J2 O r k5 hr5 (by omega)) ?_)
      have hTN : Tris (J2 ++ retN 3 (withoutL M O).length (flat3 (withoutL M O))) (withoutL M O) (retV J2 (withoutL M O).length) := Tris.ret
      have x6 : Ext J2 (J2 ++ retN 3 (withoutL M O).length (flat3 (withoutL M O))) := ⟨_, rfl⟩
      generalize (J2 ++ retN 3 (withoutL M O).length (flat3 (withoutL M O)) : AHeap) = J6 at hTN x6
      generalize retV J2 (withoutL M O).length = wv at hTN
      (refine yg ?_)
      (refine aops_call_to (clashOf_c hTN (hsl O)) ?_)
      have ez : clashOfL L (withoutL M O) = ((0, 0), 12) := by unfold clashOfL; rw [if_neg (fun h => h (hsz O)), hhit]
      rw [ez]
      (repeat (first | refine yw ?_ | ((first | apply yd | apply ye); simp (disch := first|exact zz|fail) only [go_sem, store_newF, tz12]; with_reducible rfl)))
      refine cond_f rfl ?_
      have x7 : Ext J6 (J6 ++ [AObj.cells true 0 [.int .i64 ((0, 0) : Int × Int).1, .int .i64 ((0, 0) : Int × Int).2]]) := (Ext.refl J6).app _
      have x26 := x6.trans x7
      generalize (J6 ++ [AObj.cells true 0 [.int .i64 ((0, 0) : Int × Int).1, .int .i64 ((0, 0) : Int × Int).2]] : AHeap) = J7 at x7 x26
      have g7 := x26.cell g5
      have k7 := k5.ext x26
      have hr7 := hr5.ext x26
      clear g5 k5 hr5 hTN x6 x7
      (refine yg ?_)
      refine awp_loop_n [false, true, false, false, false, true, false, false, false, false, false, false, true, false, false, false, false, false, false, false, false, false, false, false, false, false, false, false, false, false, false, false, false, false, false, false, false, false, false, false, false, false, false, false, false, false, false, false, false, false, false, false, false, false, false, false, false, false, false, false, false, false, false, false, false, false, false, false, false, false, false, false, false, false, false, false, false, false, false, false, false, false, false, false, false, false, false, false, false, false, false, false, false, false, false, false, false, false, false, false, false, false, false, false, false, false, false, false, false, false, false, false, false, false, false, false, false, false, false, false, false, false, false, false, false, false, false, false, false, false, false, false, false, false, false, false, false, false, false, false, false, false, false, false, false, false, false, false, false, false, false, false, false, false, false, false, false, false, false, false, false, false] O.length (fun i e J => e = [junk, .pointer (some ⟨H.length, 0, none⟩), junk, junk, junk, r, junk, junk, junk, junk, junk, junk, .int .i64 (i : Nat), junk, junk, junk, junk, junk, junk, junk, junk, junk, junk, junk, junk, junk, junk, junk, junk, junk, junk, junk, junk, junk, junk, junk, junk, junk, junk, junk, junk, junk, junk, junk, junk, junk, junk, junk, junk, junk, junk, junk, junk, junk, junk, junk, junk, junk, junk, junk, junk, junk, junk, junk, junk, junk, junk, junk, junk, junk, junk, junk, junk, junk, junk, junk, junk, junk, junk, junk, junk, junk, junk, junk, junk, junk, junk, junk, junk, junk, junk, junk, junk, junk, junk, junk, junk, junk, junk, junk, junk, junk, junk, junk, junk, junk, junk, junk, junk, junk, junk, junk, junk, junk, junk, junk, junk, junk, junk, junk, junk, junk, junk, junk, junk, junk, junk, junk, junk, junk, junk, junk, junk, junk, junk, junk, junk, junk, junk, junk, junk, junk, junk, junk, junk, junk, junk, junk, junk, junk, junk, junk, junk, junk, junk, junk, junk, junk, junk, junk, junk, junk] ∧ Ext J7 J) ?_ ?_
      · exact ⟨by simp [forget], Ext.refl _⟩
      rintro i e J8 hi ⟨rfl, x8⟩
      have g8 := x8.cell g7
      have k8 := k7.ext x8
      have hr8 := hr7.ext x8
      have hrl8 := hr8.len (H' := J8)
      rw [intsN_len] at hrl8
      (repeat (first | refine yw ?_ | ((first | apply yd | apply ye); simp (disch := first|exact zz|fail) only [go_sem, hrl8]; with_reducible rfl)))
      refine cond_p rfl (fun hlt => ?_) (fun hge => ?_)
      rotate_left 1
      · (refine yg ?_)
        exact fin_1 rfl
      have hi' : i < O.length := by omega
      have e1 : (i : Int) + 1 = ((i + 1 : Nat) : Int) := by omega
      have hto := fun J : AHeap => Sl.to hr8 (H' := J) (m := (i : Int)) (k := .i64) (by omega) (by rw [intsN_len]; omega)
      simp only [Int.toNat_natCast] at hto
      have hfr := fun J : AHeap => Sl.from hr8 (H' := J) (lo := ((i + 1 : Nat) : Int)) (k := .i64) (by rw [intsN_len]; omega) (by omega) (by rw [intsN_len]; omega)
      simp only [Int.toNat_natCast] at hfr
      have hup := hr8.upto (m := i) (by rw [intsN_len]; omega)
      (repeat (first | refine yw ?_ | ((first | apply yd | apply ye); simp (disch := first|exact zz|fail) only [go_sem, hto]; with_reducible rfl)))
      refine adraw_call (copyInts_c hup (by rw [List.length_take, intsN_len]; omega)) ?_
      have hm := (hr8.ext ((Ext.refl J8).app [.cells true 1 (((intsN O).take i).map (.int .i64))])).rest (lo := i + 1) (by rw [intsN_len]; omega)
      have hat : (J8 ++ [AObj.cells true 1 (((intsN O).take i).map (.int .i64))])[J8.length]? = some (.cells true 1 (((intsN O).take i).map (.int .i64))) := at_new
      obtain ⟨q, J9, hap, hq, hx⟩ := append_ints hat hm (by rw [List.length_take, intsN_len]; omega) (by rw [List.length_drop, intsN_len]; omega)
      have x9 : Ext J8 J9 := hx J8 ((Ext.refl J8).app _) (Nat.le_refl _)
      have eq : (intsN O).take i ++ (intsN O).drop (i + 1) = intsN (lessL O i) := by simp [lessL, intsN, List.map_take, List.map_drop]
      rw [eq] at hq
      have g9 := x9.cell g8
      have k9 := k8.ext x9
      have hll : (lessL O i).length ≤ 1000000000 := by unfold lessL; rw [List.length_append, List.length_take, List.length_drop]; omega
      (repeat (first | refine yw ?_ | ((first | apply yd | apply ye); simp (disch := first|exact zz|fail) only [go_sem, e1, hfr, hap, load_ev g9]; with_reducible rfl)))
      (refine aops_call_to (hwo J9 (lessL O i) q k9 hq hll) ?_)
      have hTN : Tris (J9 ++ retN 3 (withoutL M (lessL O i)).length (flat3 (withoutL M (lessL O i)))) (withoutL M (lessL O i)) (retV J9 (withoutL M (lessL O i)).length) := Tris.ret
      have x10 : Ext J9 (J9 ++ retN 3 (withoutL M (lessL O i)).length (flat3 (withoutL M (lessL O i)))) := ⟨_, rfl⟩
      generalize (J9 ++ retN 3 (withoutL M (lessL O i)).length (flat3 (withoutL M (lessL O i))) : AHeap) = J10 at hTN x10
      generalize retV J9 (withoutL M (lessL O i)).length = wv at hTN
      (refine yg ?_)
      (refine aops_call_to (clashOf_c hTN (hsl _)) ?_)
      obtain ⟨p, hp⟩ : ∃ p, clashL L (withoutL M (lessL O i)) = some p := by
        cases hh : clashL L (withoutL M (lessL O i)) with
        | none => exact absurd hh (hless i hi')
        | some p => exact ⟨p, rfl⟩
      have ez : clashOfL L (withoutL M (lessL O i)) = (((p.1 : Int), (p.2 : Int)), 0) := by unfold clashOfL; rw [if_neg (fun h => h (hsz _)), hp]
      rw [ez]
      (repeat (first | refine yw ?_ | ((first | apply yd | apply ye); simp (disch := first|exact zz|fail) only [go_sem, store_newF, tz0]; with_reducible rfl)))
      refine cond_f rfl ?_
      (repeat (first | refine yw ?_ | ((first | apply yd | apply ye); simp (disch := first|exact zz|fail) only [go_sem, e1]; with_reducible rfl)))
      exact ⟨hi', by simp [forget], x8.trans (x9.trans (x10.app _))⟩
end Go.Lq

namespace Go.Lq
open Go Go.ChangeShapes Go.WideShapes Go.ChangeAt Go.RowKit
open Go.Proofs

set_option maxRecDepth 100000 in
theorem lifted15 (os : Os) (started : os.Started) (X : Type) (enc : TypeId × Value → X) :
    ReturnsInHanded {} Try.checked os 15 .any (Yteimgikhanhgiaa.Rows.speedTwoSpec.pre6 enc Try.prog Try.f15 [] false) (Yteimgikhanhgiaa.Rows.speedTwoSpec.post enc Try.prog Try.f15 false true false false) := by
  refine returnsInHanded_of_plain_shaped (C := Try.checked) own_knob started (by kernel_rfl) Try.func15
    (ChangeSpec.witness6 (enc := enc) (C := Try.checked) false ⟨#[], #[.agg #[.int .i64 0, .int .i64 0, .slice none 0 0]], []⟩ 12 (by kernel_rfl) (by kernel_rfl) (by kernel_rfl) (by kernel_rfl)) ?_
  intro W base args ds gs before hsh hval hW
  have hWw := hW
  obtain ⟨p, q, hA, _⟩ := hW
  refine (calls_of_law (d := 20) (of_shaped hsh) globs glob_at hA (fun j t v h1 h2 => hval j t v (by simpa using h1) (by simpa using h2)) (by kernel_rfl) fun H avs hx h => ?_).mono fun e W' ⟨he, hB⟩ => ?_
  · exact law15 (by rw [show Try.f15.params = #[26] from Try.params15] at h; exact h)
  · subst he
    exact ⟨_, rfl, law_post (bt := 4) laid_out rfl Try.underlying4 (by kernel_rfl) (by kernel_rfl) hWw (fun ds hd => by
      rw [show Try.f15.params = #[26] from Try.params15] at hd
      match ds, hd with
      | [a], _ => rfl) hB⟩
theorem unf15 : Try.prog.unfollowed 15 = true := by kernel_rfl
theorem rec15 : Try.prog.recurses 15 = true := by kernel_rfl
theorem named15 : Try.prog.varsNamed 15 = Yteimgikhanhgiaa.Rows.speedTwoRow.named := by kernel_rfl
theorem facts15 : joinedFacts Try.prog 15 Try.f15 Yteimgikhanhgiaa.Rows.speedTwoSpec Yteimgikhanhgiaa.Rows.speedTwoRow = true := by
  unfold joinedFacts
  rw [may_enter, stops_heard, maps_rowed, laid_out, lifts_final, make_is, unf15, rec15, named15]
  kernel_rfl
theorem holds15 : Yteimgikhanhgiaa.Rows.SpeedTwoSaid :=
  OpenClaim.holds_of_wide 15 Try.f15 rfl rfl rfl rfl rfl rfl rfl ⟨rfl, rfl, rfl, rfl, rfl⟩ rfl rfl rfl rfl rfl (by kernel_rfl) Try.func15 facts15
    (of_decide_eq_true (by kernel_rfl)) (by unfold Func.isWrapper; first | (rw [if_pos (by decide +kernel)]; kernel_rfl) | (rw [if_neg (by decide +kernel)]; exact ⟨rfl, rfl⟩))
    (fun os started H enc _ => lifted15 os started H enc)
end Go.Lq
namespace Go.Proofs.Yteimgikhanhgiaa
open Go Go.Lq
theorem speedTwo_proved : Rows.SpeedTwoSaid := holds15
end Go.Proofs.Yteimgikhanhgiaa
