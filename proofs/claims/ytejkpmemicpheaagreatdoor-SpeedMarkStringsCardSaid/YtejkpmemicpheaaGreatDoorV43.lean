/- SpeedMarkStrings is proved: for every input that can be read the law returns true, and each argument reads afterwards as it read before; the listed package variables hold what the program's text lays (the card ties them). -/
import Derived.Shelf.Spec.SlicesGrow
import Derived.Shelf.Strings.OnBuilder
import Derived.Shelf.Strconv.Itoa3
import Derived.Shelf.Strconv.AtoiAll
import Derived.Shelf.Strings.Search3
import Derived.Shelf.Strings.Cut
import Derived.Shelf.Strings.Split
import Derived.Shelf.LaysM
import Derived.Shelf.LaysC
import Derived.Test.YtejkpmemicpheaaGreatDoorProg
import Derived.Lib.AppendIntMem
import Derived.Lib.AtoiErrMem
import Derived.Test.YtejkpmemicpheaaGreatDoorCards
import Derived.Test.YtejkpmemicpheaaGreatDoorTie
import Derived.LaidMore
import Derived.HandedShaped
import Derived.Lib.LaidTab
import Derived.Lay
import Derived.Stop.Joined
import Derived.Lib.AtoiAllCases
import Derived.Lib.ItoaLen
import Derived.Lib.SplitLaws
import Derived.Test.YtejkpmemicpheaaGreatDoorV42
set_option linter.unusedSimpArgs false
set_option linter.unnecessarySimpa false
set_option linter.unusedVariables false
set_option linter.unusedSectionVars false
set_option maxRecDepth 100000
namespace Go.Lq
open Go
open Go.Proofs

theorem pairs_nil (H : AHeap) : Pairs H [] (.slice none 0 0) := (OwnP.nil H H).pairs
theorem fin_l2a {c : RCode} {n a b : Nat} {R : Value → AHeap → Prop} {e : Env} {H : AHeap} {id : Nat} {s : Value} (hp : e.getD a undef = .pointer (some ⟨id, 0, none⟩)) (h1 : H[id]? = some (.cells true 0 [s])) (h : R (.tuple #[.agg ⟨[s]⟩, e.getD b undef]) H) :
    Fin ⟨c, n, [.loadN 1 a, .tmp b]⟩ R .ret e H := fin_l2 (u := .agg ⟨[s]⟩) (by rw [hp]; exact n1_at h1) h
theorem store_a1 {H : AHeap} {id e : Nat} {x y : Value} (h : H[id]? = some (.cells true e [x])) (ha : isAtom y = true) : storeR 1 (.pointer (some ⟨id, 0, none⟩)) (.agg ⟨[y]⟩) H = some (undef, H.set id (.cells true e [y])) := store_all h rfl (by simp [ha]) rfl
theorem pushP_at {H : AHeap} {v : Value} {l : List (Int × Int)} {x : Int × Int} {i : Nat} {c : AObj} (h : H[i]? = some c) (hv : v = .slice none 0 0 ∨ idOf v ≠ i) : (pushPH H v l x)[i]? = some c := by
  have hi := (List.getElem?_eq_some_iff.1 h).1
  unfold pushPH
  rw [appH_at (by simp; omega) hv, List.getElem?_append_left hi]; exact h
theorem pushP_len {H : AHeap} {v : Value} {l : List (Int × Int)} {x : Int × Int} : (pushPH H v l x).length = H.length + 2 := by unfold pushPH; rw [appH_len]; simp
theorem OwnP.aside {H0 H : AHeap} {l : List (Int × Int)} {v : Value} (h : OwnP H0 H l v) {j : Nat} (hj : j < H0.length) : v = .slice none 0 0 ∨ idOf v ≠ j := by
  rcases h.2 with ⟨rfl, h0⟩ | ⟨id, rfl, h1, _, _⟩
  · exact .inl rfl
  · exact .inr (by show id ≠ j; omega)
theorem OwnP.set_ne {H0 H : AHeap} {l : List (Int × Int)} {v : Value} (h : OwnP H0 H l v) {j : Nat} (hj : v = .slice none 0 0 ∨ idOf v ≠ j) (c : AObj) : OwnP H0 (H.set j c) l v := by
  refine Own.set_ne h ?_ c
  rcases hj with rfl | hj
  · rcases h.2 with ⟨_, h0⟩ | ⟨id, e, _⟩
    · exact .inl h0
    · cases e
  · exact .inr hj
theorem OwnP.pushedL {H0 H : AHeap} {l : List (Int × Int)} {v : Value} (h : OwnP H0 H l v) (hx : H0.length ≤ H.length) (x : Int × Int) : OwnP H0 (pushPH H v l x) (l ++ [x]) (pushV H l.length) := by
  have := Own.appended (h.app [.cells true 2 [.int .i64 x.1, .int .i64 x.2]]) (m := 1) (cs := [.int .i64 x.1, .int .i64 x.2]) rfl (by omega) (by simp; omega)
  unfold OwnP
  simpa [pushV, pushPH, flatP] using this
theorem FewSt.push {H0 H F : AHeap} {a4 a7 idm a8 a9 idb base : Nat} {L : Int × Int} {M : List Mark} {v sv : Value} {m : Ents} {best : Int × Int} {l : List (Int × Int)} (h : FewSt H0 a4 a7 idm a8 a9 idb L M v m best H) (o : FewIds H0.length a4 a7 idm a8 a9 idb base)
    (ho : OwnP F H l sv) (hF : base ≤ F.length) (x : Int × Int) : FewSt H0 a4 a7 idm a8 a9 idb L M v m best (pushPH H sv l x) := by
  obtain ⟨o1, o2, o3, o4, o5, o6, o7⟩ := o
  obtain ⟨y, b1, b2, b4, b7, mp, b8, b9, bb⟩ := h
  have hw : OwnP H0 H l sv := ho.weaken (by omega)
  exact ⟨OwnP.ext hw y x, pushP_at b1 (ho.aside (by omega)), pushP_at b2 (ho.aside (by omega)), pushP_at b4 (ho.aside (by omega)), pushP_at b7 (ho.aside (by omega)), pushP_at mp (ho.aside (by omega)), pushP_at b8 (ho.aside (by omega)), pushP_at b9 (ho.aside (by omega)), pushP_at bb (ho.aside (by omega))⟩
theorem load_way2 {G : AHeap} {id : Nat} {w : Way} (h : G[id]? = some (.cells true 0 (wayC w))) : loadNR 2 (.pointer (some ⟨id, 1, none⟩)) G = some (.agg ⟨[.int .i64 w.2.1.1, .int .i64 w.2.1.2]⟩, G) := loadN_at h (by simp [wayC])
theorem fill_pair {a b : Int} : fillA [.int .i64 0, .int .i64 0] [(0, 2, .agg ⟨[.int .i64 a, .int .i64 b]⟩)] = some [.int .i64 a, .int .i64 b] := rfl
theorem none_chain {L : Int × Int} {M : List Mark} (h0 : 0 < M.length) (h : ∀ b, inR M 0 b → b < (M.getD 0 (0, 0, 0)).2.2 + 1 → tabK L M 0 b = none) (s : Int) (n : Nat) : ¬ Chain L M 0 s n := fun hc => by
  have hr := hc.inR
  exact (tabK_spec h0).2 (h s hr (by unfold inR at hr; omega)) n hc
theorem first_min {L : Int × Int} {M : List Mark} (h0 : 0 < M.length) {w : Way} (h : ∀ b' w', inR M 0 b' → b' < (M.getD 0 (0, 0, 0)).2.2 + 1 → tabK L M 0 b' = some w' → w.1 ≤ w'.1) (s : Int) (n : Nat) (hc : Chain L M 0 s n) : w.1 ≤ n := by
  have hr := hc.inR
  cases hw : tabK L M 0 s with
  | none => exact absurd hc ((tabK_spec h0).2 hw n)
  | some w' =>
    have a := h s w' hr (by unfold inR at hr; omega) hw
    have b := ((tabK_spec h0).1 w' hw).2 n hc
    omega
section
variable {H : AHeap} {L : Int × Int} {M : List Mark} {v : Value}
set_option maxHeartbeats 32000000 in
set_option maxRecDepth 100000 in
theorem fewest_c (hl : Tris H M v) (hb : M.length ≤ 1000000000) : ACall Go.Proofs.Tryz.prog 23 [evV L v] H fun w H' => Ext H H' ∧ ∃ s l e, w = .tuple #[.agg ⟨[s]⟩, .int .i64 e] ∧ Pairs H' l s ∧ FewRes L M l e := by
  (refine a23 ?_; simp only [n23, List.replicate, yq, yr, yt, yu]; first | refine Go.Lq.q1 ?_ | refine Go.Lq.q2 ?_ | refine Go.Lq.q6 ?_ | refine Go.Lq.q7 ?_ | refine Go.Lq.qh rfl ?_ | skip)
  obtain ⟨G, hG⟩ : ∃ G, G = H ++ [AObj.cells true 0 (evC L v)] ++ [AObj.cells true 0 [.slice none 0 0]] := ⟨_, rfl⟩
  have g0 : G[H.length]? = some (.cells true 0 (evC L v)) := by rw [hG]; simp
  have g1 : G[H.length + 1]? = some (.cells true 0 [.slice none 0 0]) := by rw [hG]; simp
  have xG : Ext H G := by rw [hG]; exact ((Ext.refl H).app _).app _
  have lG : G.length = H.length + 2 := by rw [hG]; simp
  (repeat (first | refine yv ?_ | (apply yd; simp (disch := first|exact zz|fail) only [go_sem, box_ev hl.atom]; with_reducible rfl)))
  (simp only [List.length_append, List.length_cons, List.length_nil, Nat.zero_add, Nat.add_assoc, Nat.reduceAdd])
  rw [← hG]
  clear hG
  (repeat (first | refine yw ?_ | ((first | apply yd | apply ye); simp (disch := first|exact zz|fail) only [go_sem, load_ev g0]; with_reducible rfl)))
  refine aops_call ((open_c (hl.ext xG) hb).mono fun w G2 ⟨hw, x2⟩ => ?_)
  subst hw
  have l2 := x2.len
  have hst : storeR 3 (.pointer (some ⟨G2.length, 0, none⟩)) (evV L v) (G2 ++ [.cells true 0 [.int .i64 0, .int .i64 0, .slice none 0 0]]) = some (undef, G2 ++ [.cells true 0 (evC L v)]) := store_newN (by simp [hl.atom, isAtom_int]) rfl rfl
  (repeat (first | refine yw ?_ | ((first | apply yd | apply ye); simp (disch := first|exact zz|fail) only [go_sem, hst]; with_reducible rfl)))
  have k4 : (G2 ++ [AObj.cells true 0 (evC L v)])[G2.length]? = some (.cells true 0 (evC L v)) := at_new
  have x3 := x2.app [AObj.cells true 0 (evC L v)]
  obtain ⟨a4, ha4⟩ : ∃ a4, G2.length = a4 := ⟨_, rfl⟩
  have l3 : (G2 ++ [AObj.cells true 0 (evC L v)]).length = a4 + 1 := by simp [ha4]
  rw [ha4] at k4 l2 ⊢
  generalize (G2 ++ [AObj.cells true 0 (evC L v)] : AHeap) = G3 at k4 x3 l3
  have xH3 := xG.trans x3
  have hl3 := hl.ext xH3
  have k0 := x3.cell g0
  have k1 := x3.cell g1
  clear hst
  (repeat (first | refine yw ?_ | ((first | apply yd | apply ye); simp (disch := first|exact zz|fail) only [go_sem, hl3.len, hl3.idx, hl3.load, load_at k0, evC]; with_reducible rfl)))
  (refine aops_call_to (sunless_c _ _) ?_)
  (refine yg ?_)
  (refine aops_call_to (sfirst_c (l := [_, _]) (Ints.last (l := [_, _]) 2) (by simp)) ?_)
  have e1 : firstErr [evErrL L M, (if decide ((2 : Int) ≤ (M.length : Int)) = true then 0 else 10)] = fewE L M := by
    unfold fewE
    have e0 : ((2 : Int) ≤ (M.length : Int)) = (2 ≤ M.length) := by simp; omega
    simp only [decide_eq_true_eq, e0]
  rw [e1]
  have x4 := x3.app [AObj.cells true 1 [.int .i64 (evErrL L M), .int .i64 (if decide ((2 : Int) ≤ (M.length : Int)) = true then 0 else 10)]]
  have k4 := at_app (N := [AObj.cells true 1 [.int .i64 (evErrL L M), .int .i64 (if decide ((2 : Int) ≤ (M.length : Int)) = true then 0 else 10)]]) k4
  have l4 : (G3 ++ [AObj.cells true 1 [.int .i64 (evErrL L M), .int .i64 (if decide ((2 : Int) ≤ (M.length : Int)) = true then 0 else 10)]]).length = a4 + 2 := by simp [l3]
  generalize (G3 ++ [AObj.cells true 1 [.int .i64 (evErrL L M), .int .i64 (if decide ((2 : Int) ≤ (M.length : Int)) = true then 0 else 10)]] : AHeap) = G4 at x4 k4 l4
  have xH4 := xG.trans x4
  have hl4 := hl.ext xH4
  have k0 := x4.cell g0
  have k1 := x4.cell g1
  by_cases hfe : fewE L M = 0
  rotate_left 1
  · have ee : fewErr L M = fewE L M := by unfold fewErr; rw [if_pos hfe]
    (repeat (first | refine yw ?_ | ((first | apply yd | apply ye); simp (disch := first|exact zz|fail) only [go_sem, dec_f hfe]; with_reducible rfl)))
    refine cond_f rfl ?_
    (repeat (first | refine yw ?_ | ((first | apply yd | apply ye); simp (disch := first|exact zz|fail) only [go_sem, dec_t (show fewE L M ≠ 0 from hfe)]; with_reducible rfl)))
    refine cond_t rfl ?_
    (repeat (first | refine yw ?_ | ((first | apply yd | apply ye); simp (disch := first|exact zz|fail) only [go_sem, fill_none, store_a1 (y := .slice none 0 0) k1 rfl]; with_reducible rfl)))
    exact fin_l2a rfl (get_set_self k1) ⟨xH4.set (by omega) _, _, [], _, rfl, pairs_nil _, .inl ⟨by rw [ee]; exact hfe, ee.symm, rfl⟩⟩
  obtain ⟨hk, h2⟩ := fewE_ok hfe
  have hlen := hk.len
  have hcw := containsM_c (H := G4) (g := 54) (ys := []) (p := wideB) hl4 hb (fun j J hj _ => wide_c (hk.t1 j hj) (hk.t2 j hj))
  (repeat (first | refine yw ?_ | ((first | apply yd | apply ye); simp (disch := first|exact zz|fail) only [go_sem, hl4.len, hl4.idx, hl4.load, load_at k0, evC, dec_t hfe]; with_reducible rfl)))
  (refine aops_call_to (hcw) ?_)
  cases hwd : (idxF wideB M 0 M.length).isSome with
  | true =>
    have ee : fewErr L M = 8 := by unfold fewErr; rw [if_neg (by rw [hfe]; decide), if_pos hwd]
    (refine yg ?_)
    refine cond_t rfl ?_
    (refine yg ?_)
    refine cond_t rfl ?_
    (repeat (first | refine yw ?_ | ((first | apply yd | apply ye); simp (disch := first|exact zz|fail) only [go_sem, fill_none, store_a1 (y := .slice none 0 0) k1 rfl]; with_reducible rfl)))
    exact fin_l2a rfl (get_set_self k1) ⟨xH4.set (by omega) _, _, [], _, rfl, pairs_nil _, .inl ⟨by rw [ee]; decide, ee.symm, rfl⟩⟩
  | false =>
  have ee : fewErr L M = 0 := by unfold fewErr; rw [if_neg (by rw [hfe]; decide), if_neg (by rw [hwd]; simp)]
  (refine yg ?_)
  refine cond_f rfl ?_
  (repeat (first | refine yw ?_ | ((first | apply yd | apply ye); simp (disch := first|exact zz|fail) only [go_sem, hfe]; with_reducible rfl)))
  refine cond_f rfl ?_
  obtain ⟨B, hB⟩ : ∃ B, B = G4 ++ [AObj.cells true 0 [.int .i64 ((M.length : Int) - 1)]] ++ [AObj.map []] ++ [AObj.cells true 0 [.map (some (a4 + 3))]] ++ [AObj.cells true 0 [.int .i64 0, .int .i64 0]] := ⟨_, rfl⟩
  have hgB : ∀ (i : Nat) (c : AObj), G4[i]? = some c → B[i]? = some c := fun i c h => by rw [hB]; exact at_app (at_app (at_app (at_app h)))
  have xB : Ext H B := by rw [hB]; exact (((xH4.app _).app _).app _).app _
  have lB : B.length = a4 + 6 := by rw [hB]; simp [l4]
  have n0 : B[a4 + 2]? = some (.cells true 0 [.int .i64 ((M.length : Int) - 1)]) := by rw [hB, ← l4]; simp
  have n1 : B[a4 + 3]? = some (.map []) := by rw [hB, show a4 + 3 = G4.length + 1 by omega]; simp
  have n2 : B[a4 + 4]? = some (.cells true 0 [.map (some (a4 + 3))]) := by rw [hB, show a4 + 4 = G4.length + 2 by omega]; simp
  have n3 : B[a4 + 5]? = some (.cells true 0 [.int .i64 0, .int .i64 0]) := by rw [hB, show a4 + 5 = G4.length + 3 by omega]; simp
  have b0 := hgB _ _ k0
  have b1 := hgB _ _ k1
  have b4 := hgB _ _ k4
  (repeat (first | refine yv ?_ | (apply yd; simp (disch := first|exact zz|fail) only [go_sem, hl4.len, hl4.idx, hl4.load, load_at k0, evC, store_newI, store_newM]; with_reducible rfl)))
  (simp only [List.length_append, List.length_cons, List.length_nil, Nat.zero_add, Nat.add_assoc, Nat.reduceAdd])
  rw [l4]
  simp only [Nat.add_assoc, Nat.reduceAdd]
  rw [← hB]
  clear hB hgB
  have hlB := hl.ext xB
  (repeat (first | refine yw ?_ | ((first | apply yd | apply ye); simp (disch := first|exact zz|fail) only [go_sem, load_at b0, evC]; with_reducible rfl)))
  refine aops_call ((backward_c (H := B) hl.atom).mono fun w G5 ⟨hw, hG5⟩ => ?_)
  subst hw
  have x5 : Ext B G5 := by rw [hG5]; exact (Ext.refl B).app _
  have c5 : G5[a4 + 6]? = some (.cells true 0 [v]) := by rw [hG5, ← lB]; exact at_new
  have l5 : G5.length = a4 + 7 := by rw [hG5]; simp [lB]
  rw [lB]
  clear hG5
  have o : FewIds H.length a4 (a4 + 2) (a4 + 3) (a4 + 4) (a4 + 5) (a4 + 6) (a4 + 7) := ⟨by omega, by omega, by omega, by omega, by omega, by omega, by omega⟩
  have hS5 : FewSt H a4 (a4 + 2) (a4 + 3) (a4 + 4) (a4 + 5) (a4 + 6) L M v [] (0, 0) G5 := ⟨xB.trans x5, x5.cell b0, x5.cell b1, x5.cell b4, x5.cell n0, x5.cell n1, x5.cell n2, x5.cell n3, c5⟩
  refine yx ?_
  refine awp_rangeA mo rfl (fun l h => by cases h) (back1_c (idb := a4 + 6) (M := M) (v := v) (by omega))
    (fun rest H' => ∃ i m best, rest = backM M i ∧ i ≤ M.length ∧ TabJ L M i m best ∧ FewSt H a4 (a4 + 2) (a4 + 3) (a4 + 4) (a4 + 5) (a4 + 6) L M v m best H')
    (fun _ _ => False) ?_ ?_ ?_ ?_ ?_ ?_ ?_
  · rintro rest H' c ⟨i, m, best, h1, h2, h3, h4⟩
    exact ⟨i, m, best, h1, h2, h3, h4.set o (by omega) _⟩
  · rintro x H' c h
    exact h.elim
  · rintro rest H' ⟨i, m, best, h1, h2, h3, h4⟩
    exact ⟨h4.bb, hl.ext h4.ext⟩
  · intro N
    exact ⟨M.length, [], (0, 0), rfl, Nat.le_refl _, ⟨fun h => by omega, fun h => ⟨MapAt.start (by omega) (Int.le_refl _), rfl⟩⟩, hS5.app N⟩
  · rintro a rest H1 ⟨i, m, best, h1, h2i, h3, h4⟩ hlt
    match i, h1 with
    | k + 1, h1 =>
    obtain ⟨rfl, rfl⟩ := List.cons.inj h1
    have hkl : k < M.length := by omega
    have h3 := h3.open
    obtain ⟨x, hx⟩ : ∃ x, M.getD k (0, 0, 0) = x := ⟨_, rfl⟩
    have t1 := hk.t1 k hkl
    have t2 := hk.t2 k hkl
    have t3 := hk.lohi k hkl
    have px := hk.pos k hkl
    have emp : mP M k = x.1 := by unfold mP; rw [hx]
    obtain ⟨n, hn⟩ : ∃ n, widthN M k = n := ⟨_, rfl⟩
    have hnx : (n : Int) = x.2.2 - x.2.1 + 1 := by rw [← hn, ← hx]; unfold widthN; rw [hx] at t3 ⊢; omega
    rw [hx] at t1 t2 t3 px h3 ⊢
    refine ⟨rfl, fun R Rb _ hR => ?_⟩
    simp only [assignParams, List.zip_cons_cons, List.zip_nil_left, List.foldl_cons, List.foldl_nil]
    have hstm : storeR 3 (.pointer (some ⟨H1.length, 0, none⟩)) (markV x) (H1 ++ [.cells true 0 [.int .i64 0, .int .i64 0, .int .i64 0]]) = some (undef, H1 ++ [.cells true 0 (markC x)]) := store_new3
    (repeat (first | refine yw ?_ | ((first | apply yd | apply ye); simp (disch := first|exact zz|fail) only [go_sem, hstm]; with_reducible rfl)))
    refine ⟨rfl, at_app hR, ?_⟩
    have hS := (h4.app [AObj.cells true 0 (markC x)]).set o (j := G5.length) (by omega) Rb
    have hRb : ((H1 ++ [AObj.cells true 0 (markC x)]).set G5.length Rb)[G5.length]? = some Rb := get_set_self (at_app hR)
    have c11 : ((H1 ++ [AObj.cells true 0 (markC x)]).set G5.length Rb)[H1.length]? = some (.cells true 0 (markC x)) := by rw [List.getElem?_set_ne (by omega)]; exact at_new
    obtain ⟨i11, h11⟩ : ∃ i11, H1.length = i11 := ⟨_, rfl⟩
    rw [h11] at c11 hlt ⊢
    generalize ((H1 ++ [AObj.cells true 0 (markC x)]).set G5.length Rb : AHeap) = Hb at hS hRb c11
    clear h4 hR hstm
    (repeat (first | refine yw ?_ | ((first | apply yd | apply ye); simp (disch := first|exact zz|fail) only [go_sem, load_at c11, markC]; with_reducible rfl)))
    refine awp_loop_n [false, true, true, false, true, false, false, true, true, true, true, true, true, false, false, false, false, false, false, false, false, false, false, false, false, false, false, false, false, false, false, false, false, false, false, false, false, false, false, false, false, false, false, false, false, false, false, false, false, false, false, false, false, false, false, false, false, false, false, false, false, false, false, false, false, false, false, false, false, false, false, false, false, false, false, false, false, false, false, false, false, false, false, false, false, false, false, false, false, false, false, false, false, false, false, false, false, false, false, false, false, false, false, false, false, false, false, false, false, false, false, false, false, false, false, false, false, false, false, false, false, false, false, false, false, false, false, false, false, false, false, false, false, false, false, false, false, false, false, false, false, false, false, false, false, false, false, false, false, false, false, false] n (fun q e H' => ∃ m best, e = [junk, .pointer (some ⟨H.length, 0, none⟩), .pointer (some ⟨H.length + 1, 0, none⟩), junk, .pointer (some ⟨a4, 0, none⟩), junk, junk, .pointer (some ⟨a4 + 2, 0, none⟩), .pointer (some ⟨a4 + 4, 0, none⟩), .pointer (some ⟨a4 + 5, 0, none⟩), .int .i64 (k : Int), .pointer (some ⟨i11, 0, none⟩), .int .i64 (x.2.1 + (q : Int)), junk, junk, junk, junk, junk, junk, junk, junk, junk, junk, junk, junk, junk, junk, junk, junk, junk, junk, junk, junk, junk, junk, junk, junk, junk, junk, junk, junk, junk, junk, junk, junk, junk, junk, junk, junk, junk, junk, junk, junk, junk, junk, junk, junk, junk, junk, junk, junk, junk, junk, junk, junk, junk, junk, junk, junk, junk, junk, junk, junk, junk, junk, junk, junk, junk, junk, junk, junk, junk, junk, junk, junk, junk, junk, junk, junk, junk, junk, junk, junk, junk, junk, junk, junk, junk, junk, junk, junk, junk, junk, junk, junk, junk, junk, junk, junk, junk, junk, junk, junk, junk, junk, junk, junk, junk, junk, junk, junk, junk, junk, junk, junk, junk, junk, junk, junk, junk, junk, junk, junk, junk, junk, junk, junk, junk, junk, junk, junk, junk, junk, junk, junk, junk, junk, junk, junk, junk, junk, junk] ∧
      TabI L M k (x.2.1 + (q : Int)) m best ∧ FewSt H a4 (a4 + 2) (a4 + 3) (a4 + 4) (a4 + 5) (a4 + 6) L M v m best H' ∧ H'[G5.length]? = some Rb ∧ H'[i11]? = some (.cells true 0 (markC x))) ?_ ?_
    · exact ⟨m, best, by simp [forget], by simpa using h3, hS, hRb, c11⟩
    rintro q e H2 hq ⟨m, best, rfl, hT, hS, hRb, c11⟩
    (repeat (first | refine yw ?_ | ((first | apply yd | apply ye); simp (disch := first|exact zz|fail) only [go_sem, load_at c11, markC]; with_reducible rfl)))
    refine cond_p rfl (fun hlt2 => ?_) (fun hge2 => ?_)
    rotate_left 1
    · have hqn : q = n := by omega
      subst hqn
      (refine yg ?_)
      refine rounded_n hRb ⟨k, m, best, rfl, by omega, ?_, hS⟩
      refine TabI.close ?_
      rw [hx]
      rw [show x.2.2 + 1 = x.2.1 + (q : Int) by omega]
      exact hT
    have hqn : q < n := by omega
    obtain ⟨t, ht⟩ : ∃ t, x.2.1 + (q : Int) = t := ⟨_, rfl⟩
    have hin : inR M k t := by unfold inR; rw [hx]; omega
    have ht2 : t + 1 = x.2.1 + ((q + 1 : Nat) : Int) := by omega
    rw [ht] at hT
    have lH2 : a4 + 7 ≤ H2.length ∧ G5.length < H2.length ∧ i11 < H2.length := by
      have q1 := (List.getElem?_eq_some_iff.1 hS.bb).1
      have q2 := (List.getElem?_eq_some_iff.1 hRb).1
      have q3 := (List.getElem?_eq_some_iff.1 c11).1
      omega
    (repeat (first | refine yv ?_ | (apply yd; simp (disch := first|exact zz|fail) only [go_sem, load_at c11, markC, ht, fill2i, store_new2]; with_reducible rfl)))
    have hS := hS.app [AObj.cells true 0 [.int .i64 x.1, .int .i64 t]]
    have hRb := at_app (N := [AObj.cells true 0 [.int .i64 x.1, .int .i64 t]]) hRb
    have c11 := at_app (N := [AObj.cells true 0 [.int .i64 x.1, .int .i64 t]]) c11
    have c13 : (H2 ++ [AObj.cells true 0 [.int .i64 x.1, .int .i64 t]])[H2.length]? = some (.cells true 0 [.int .i64 x.1, .int .i64 t]) := at_new
    obtain ⟨i13, h13⟩ : ∃ i13, H2.length = i13 := ⟨_, rfl⟩
    rw [h13] at c13 lH2 ⊢
    generalize (H2 ++ [AObj.cells true 0 [.int .i64 x.1, .int .i64 t]] : AHeap) = G6 at hS hRb c11 c13
    have hne : ∀ (c : AObj), (G6.set (a4 + 3) c)[G5.length]? = some Rb ∧ (G6.set (a4 + 3) c)[i11]? = some (.cells true 0 (markC x)) ∧ (G6.set (a4 + 3) c)[i13]? = some (.cells true 0 [.int .i64 x.1, .int .i64 t]) := fun c =>
      ⟨by rw [List.getElem?_set_ne (by omega)]; exact hRb, by rw [List.getElem?_set_ne (by omega)]; exact c11, by rw [List.getElem?_set_ne (by omega)]; exact c13⟩
    (repeat (first | refine yw ?_ | ((first | apply yd | apply ye); simp (disch := first|exact zz|fail) only [go_sem, load_at hS.b7]; with_reducible rfl)))
    refine cond_p rfl (fun hlast => ?_) (fun hnl => ?_)
    · have hkl1 : k + 1 = M.length := by omega
      have hw := tabK_last (L := L) hkl1 hin
      have hput : mapPutR [(0, false), (1, false)] (.map (some (a4 + 3))) (.agg ⟨[.int .i64 x.1, .int .i64 t]⟩) (.agg ⟨[.int .i64 1, .int .i64 0, .int .i64 0, .int .i64 0]⟩) G6 = some (undef, G6.set (a4 + 3) (.map (entsP (putP (x.1, t) (wayV (1, (0, 0), 0)) m)))) := map_put hS.mp x.1 t _
      have hT2 := hT.other hk hkl hin hw (by omega)
      rw [emp, ht2] at hT2
      obtain ⟨q1, q2, q3⟩ := hne (.map (entsP (putP (x.1, t) (wayV (1, (0, 0), 0)) m)))
      (repeat (first | refine yw ?_ | ((first | apply yd | apply ye); simp (disch := first|exact zz|fail) only [go_sem, load_at hS.b8, n2_at c13, hput, ht2]; with_reducible rfl)))
      exact ⟨by omega, _, best, by simp [forget], hT2, hS.put o _, q1, q2⟩
    have hkl1 : k + 1 < M.length := by omega
    have hl6 := hl.ext hS.ext
    have hsh : ACall Go.Proofs.Tryz.prog 57 [evV L v, .int .i64 k, .agg ⟨[.int .i64 (mP M k), .int .i64 t]⟩, .map (some (a4 + 3))] G6 fun w H' => w = .tuple #[wayV (outK L M k t), .bool (decide (0 < (outK L M k t).1))] ∧ H' = G6 :=
      shortest_c (T := tabN L M (M.length - (k + 1))) hl6 hk hkl hin hS.mp (fun a b h1 h2 h3 => by rw [tabK_of h2 (by omega) (by omega)]; exact hT.1.get a b h2 (.inl h1) h3) (fun a b w hw => tab_few (by omega) hlen hw)
    have hmid := tabK_mid (L := L) hkl1 hin
    obtain ⟨out, ho⟩ : ∃ out, outK L M k t = out := ⟨_, rfl⟩
    rw [ho] at hsh hmid
    rw [emp] at hsh
    have hst14 := store_newW (H := G6) (w := out) (vs := [.int .i64 0, .int .i64 0, .int .i64 0, .int .i64 0]) rfl
    (repeat (first | refine yw ?_ | ((first | apply yd | apply ye); simp (disch := first|exact zz|fail) only [go_sem, load_ev hS.b4, n2_at c13, load_at hS.b8]; with_reducible rfl)))
    (refine aops_call_to (hsh) ?_)
    (repeat (first | refine yv ?_ | (apply yd; simp (disch := first|exact zz|fail) only [go_sem, hst14]; with_reducible rfl)))
    have hS7 := hS.app [AObj.cells true 0 (wayC out)]
    have hRb := at_app (N := [AObj.cells true 0 (wayC out)]) hRb
    have c11 := at_app (N := [AObj.cells true 0 (wayC out)]) c11
    have l13 : i13 < G6.length := (List.getElem?_eq_some_iff.1 c13).1
    have c13 := at_app (N := [AObj.cells true 0 (wayC out)]) c13
    have c14 : (G6 ++ [AObj.cells true 0 (wayC out)])[G6.length]? = some (.cells true 0 (wayC out)) := at_new
    obtain ⟨i14, h14⟩ : ∃ i14, G6.length = i14 := ⟨_, rfl⟩
    rw [h14] at c14 l13 ⊢
    clear hne hst14
    generalize (G6 ++ [AObj.cells true 0 (wayC out)] : AHeap) = G7 at hS7 hRb c11 c13 c14
    refine cond_p (p := 0 < out.1) rfl (fun h0 => ?_) (fun h0 => ?_)
    rotate_left 1
    · rw [if_neg h0] at hmid
      have hT2 := hT.skip hk hkl hmid
      rw [ht2] at hT2
      (repeat (first | refine yw ?_ | ((first | apply yd | apply ye); simp (disch := first|exact zz|fail) only [go_sem, ht2]; with_reducible rfl)))
      exact ⟨by omega, m, best, by simp [forget], hT2, hS7, hRb, c11⟩
    rw [if_pos h0] at hmid
    obtain ⟨m', hm'⟩ : ∃ m', putP (x.1, t) (wayV out) m = m' := ⟨_, rfl⟩
    have hput : mapPutR [(0, false), (1, false)] (.map (some (a4 + 3))) (.agg ⟨[.int .i64 x.1, .int .i64 t]⟩) (wayV out) G7 = some (undef, G7.set (a4 + 3) (.map (entsP m'))) := by rw [← hm']; exact map_put hS7.mp x.1 t _
    have hS8 := hS7.put o m'
    have hRb := (show (G7.set (a4 + 3) (.map (entsP m')))[G5.length]? = some Rb by rw [List.getElem?_set_ne (by omega)]; exact hRb)
    have c11 := (show (G7.set (a4 + 3) (.map (entsP m')))[i11]? = some (.cells true 0 (markC x)) by rw [List.getElem?_set_ne (by omega)]; exact c11)
    have d13 := (show (G7.set (a4 + 3) (.map (entsP m')))[i13]? = some (.cells true 0 [.int .i64 x.1, .int .i64 t]) by rw [List.getElem?_set_ne (by omega)]; exact c13)
    have d14 := (show (G7.set (a4 + 3) (.map (entsP m')))[i14]? = some (.cells true 0 (wayC out)) by rw [List.getElem?_set_ne (by omega)]; exact c14)
    (repeat (first | refine yv ?_ | (apply yd; simp (disch := first|exact zz|fail) only [go_sem, load_at hS7.b8, n2_at c13, load_way c14, hput]; with_reducible rfl)))
    generalize (G7.set (a4 + 3) (.map (entsP m')) : AHeap) = G8 at hS8 hRb c11 d13 d14
    obtain ⟨og, hog, hcase⟩ : ∃ og : Option Way, getP m' best = og.map wayV ∧ ((k ≠ 0 ∧ TabI L M k (t + 1) m' best) ∨ (k = 0 ∧ ((og = none ∧ TabI L M k (t + 1) m' (x.1, t)) ∨ ∃ u : Way, og = some u ∧ best.1 = x.1 ∧ (out.1 < u.1 → TabI L M k (t + 1) m' (x.1, t)) ∧ (¬ out.1 < u.1 → TabI L M k (t + 1) m' best)))) := by
      by_cases hk0 : k = 0
      · subst hk0
        obtain ⟨og, h1, h2⟩ := hT.first hk (by omega) hin hmid
        rw [emp, hm'] at h1 h2
        exact ⟨og, h1, .inr ⟨rfl, h2⟩⟩
      · have h2 := hT.other hk hkl hin hmid hk0
        rw [emp, hm'] at h2
        obtain ⟨og, h1⟩ := h2.1.any best
        exact ⟨og, h1, .inl ⟨hk0, h2⟩⟩
    have hst16 := store_newW (H := G8) (w := og.getD zeroW) (vs := [.int .i64 0, .int .i64 0, .int .i64 0, .int .i64 0]) rfl
    (repeat (first | refine yv ?_ | (apply yd; simp (disch := first|exact zz|fail) only [go_sem, load_at hS8.b8, n2_at hS8.b9, get_way hS8.mp hog, hst16]; with_reducible rfl)))
    have hS9 := hS8.app [AObj.cells true 0 (wayC (og.getD zeroW))]
    have hRb := at_app (N := [AObj.cells true 0 (wayC (og.getD zeroW))]) hRb
    have c11 := at_app (N := [AObj.cells true 0 (wayC (og.getD zeroW))]) c11
    have d13 := at_app (N := [AObj.cells true 0 (wayC (og.getD zeroW))]) d13
    have d14 := at_app (N := [AObj.cells true 0 (wayC (og.getD zeroW))]) d14
    have d16 : (G8 ++ [AObj.cells true 0 (wayC (og.getD zeroW))])[G8.length]? = some (.cells true 0 (wayC (og.getD zeroW))) := at_new
    obtain ⟨i16, h16⟩ : ∃ i16, G8.length = i16 := ⟨_, rfl⟩
    rw [h16] at d16 ⊢
    clear hst16 hput
    generalize (G8 ++ [AObj.cells true 0 (wayC (og.getD zeroW))] : AHeap) = G9 at hS9 hRb c11 d13 d14 d16
    have better : TabI L M k (t + 1) m' (x.1, t) → ∃ m best, ([junk, .pointer (some ⟨H.length, 0, none⟩)] : List Value) = [junk, .pointer (some ⟨H.length, 0, none⟩)] ∧ TabI L M k (x.2.1 + ((q + 1 : Nat) : Int)) m best ∧ FewSt H a4 (a4 + 2) (a4 + 3) (a4 + 4) (a4 + 5) (a4 + 6) L M v m best (G9.set (a4 + 5) (.cells true 0 [.int .i64 x.1, .int .i64 t])) ∧ (G9.set (a4 + 5) (.cells true 0 [.int .i64 x.1, .int .i64 t]))[G5.length]? = some Rb ∧ (G9.set (a4 + 5) (.cells true 0 [.int .i64 x.1, .int .i64 t]))[i11]? = some (.cells true 0 (markC x)) := fun hT2 =>
      ⟨m', (x.1, t), rfl, ht2 ▸ hT2, hS9.setBest o (x.1, t), by rw [List.getElem?_set_ne (by omega)]; exact hRb, by rw [List.getElem?_set_ne (by omega)]; exact c11⟩
    rcases hcase with ⟨hk0, hT2⟩ | ⟨hk0, ⟨rfl, hT2⟩ | ⟨u, rfl, hb1, hT2, hT3⟩⟩
    · (repeat (first | refine yw ?_ | ((first | apply yd | apply ye); simp (disch := first|exact zz|fail) only [go_sem, dec_f (show ¬ (k : Int) = 0 by omega)]; with_reducible rfl)))
      refine cond_f rfl ?_
      (repeat (first | refine yw ?_ | ((first | apply yd | apply ye); simp (disch := first|exact zz|fail) only [go_sem, ht2]; with_reducible rfl)))
      exact ⟨by omega, m', best, by simp [forget], ht2 ▸ hT2, hS9, hRb, c11⟩
    · obtain ⟨m2, best2, _, r1, r2, r3, r4⟩ := better hT2
      (repeat (first | refine yw ?_ | ((first | apply yd | apply ye); simp (disch := first|exact zz|fail) only [go_sem, dec_t (show (k : Int) = 0 by omega)]; with_reducible rfl)))
      refine cond_t rfl ?_
      (repeat (first | refine yw ?_ | ((first | apply yd | apply ye); simp (disch := first|exact zz|fail) only [go_sem, n2_at d13, store_b2 hS9.b9, ht2]; with_reducible rfl)))
      exact ⟨by omega, m2, best2, by simp [forget], r1, r2, r3, r4⟩
    · have d16' : G9[i16]? = some (.cells true 0 (wayC u)) := d16
      by_cases hwu : out.1 < u.1
      · obtain ⟨m2, best2, _, r1, r2, r3, r4⟩ := better (hT2 hwu)
        (repeat (first | refine yw ?_ | ((first | apply yd | apply ye); simp (disch := first|exact zz|fail) only [go_sem, dec_t (show (k : Int) = 0 by omega), load_at hS9.b9, load_at c11, markC, hb1, load_at d14, load_at d16', wayC, dec_t (show (out.1 : Int) < (u.1 : Int) by omega)]; with_reducible rfl)))
        refine cond_t rfl ?_
        (repeat (first | refine yw ?_ | ((first | apply yd | apply ye); simp (disch := first|exact zz|fail) only [go_sem, n2_at d13, store_b2 hS9.b9, ht2]; with_reducible rfl)))
        exact ⟨by omega, m2, best2, by simp [forget], r1, r2, r3, r4⟩
      · (repeat (first | refine yw ?_ | ((first | apply yd | apply ye); simp (disch := first|exact zz|fail) only [go_sem, dec_t (show (k : Int) = 0 by omega), load_at hS9.b9, load_at c11, markC, hb1, load_at d14, load_at d16', wayC, dec_f (show ¬ (out.1 : Int) < (u.1 : Int) by omega)]; with_reducible rfl)))
        refine cond_f rfl ?_
        (repeat (first | refine yw ?_ | ((first | apply yd | apply ye); simp (disch := first|exact zz|fail) only [go_sem, ht2]; with_reducible rfl)))
        exact ⟨by omega, m', best, by simp [forget], ht2 ▸ hT3 hwu, hS9, hRb, c11⟩
  · rintro H' ⟨i, m, best, h1, h2i, h3, h4⟩
    match i, h1 with
    | 0, _ =>
    obtain ⟨hM, hBs⟩ := h3.1 rfl
    clear h3 x5 c5 l5 hS5 n0 n1 n2 n3 b0 b1 b4 xB lB hlB
    have hl9 := hl.ext h4.ext
    rcases hBs with ⟨e1, e2⟩ | ⟨b, w, e1, e2, e3, e4, e5⟩
    · have hg0 : getP m best = (none : Option Way).map wayV := by
        rw [e1]
        cases hp : getP m (0, 0) with
        | none => rfl
        | some x =>
          obtain ⟨k', b, e3, hk', hc, hrb⟩ := hM.only (0, 0) (by rw [hp]; simp)
          have hb1 : (0 : Int) = mP M k' := (Prod.mk.inj e3).1
          have p0 := hk.pos 0 (by omega)
          rcases hc with hc | ⟨rfl, hc⟩
          · have := hk.lt hc hk'
            unfold mP at hb1; omega
          · have := hM.get 0 b (by omega) (.inr ⟨rfl, hc⟩) hrb
            rw [← e3, hp, e2 b hrb hc] at this; cases this
      have hst := store_newW (H := H') (w := zeroW) (vs := [.int .i64 0, .int .i64 0, .int .i64 0, .int .i64 0]) rfl
      have hg1 := get_way h4.mp hg0
      (repeat (first | refine yw ?_ | ((first | apply yd | apply ye); simp (disch := first|exact zz|fail) only [go_sem, load_at h4.b8, n2_at h4.b9, hg1, Option.getD_none, hst]; with_reducible rfl)))
      refine cond_t rfl ?_
      have k1 := at_app (N := [AObj.cells true 0 (wayC zeroW)]) h4.b2
      (repeat (first | refine yw ?_ | ((first | apply yd | apply ye); simp (disch := first|exact zz|fail) only [go_sem, fill_none, store_a1 (y := .slice none 0 0) k1 rfl]; with_reducible rfl)))
      exact fin_l2a rfl (get_set_self k1) ⟨(h4.ext.app _).set (by omega) _, _, [], _, rfl, pairs_nil _, .inr (.inl ⟨ee, rfl, rfl, none_chain (by omega) e2⟩)⟩
    have hw12 := ((tabK_spec (show 0 < M.length by omega)).1 w e4).1.few
    have hg0 : getP m best = (some w).map wayV := by rw [e1, hM.get 0 b (by omega) (.inr ⟨rfl, e3⟩) e2, e4]
    have hst := store_newW (H := H') (w := w) (vs := [.int .i64 0, .int .i64 0, .int .i64 0, .int .i64 0]) rfl
    have hg1 := get_way h4.mp hg0
    subst e1
    (repeat (first | refine yv ?_ | (apply yd; simp (disch := first|exact zz|fail) only [go_sem, load_at h4.b8, n2_at h4.b9, hg1, Option.getD_some, hst]; with_reducible rfl)))
    have hS := h4.app [AObj.cells true 0 (wayC w)]
    have c18 : (H' ++ [AObj.cells true 0 (wayC w)])[H'.length]? = some (.cells true 0 (wayC w)) := at_new
    have li : a4 + 7 ≤ H'.length := (List.getElem?_eq_some_iff.1 h4.bb).1
    obtain ⟨i18, h18⟩ : ∃ i18, H'.length = i18 := ⟨_, rfl⟩
    have lF : (H' ++ [AObj.cells true 0 (wayC w)]).length = i18 + 1 := by simp [h18]
    rw [h18] at c18 li ⊢
    clear h4 hst hg1
    generalize (H' ++ [AObj.cells true 0 (wayC w)] : AHeap) = F at hS c18 lF
    have hl10 := hl.ext hS.ext
    have hm0 := (hl10.load (Ext.refl F) (i := 0) (by omega)).2.2.2.2.2.2.2.1
    have hf0 := (hl10.load (Ext.refl F) (i := 0) (by omega)).2.2.1
    have hix := hl10.idx (H' := F) (i := 0) (k := .i64) (by omega) (by omega)
    rw [show ((0 : Int).toNat * 3) = 0 * 3 from rfl] at hix
    (repeat (first | refine yw ?_ | ((first | apply yd | apply ye); simp (disch := first|exact zz|fail) only [go_sem, load_at hS.b9, load_at hS.b1, evC, hix, hf0, hm0]; with_reducible rfl)))
    refine cond_f rfl ?_
    have hsl : ∀ J : AHeap, storeR 1 (.pointer (some ⟨J.length, 0, none⟩)) (.agg ⟨[.slice (some ⟨i18 + 1, 0, none⟩) 1 1]⟩) (J ++ [.cells true 0 [.slice none 0 0]]) = some (undef, J ++ [.cells true 0 [.slice (some ⟨i18 + 1, 0, none⟩) 1 1]]) := fun J => store_newA rfl
    (repeat (first | refine yv ?_ | (apply yd; simp (disch := first|exact zz|fail) only [go_sem, n2_at hS.b9, fill_pair, fillA_slice, lF, hsl]; with_reducible rfl)))
    obtain ⟨F2, hF2⟩ : ∃ F2, F2 = F ++ [AObj.cells true 2 [.int .i64 (mP M 0), .int .i64 b]] ++ [AObj.cells true 0 [.slice (some ⟨i18 + 1, 0, none⟩) 1 1]] := ⟨_, rfl⟩
    have hS2 : FewSt H a4 (a4 + 2) (a4 + 3) (a4 + 4) (a4 + 5) (a4 + 6) L M v m (mP M 0, b) F2 := by rw [hF2]; exact (hS.app _).app _
    have c18 : F2[i18]? = some (.cells true 0 (wayC w)) := by rw [hF2]; exact at_app (at_app c18)
    have c19 : F2[i18 + 1]? = some (.cells true 2 [.int .i64 (mP M 0), .int .i64 b]) := by rw [hF2, ← lF]; exact at_app at_new
    have c20 : F2[i18 + 2]? = some (.cells true 0 [.slice (some ⟨i18 + 1, 0, none⟩) 1 1]) := by rw [hF2, show i18 + 2 = F.length + 1 by omega]; simp
    have hown : OwnP F F2 [(mP M 0, b)] (.slice (some ⟨i18 + 1, 0, none⟩) 1 1) := ⟨rfl, .inr ⟨i18 + 1, rfl, by omega, Nat.one_pos, c19⟩⟩
    try (simp only [List.length_append, List.length_cons, List.length_nil, Nat.zero_add, Nat.add_assoc, Nat.reduceAdd])
    try simp only [lF, Nat.add_assoc, Nat.reduceAdd]
    rw [← hF2]
    clear hF2 c19 hsl
    refine awp_loop_n [false, true, true, false, false, false, false, false, true, false, false, false, false, false, false, false, false, false, true, false, true, false, false, false, false, false, false, false, false, false, false, false, false, false, false, false, false, false, false, false, false, false, false, false, false, false, false, false, false, false, false, false, false, false, false, false, false, false, false, false, false, false, false, false, false, false, false, false, false, false, false, false, false, false, false, false, false, false, false, false, false, false, false, false, false, false, false, false, false, false, false, false, false, false, false, false, false, false, false, false, false, false, false, false, false, false, false, false, false, false, false, false, false, false, false, false, false, false, false, false, false, false, false, false, false, false, false, false, false, false, false, false, false, false, false, false, false, false, false, false, false, false, false, false, false, false, false, false, false, false, false, false] (w.1 - 1) (fun j e J => ∃ k c u pre sv, e = [junk, .pointer (some ⟨H.length, 0, none⟩), .pointer (some ⟨H.length + 1, 0, none⟩), junk, junk, junk, junk, junk, .pointer (some ⟨a4 + 4, 0, none⟩), junk, junk, junk, junk, junk, junk, junk, junk, junk, .pointer (some ⟨i18, 0, none⟩), junk, .pointer (some ⟨i18 + 2, 0, none⟩), junk, junk, junk, junk, junk, junk, junk, junk, junk, junk, junk, junk, junk, junk, junk, junk, junk, junk, junk, junk, junk, junk, junk, junk, junk, junk, junk, junk, junk, junk, junk, junk, junk, junk, junk, junk, junk, junk, junk, junk, junk, junk, junk, junk, junk, junk, junk, junk, junk, junk, junk, junk, junk, junk, junk, junk, junk, junk, junk, junk, junk, junk, junk, junk, junk, junk, junk, junk, junk, junk, junk, junk, junk, junk, junk, junk, junk, junk, junk, junk, junk, junk, junk, junk, junk, junk, junk, junk, junk, junk, junk, junk, junk, junk, junk, junk, junk, junk, junk, junk, junk, junk, junk, junk, junk, junk, junk, junk, junk, junk, junk, junk, junk, junk, junk, junk, junk, junk, junk, junk, junk, junk, junk, junk, junk, junk, junk, junk, junk, junk, junk] ∧
      k < M.length ∧ tabK L M k c = some u ∧ u.1 + j = w.1 ∧ pre.length = j ∧ (∀ l, ChainL L M k c l → ChainL L M 0 b (pre ++ l)) ∧ FewSt H a4 (a4 + 2) (a4 + 3) (a4 + 4) (a4 + 5) (a4 + 6) L M v m (mP M 0, b) J ∧ J[i18]? = some (.cells true 0 (wayC u)) ∧ J[i18 + 2]? = some (.cells true 0 [sv]) ∧ OwnP F J (pre ++ [(mP M k, c)]) sv ∧ idOf sv ≠ i18 + 2 ∧ i18 + 2 < J.length) ?_ ?_
    · exact ⟨0, b, w, [], _, by simp [forget], by omega, e4, rfl, rfl, fun l h => h, hS2, c18, c20, hown, by show i18 + 1 ≠ i18 + 2; omega, (List.getElem?_eq_some_iff.1 c20).1⟩
    clear hS2 c18 c20 hown
    rintro j e J hj ⟨k, c, u, pre, sv, rfl, hkl, hu, huj, hpl, hch, hS3, c18, c20, hown, hid, hlJ⟩
    have hu0 := ((tabK_spec hkl).1 u hu).1.lt.2
    have hpl2 : (pre ++ [(mP M k, c)]).length = j + 1 := by simp [hpl]
    (repeat (first | refine yw ?_ | ((first | apply yd | apply ye); simp (disch := first|exact zz|fail) only [go_sem, load_at c18, wayC]; with_reducible rfl)))
    refine cond_p (p := (1 : Int) < (u.1 : Int)) rfl (fun hlt => ?_) (fun hge => ?_)
    rotate_left 1
    · obtain ⟨hk1, hin⟩ := tab_one hkl hu (by omega)
      have hfin := hch _ (ChainL.last hk1 hin)
      have k1 := hS3.b2
      have hsv : isAtom sv = true := hown.pairs.atom
      (repeat (first | refine yw ?_ | ((first | apply yd | apply ye); simp (disch := first|exact zz|fail) only [go_sem, n1_at c20, store_a1 (y := sv) k1 hsv]; with_reducible rfl)))
      refine fin_l2a rfl (get_set_self k1) ⟨hS3.ext.set (by omega) _, sv, pre ++ [(mP M k, c)], 0, rfl, (hown.set_ne (hown.aside (by omega)) _).pairs, .inr (.inr ⟨ee, rfl, b, hfin, fun s' n hc => ?_⟩)⟩
      have := first_min (by omega) e5 s' n hc
      omega
    obtain ⟨a, d, w', n1, n2, n3, n4, n5, n6, n7⟩ := tab_next hkl hu (by omega)
    have en1 : u.2.1.1 = mP M a := by rw [n5]
    have en2 : u.2.1.2 = d := by rw [n5]
    have hgw : getP m (mP M a, d) = (some w').map wayV := by
      rw [hM.get a d n2 ?_ n3, n6]
      by_cases ha : a = 0
      · omega
      · exact .inl (by omega)
    have hpush := hown.push (by rw [hpl2]; omega) (mP M a) d
    have hlF : F.length ≤ J.length := by omega
    have own2 := hown.pushedL hlF (mP M a, d)
    have hasd : ∀ i, i < i18 + 1 → sv = .slice none 0 0 ∨ idOf sv ≠ i := fun i hi => hown.aside (by omega)
    have p20 := pushP_at (l := pre ++ [(mP M k, c)]) (x := (mP M a, d)) c20 (.inr hid)
    have p18 := pushP_at (l := pre ++ [(mP M k, c)]) (x := (mP M a, d)) c18 (hasd _ (by omega))
    have hst20 := store_b1 (y := pushV J (pre ++ [(mP M k, c)]).length) p20 rfl rfl
    rw [hpl2] at hpush own2 hst20
    have hS4 := (hS3.push o hown (by omega) (mP M a, d)).set o (j := i18 + 2) (by omega) (.cells true 0 [pushV J (j + 1)])
    have q18 := (show ((pushPH J sv (pre ++ [(mP M k, c)]) (mP M a, d)).set (i18 + 2) (.cells true 0 [pushV J (j + 1)]))[i18]? = some (.cells true 0 (wayC u)) by rw [List.getElem?_set_ne (by omega)]; exact p18)
    have q20 := (show ((pushPH J sv (pre ++ [(mP M k, c)]) (mP M a, d)).set (i18 + 2) (.cells true 0 [pushV J (j + 1)]))[i18 + 2]? = some (.cells true 0 [pushV J (j + 1)]) from get_set_self p20)
    have own3 := own2.set_ne (j := i18 + 2) (.inr (by show J.length + 1 ≠ i18 + 2; omega)) (.cells true 0 [pushV J (j + 1)])
    have l4' : ((pushPH J sv (pre ++ [(mP M k, c)]) (mP M a, d)).set (i18 + 2) (.cells true 0 [pushV J (j + 1)])).length = J.length + 2 := by rw [List.length_set, pushP_len]
    (repeat (first | refine yv ?_ | (apply yd; simp (disch := first|exact zz|fail) only [go_sem, load1 c20, load_way2 c18, en1, en2, fill_pair, hpush, hst20]; with_reducible rfl)))
    generalize ((pushPH J sv (pre ++ [(mP M k, c)]) (mP M a, d)).set (i18 + 2) (.cells true 0 [pushV J (j + 1)]) : AHeap) = J2 at hS4 q18 q20 own3 l4'
    have hst18 := store_atW (w := w') q18
    (repeat (first | refine yw ?_ | ((first | apply yd | apply ye); simp (disch := first|exact zz|fail) only [go_sem, load_at hS4.b8, load_way2 q18, en1, en2, get_way1 hS4.mp hgw, Option.getD_some, hst18]; with_reducible rfl)))
    refine ⟨by omega, a, d, w', pre ++ [(mP M k, c)], pushV J (j + 1), by simp [forget], n2, n6, by omega, hpl2, fun l hl => ?_, hS4.set o (by omega) _, get_set_self q18, ?_, own3.set_ne (.inr ?_) _, ?_, ?_⟩
    · rw [List.append_assoc]
      exact hch _ (ChainL.step ((tabK_spec hkl).1 u hu).1.inR n1 n4 hl)
    · rw [List.getElem?_set_ne (by omega)]; exact q20
    · show J.length + 1 ≠ i18; omega
    · show J.length + 1 ≠ i18 + 2; omega
    · rw [List.length_set]; omega
  · rintro x H' hx h
    exact h.elim
end
end Go.Lq

namespace Go.Lq
open Go
open Go.Proofs

def mapX : List (Int × Int) := [(0, 0), (10, 100), (20, 220)]
def evX : List Mark := [(0, 0, 0), (10, 90, 130), (20, 150, 210)]
def bentX : List Mark := [(0, 0, 0), (10, 90, 92), (20, 200, 204)]
theorem posX : posAtL mapX 105 = ((666, 667), 0) := by decide +kernel
theorem encX : encAtL (8, 12) evX 10 = ((90, 120), 0) := by decide +kernel
theorem wowX : wowL mapX = ((10, 1), 1, 0) := by decide +kernel
theorem fewX : fewErr (8, 12) bentX = 0 := by decide +kernel
theorem bentChain : Chain (8, 12) bentX 0 0 3 :=
  .step ⟨by decide, by decide⟩ (k := 1) (t := 90) (by decide) ⟨by decide, fun j a b => by omega⟩
    (.step ⟨by decide, by decide⟩ (k := 2) (t := 204) (by decide) ⟨by decide, fun j a b => by omega⟩ (.last rfl ⟨by decide, by decide⟩))
theorem bentRes {l : List (Int × Int)} {e : Int} (h : FewRes (8, 12) bentX l e) : e = 0 ∧ l.length = 3 := by
  rcases h with ⟨h, _⟩ | ⟨_, _, _, h⟩ | ⟨_, h, s, hc, hm⟩
  · exact absurd fewX h
  · exact absurd bentChain (h 0 3)
  · refine ⟨h, ?_⟩
    have h3 := hm 0 3 bentChain
    cases hc with
    | last hi _ => cases hi
    | @step _ k _ t l hr hik hj hc =>
      cases hc with
      | last hi hr2 =>
        have hi : k + 1 = 3 := hi
        obtain rfl : k = 2 := by omega
        have hm1 : meetsB ((0, s), (20, t)) (10, 90, 92) = true := hj.meets 1 (by decide) (by decide)
        have hm2 : (90 : Int) * (20 - 0) ≤ s * (20 - 0) + (t - s) * (10 - 0) ∧ s * (20 - 0) + (t - s) * (10 - 0) ≤ 92 * (20 - 0) := of_decide_eq_true hm1
        have r1 : (0 : Int) ≤ s ∧ s ≤ 0 := hr
        have r2 : (200 : Int) ≤ t ∧ t ≤ 204 := hr2
        omega
      | step hr2 hik2 hj2 hc2 =>
        have := hc2.chain.lt.2
        simp only [List.length_cons] at h3 ⊢
        omega
theorem fbt : (false != true) = true := rfl
section
variable {H : AHeap}
theorem map0_c : ACall Go.Proofs.Tryz.prog 20 [] H fun w H' => ∃ s, w = .agg ⟨[s]⟩ ∧ Pairs H' mapX s ∧ Ext H H' := by
  (refine a20 ?_; simp only [n20, List.replicate, yq, yr, yt, yu]; first | refine q1 ?_ | refine q2 ?_ | refine q6 ?_ | refine q7 ?_ | refine qh rfl ?_ | skip)
  have g0 : (H ++ [AObj.cells true 0 [.slice none 0 0]])[H.length]? = some (.cells true 0 [.slice none 0 0]) := at_new
  have xG : Ext H (H ++ [AObj.cells true 0 [.slice none 0 0]]) := (Ext.refl H).app _
  (refine yh ?_)
  generalize (H ++ [AObj.cells true 0 [.slice none 0 0]] : AHeap) = G at g0 xG
  have hf : fillA [.int .i64 0, .int .i64 0, .int .i64 0, .int .i64 0, .int .i64 0, .int .i64 0] [(0, 2, .agg ⟨[.int .i64 0, .int .i64 0]⟩), (2, 2, .agg ⟨[.int .i64 10, .int .i64 100]⟩), (4, 2, .agg ⟨[.int .i64 20, .int .i64 220]⟩)] = some (flatP mapX) := rfl
  have hm : mkSliceL 2 3 (some (flatP mapX)) G = some (.slice (some ⟨G.length, 0, none⟩) 3 3, G ++ [.cells true 2 (flatP mapX)]) := mkSliceL_some rfl
  have k0 := at_app (N := [AObj.cells true 2 (flatP mapX)]) g0
  have hP : Pairs (G ++ [AObj.cells true 2 (flatP mapX)]) mapX (.slice (some ⟨G.length, 0, none⟩) 3 3) := Pairs.last (l := mapX) 3
  have hst := store_a1 (y := .slice (some ⟨G.length, 0, none⟩) 3 3) k0 rfl
  (repeat (first | refine yw ?_ | ((first | apply yd | apply ye); simp (disch := first|exact zz|fail) only [go_sem, fill_none, fill2i, hf, hm, fillA_slice, hst]; with_reducible rfl)))
  refine fin_l1 (u := .agg ⟨[.slice (some ⟨G.length, 0, none⟩) 3 3]⟩) (n1_at (get_set_self k0)) ⟨_, rfl, ?_, (xG.app _).set (Nat.le_refl _) _⟩
  have hl := (List.getElem?_eq_some_iff.1 g0).1
  exact Sl.of (e := 2) (o := true) (by rw [List.getElem?_set_ne (by omega)]; exact at_new) rfl
theorem ev0_c : ACall Go.Proofs.Tryz.prog 22 [] H fun w H' => ∃ s, w = evV (8, 12) s ∧ Tris H' evX s ∧ Ext H H' := by
  (refine a22 ?_; simp only [n22, List.replicate, yq, yr, yt, yu]; first | refine q1 ?_ | refine q2 ?_ | refine q6 ?_ | refine q7 ?_ | refine qh rfl ?_ | skip)
  have g0 : (H ++ [AObj.cells true 0 [.int .i64 0, .int .i64 0, .slice none 0 0]])[H.length]? = some (.cells true 0 [.int .i64 0, .int .i64 0, .slice none 0 0]) := at_new
  have xG : Ext H (H ++ [AObj.cells true 0 [.int .i64 0, .int .i64 0, .slice none 0 0]]) := (Ext.refl H).app _
  (refine yh ?_)
  generalize (H ++ [AObj.cells true 0 [.int .i64 0, .int .i64 0, .slice none 0 0]] : AHeap) = G at g0 xG
  have hf1 : ∀ a b c : Int, fillA [.int .i64 0, .int .i64 0, .int .i64 0] [(0, 1, .int .i64 a), (1, 2, .agg ⟨[.int .i64 b, .int .i64 c]⟩)] = some [.int .i64 a, .int .i64 b, .int .i64 c] := fun _ _ _ => rfl
  have hf : fillA [.int .i64 0, .int .i64 0, .int .i64 0, .int .i64 0, .int .i64 0, .int .i64 0, .int .i64 0, .int .i64 0, .int .i64 0] [(0, 3, .agg ⟨[.int .i64 0, .int .i64 0, .int .i64 0]⟩), (3, 3, .agg ⟨[.int .i64 10, .int .i64 90, .int .i64 130]⟩), (6, 3, .agg ⟨[.int .i64 20, .int .i64 150, .int .i64 210]⟩)] = some (flat3 evX) := rfl
  have hm : mkSliceL 3 3 (some (flat3 evX)) G = some (.slice (some ⟨G.length, 0, none⟩) 3 3, G ++ [.cells true 3 (flat3 evX)]) := mkSliceL_some rfl
  have hf2 : fillA [.int .i64 0, .int .i64 0, .slice none 0 0] [(0, 2, .agg ⟨[.int .i64 8, .int .i64 12]⟩), (2, 1, .slice (some ⟨G.length, 0, none⟩) 3 3)] = some (evC (8, 12) (.slice (some ⟨G.length, 0, none⟩) 3 3)) := rfl
  have k0 := at_app (N := [AObj.cells true 3 (flat3 evX)]) g0
  have hst := store_all (n := 3) (us := evC (8, 12) (.slice (some ⟨G.length, 0, none⟩) 3 3)) k0 rfl rfl rfl
  (repeat (first | refine yw ?_ | ((first | apply yd | apply ye); simp (disch := first|exact zz|fail) only [go_sem, fill_none, fill2i, hf1, hf, hm, hf2, hst]; with_reducible rfl)))
  refine fin_l1 (u := evV (8, 12) (.slice (some ⟨G.length, 0, none⟩) 3 3)) (load_ev (get_set_self k0)) ⟨_, rfl, ?_, (xG.app _).set (Nat.le_refl _) _⟩
  have hl := (List.getElem?_eq_some_iff.1 g0).1
  exact Sl.of (e := 3) (o := true) (by rw [List.getElem?_set_ne (by omega)]; exact at_new) rfl
theorem bent_c : ACall Go.Proofs.Tryz.prog 24 [] H fun w H' => ∃ s, w = evV (8, 12) s ∧ Tris H' bentX s ∧ Ext H H' := by
  (refine a24 ?_; simp only [n24, List.replicate, yq, yr, yt, yu]; first | refine q1 ?_ | refine q2 ?_ | refine q6 ?_ | refine q7 ?_ | refine qh rfl ?_ | skip)
  have g0 : (H ++ [AObj.cells true 0 [.int .i64 0, .int .i64 0, .slice none 0 0]])[H.length]? = some (.cells true 0 [.int .i64 0, .int .i64 0, .slice none 0 0]) := at_new
  have xG : Ext H (H ++ [AObj.cells true 0 [.int .i64 0, .int .i64 0, .slice none 0 0]]) := (Ext.refl H).app _
  (refine yh ?_)
  generalize (H ++ [AObj.cells true 0 [.int .i64 0, .int .i64 0, .slice none 0 0]] : AHeap) = G at g0 xG
  have hf1 : ∀ a b c : Int, fillA [.int .i64 0, .int .i64 0, .int .i64 0] [(0, 1, .int .i64 a), (1, 2, .agg ⟨[.int .i64 b, .int .i64 c]⟩)] = some [.int .i64 a, .int .i64 b, .int .i64 c] := fun _ _ _ => rfl
  have hf : fillA [.int .i64 0, .int .i64 0, .int .i64 0, .int .i64 0, .int .i64 0, .int .i64 0, .int .i64 0, .int .i64 0, .int .i64 0] [(0, 3, .agg ⟨[.int .i64 0, .int .i64 0, .int .i64 0]⟩), (3, 3, .agg ⟨[.int .i64 10, .int .i64 90, .int .i64 92]⟩), (6, 3, .agg ⟨[.int .i64 20, .int .i64 200, .int .i64 204]⟩)] = some (flat3 bentX) := rfl
  have hm : mkSliceL 3 3 (some (flat3 bentX)) G = some (.slice (some ⟨G.length, 0, none⟩) 3 3, G ++ [.cells true 3 (flat3 bentX)]) := mkSliceL_some rfl
  have hf2 : fillA [.int .i64 0, .int .i64 0, .slice none 0 0] [(0, 2, .agg ⟨[.int .i64 8, .int .i64 12]⟩), (2, 1, .slice (some ⟨G.length, 0, none⟩) 3 3)] = some (evC (8, 12) (.slice (some ⟨G.length, 0, none⟩) 3 3)) := rfl
  have k0 := at_app (N := [AObj.cells true 3 (flat3 bentX)]) g0
  have hst := store_all (n := 3) (us := evC (8, 12) (.slice (some ⟨G.length, 0, none⟩) 3 3)) k0 rfl rfl rfl
  (repeat (first | refine yw ?_ | ((first | apply yd | apply ye); simp (disch := first|exact zz|fail) only [go_sem, fill_none, fill2i, hf1, hf, hm, hf2, hst]; with_reducible rfl)))
  refine fin_l1 (u := evV (8, 12) (.slice (some ⟨G.length, 0, none⟩) 3 3)) (load_ev (get_set_self k0)) ⟨_, rfl, ?_, (xG.app _).set (Nat.le_refl _) _⟩
  have hl := (List.getElem?_eq_some_iff.1 g0).1
  exact Sl.of (e := 3) (o := true) (by rw [List.getElem?_set_ne (by omega)]; exact at_new) rfl
set_option maxHeartbeats 4000000 in
theorem awake_c : ACall Go.Proofs.Tryz.prog 5 [] H fun w H' => w = .bool true ∧ H' = H := by
  refine ACall.drop (.bool _) ?_
  (refine a5 ?_; simp only [n5, List.replicate, yq, yr, yt, yu]; first | refine q1 ?_ | refine q2 ?_ | refine q6 ?_ | refine q7 ?_ | refine qh rfl ?_ | skip)
  (refine yg ?_)
  refine aops_call (map0_c.mono fun w G1 ⟨s1, hw, hP, x1⟩ => ?_)
  subst hw
  (refine yg ?_)
  (refine aops_call_to (positionAt_c hP (by decide)) ?_)
  rw [posX]
  (repeat (first | refine yw ?_ | ((first | apply yd | apply ye); simp (disch := first|exact zz|fail) only [go_sem, store_newF]; with_reducible rfl)))
  have c1 : (G1 ++ [AObj.cells true 0 [.int .i64 666, .int .i64 667]])[G1.length]? = some (.cells true 0 [.int .i64 666, .int .i64 667]) := at_new
  have xH1 := x1.app [AObj.cells true 0 [.int .i64 666, .int .i64 667]]
  obtain ⟨i1, h1⟩ : ∃ i1, G1.length = i1 := ⟨_, rfl⟩
  rw [h1] at c1 ⊢
  generalize (G1 ++ [AObj.cells true 0 [.int .i64 666, .int .i64 667]] : AHeap) = G2 at c1 xH1
  refine aops_call (ev0_c.mono fun w G3 ⟨s3, hw, hE, x3⟩ => ?_)
  subst hw
  have c1 := x3.cell c1
  have xH3 := xH1.trans x3
  (refine yg ?_)
  (refine aops_call_to (encAt_c hE (by decide)) ?_)
  rw [encX]
  (repeat (first | refine yw ?_ | ((first | apply yd | apply ye); simp (disch := first|exact zz|fail) only [go_sem, store_newF]; with_reducible rfl)))
  have c3 : (G3 ++ [AObj.cells true 0 [.int .i64 90, .int .i64 120]])[G3.length]? = some (.cells true 0 [.int .i64 90, .int .i64 120]) := at_new
  have c1 := at_app (N := [AObj.cells true 0 [.int .i64 90, .int .i64 120]]) c1
  have xH4 := xH3.app [AObj.cells true 0 [.int .i64 90, .int .i64 120]]
  obtain ⟨i3, h3⟩ : ∃ i3, G3.length = i3 := ⟨_, rfl⟩
  rw [h3] at c3 ⊢
  generalize (G3 ++ [AObj.cells true 0 [.int .i64 90, .int .i64 120]] : AHeap) = G4 at c1 c3 xH4
  refine aops_call (bent_c.mono fun w G5 ⟨s5, hw, hB, x5⟩ => ?_)
  subst hw
  have c1 := x5.cell c1
  have c3 := x5.cell c3
  have xH5 := xH4.trans x5
  (refine yg ?_)
  refine aops_call ((fewest_c hB (by decide)).mono fun w G6 ⟨x6, s6, l, e, hw, hL, hF⟩ => ?_)
  subst hw
  obtain ⟨rfl, hl3⟩ := bentRes hF
  have c1 := x6.cell c1
  have c3 := x6.cell c3
  have xH6 := xH5.trans x6
  have hst : storeR 1 (.pointer (some ⟨G6.length, 0, none⟩)) (.agg ⟨[s6]⟩) (G6 ++ [.cells true 0 [.slice none 0 0]]) = some (undef, G6 ++ [.cells true 0 [s6]]) := store_newA hL.atom
  (repeat (first | refine yw ?_ | ((first | apply yd | apply ye); simp (disch := first|exact zz|fail) only [go_sem, hst]; with_reducible rfl)))
  have c5 : (G6 ++ [AObj.cells true 0 [s6]])[G6.length]? = some (.cells true 0 [s6]) := at_new
  have hL := hL.ext ((Ext.refl G6).app [AObj.cells true 0 [s6]])
  have c1 := at_app (N := [AObj.cells true 0 [s6]]) c1
  have c3 := at_app (N := [AObj.cells true 0 [s6]]) c3
  have xH7 := xH6.app [AObj.cells true 0 [s6]]
  obtain ⟨i5, h5⟩ : ∃ i5, G6.length = i5 := ⟨_, rfl⟩
  rw [h5] at c5 ⊢
  clear hst
  generalize (G6 ++ [AObj.cells true 0 [s6]] : AHeap) = G7 at c1 c3 c5 xH7 hL
  refine aops_call (map0_c.mono fun w G8 ⟨s8, hw, hP8, x8⟩ => ?_)
  subst hw
  have c1 := x8.cell c1
  have c3 := x8.cell c3
  have c5 := x8.cell c5
  have hL := hL.ext x8
  have xH8 := xH7.trans x8
  (refine yg ?_)
  (refine aops_call_to (wowOf_c hP8 (by decide)) ?_)
  rw [wowX]
  (repeat (first | refine yw ?_ | ((first | apply yd | apply ye); simp (disch := first|exact zz|fail) only [go_sem, store_newF]; with_reducible rfl)))
  have c7 : (G8 ++ [AObj.cells true 0 [.int .i64 10, .int .i64 1]])[G8.length]? = some (.cells true 0 [.int .i64 10, .int .i64 1]) := at_new
  have c1 := at_app (N := [AObj.cells true 0 [.int .i64 10, .int .i64 1]]) c1
  have c3 := at_app (N := [AObj.cells true 0 [.int .i64 10, .int .i64 1]]) c3
  have c5 := at_app (N := [AObj.cells true 0 [.int .i64 10, .int .i64 1]]) c5
  have hL := hL.ext ((Ext.refl G8).app [AObj.cells true 0 [.int .i64 10, .int .i64 1]])
  have xH9 := xH8.app [AObj.cells true 0 [.int .i64 10, .int .i64 1]]
  obtain ⟨i7, h7⟩ : ∃ i7, G8.length = i7 := ⟨_, rfl⟩
  rw [h7] at c7 ⊢
  generalize (G8 ++ [AObj.cells true 0 [.int .i64 10, .int .i64 1]] : AHeap) = G9 at c1 c3 c5 c7 xH9 hL
  have d3 : decide (((l.length : Nat) : Int) = 3) = true := dec_t (by omega)
  (repeat (first | refine yw ?_ | ((first | apply yd | apply ye); simp (disch := first|exact zz|fail) only [go_sem, hL.len, hL.idx, hL.load, n2_at c1, n2_at c3, load_at c5, n2_at c7, fill2i, d3, fbt]; with_reducible rfl)))
  (refine adraw_call (N := []) (firstD (whole_c 10)) ?_; rw [List.append_nil])
  (repeat (first | refine yw ?_ | ((first | apply yd | apply ye); simp (disch := first|exact zz|fail) only [go_sem, fracV, fbt]; with_reducible rfl)))
  exact fin_1 ⟨rfl, xH9⟩
end
end Go.Lq

namespace Go.Lq
open Go
open Go.Proofs

theorem Tris.mark {H H' : AHeap} {M : List Mark} {v : Value} (h : Tris H M v) (hx : Ext H H') {i : Nat} (hi : i < M.length) : loadNR 3 (addrOf v (i * 3)) H' = some (markV (M.getD i (0, 0, 0)), H') := (h.load hx hi).1
section
variable {H : AHeap} {L : Int × Int} {M : List Mark} {v : Value}
theorem rMarkErr_c (x : Mark) : ACall Go.Proofs.Tryz.prog 18 [markV x] H fun v H' => v = .int .i64 (markE x) ∧ H' = H := by
  refine ACall.drop (.int _ _) ?_
  (refine a18 ?_; simp only [n18, List.replicate, yq, yr, yt, yu]; first | refine q1 ?_ | refine q2 ?_ | refine q6 ?_ | refine q7 ?_ | refine qh rfl ?_ | skip)
  have g0 : (H ++ [AObj.cells true 0 (markC x)])[H.length]? = some (.cells true 0 (markC x)) := at_new
  have xG : Ext H (H ++ [AObj.cells true 0 (markC x)]) := (Ext.refl H).app _
  (repeat (first | refine yv ?_ | (apply yd; simp (disch := first|exact zz|fail) only [go_sem, box_mark]; with_reducible rfl)))
  generalize (H ++ [AObj.cells true 0 (markC x)] : AHeap) = G at g0 xG
  have bad : ¬ ((0 ≤ x.1 ∧ x.1 ≤ 1000000) ∧ (0 ≤ x.2.1 ∧ x.2.1 ≤ 1000000000000) ∧ (0 ≤ x.2.2 ∧ x.2.2 ≤ 1000000000000)) → markE x = 2 := fun h => by
    unfold markE; rw [if_neg h, firstErr_e (by decide)]
  (repeat (first | refine yw ?_ | ((first | apply yd | apply ye); simp (disch := first|exact zz|fail) only [go_sem, load_at g0, markC]; with_reducible rfl)))
  (refine aops_call_to (rIsPosition_c _) ?_)
  by_cases h1 : 0 ≤ x.1 ∧ x.1 ≤ 1000000
  rotate_left 1
  · rw [bad (fun h => h1 h.1)]
    (repeat (first | refine yw ?_ | ((first | apply yd | apply ye); simp (disch := first|exact zz|fail) only [go_sem, dec_f h1]; with_reducible rfl)))
    refine cond_t rfl ?_
    (refine yg ?_)
    exact fin_1 ⟨rfl, xG⟩
  (repeat (first | refine yw ?_ | ((first | apply yd | apply ye); simp (disch := first|exact zz|fail) only [go_sem, dec_t h1, load_at g0, markC]; with_reducible rfl)))
  (refine aops_call_to (rIsTick_c _) ?_)
  by_cases h2 : 0 ≤ x.2.1 ∧ x.2.1 ≤ 1000000000000
  rotate_left 1
  · rw [bad (fun h => h2 h.2.1)]
    (repeat (first | refine yw ?_ | ((first | apply yd | apply ye); simp (disch := first|exact zz|fail) only [go_sem, dec_f h2]; with_reducible rfl)))
    refine cond_t rfl ?_
    (refine yg ?_)
    exact fin_1 ⟨rfl, xG⟩
  (repeat (first | refine yw ?_ | ((first | apply yd | apply ye); simp (disch := first|exact zz|fail) only [go_sem, dec_t h2, load_at g0, markC]; with_reducible rfl)))
  (refine aops_call_to (rIsTick_c _) ?_)
  by_cases h3 : 0 ≤ x.2.2 ∧ x.2.2 ≤ 1000000000000
  rotate_left 1
  · rw [bad (fun h => h3 h.2.2)]
    (repeat (first | refine yw ?_ | ((first | apply yd | apply ye); simp (disch := first|exact zz|fail) only [go_sem, dec_f h3]; with_reducible rfl)))
    refine cond_t rfl ?_
    (refine yg ?_)
    exact fin_1 ⟨rfl, xG⟩
  have em : markE x = if x.2.1 ≤ x.2.2 then 0 else 9 := by
    unfold markE
    rw [if_pos ⟨h1, h2, h3⟩, firstErr_z]
    by_cases h : x.2.1 ≤ x.2.2
    · rw [if_pos h]; rfl
    · rw [if_neg h]; rfl
  rw [em]
  (repeat (first | refine yw ?_ | ((first | apply yd | apply ye); simp (disch := first|exact zz|fail) only [go_sem, dec_t h3]; with_reducible rfl)))
  refine cond_f rfl ?_
  by_cases h4 : x.2.1 ≤ x.2.2
  · (repeat (first | refine yw ?_ | ((first | apply yd | apply ye); simp (disch := first|exact zz|fail) only [go_sem, load_at g0, markC, dec_f (show ¬ x.2.2 < x.2.1 by omega)]; with_reducible rfl)))
    refine cond_f rfl ?_
    (refine yg ?_)
    exact fin_1 ⟨by rw [if_pos h4]; rfl, xG⟩
  · (repeat (first | refine yw ?_ | ((first | apply yd | apply ye); simp (disch := first|exact zz|fail) only [go_sem, load_at g0, markC, dec_t (show x.2.2 < x.2.1 by omega)]; with_reducible rfl)))
    refine cond_t rfl ?_
    (refine yg ?_)
    exact fin_1 ⟨by rw [if_neg h4]; rfl, xG⟩
end
end Go.Lq


namespace Go.Lq
open Go
open Go.Proofs

theorem OwnT.aside {H0 H : AHeap} {l : List (Int × Int × Int)} {v : Value} (h : OwnT H0 H l v) {j : Nat} (hj : j < H0.length) : v = .slice none 0 0 ∨ idOf v ≠ j := by
  rcases h.2 with ⟨rfl, h0⟩ | ⟨id, rfl, h1, _, _⟩
  · exact .inl rfl
  · exact .inr (by show id ≠ j; omega)
theorem OwnT.set_ne {H0 H : AHeap} {l : List (Int × Int × Int)} {v : Value} (h : OwnT H0 H l v) {j : Nat} (hj : v = .slice none 0 0 ∨ idOf v ≠ j) (c : AObj) : OwnT H0 (H.set j c) l v := by
  refine Own.set_ne h ?_ c
  rcases hj with rfl | hj
  · rcases h.2 with ⟨_, h0⟩ | ⟨id, e, _⟩
    · exact .inl h0
    · cases e
  · exact .inr hj
theorem OwnT.pushedL {H0 H : AHeap} {l : List (Int × Int × Int)} {v : Value} (h : OwnT H0 H l v) (hx : H0.length ≤ H.length) (x : Int × Int × Int) : OwnT H0 (pushTH H v l x) (l ++ [x]) (pushV H l.length) := by
  have := Own.appended (h.app [.cells true 3 [.int .i64 x.1, .int .i64 x.2.1, .int .i64 x.2.2]]) (m := 1) (cs := [.int .i64 x.1, .int .i64 x.2.1, .int .i64 x.2.2]) rfl (by omega) (by simp; omega)
  unfold OwnT
  simpa [pushV, pushTH, flat3] using this
section
variable {H : AHeap} {L : Int × Int} {M : List Mark} {v kv : Value} {K : List Int}
end
end Go.Lq









namespace Go.Lq
open Go
open Go.Proofs

def accRate (L : Int × Int) (l : List (Int × Int)) (i : Nat) : Nat → Option Nat
  | 0 => none
  | n + 1 => if keepsB L (pieceOf l i) = true then accRate L l (i + 1) n else some i
theorem accRate_succ {L : Int × Int} {l : List (Int × Int)} {i n : Nat} : accRate L l i (n + 1) = if keepsB L (pieceOf l i) = true then accRate L l (i + 1) n else some i := rfl
def accMark (M : List Mark) (l : List (Int × Int)) (i : Nat) : Nat → Int × Int
  | 0 => (0, 0)
  | n + 1 => if (l.getD 0 (0, 0)).1 ≤ (M.getD i (0, 0, 0)).1 ∧ (M.getD i (0, 0, 0)).1 ≤ (l.getD (l.length - 1) (0, 0)).1 then
      (if meetsB (pieceP l (M.getD i (0, 0, 0)).1) (M.getD i (0, 0, 0)) = true then accMark M l (i + 1) n else ((i : Int), 13)) else ((i : Int), 14)
theorem accMark_succ {M : List Mark} {l : List (Int × Int)} {i n : Nat} : accMark M l i (n + 1) = if (l.getD 0 (0, 0)).1 ≤ (M.getD i (0, 0, 0)).1 ∧ (M.getD i (0, 0, 0)).1 ≤ (l.getD (l.length - 1) (0, 0)).1 then
      (if meetsB (pieceP l (M.getD i (0, 0, 0)).1) (M.getD i (0, 0, 0)) = true then accMark M l (i + 1) n else ((i : Int), 13)) else ((i : Int), 14) := rfl
def accGo (L : Int × Int) (M : List Mark) (l : List (Int × Int)) : Int × Int := match accRate L l 0 (l.length - 1) with | some i => ((i : Int), 23) | none => accMark M l 0 M.length
section
variable {H : AHeap} {L : Int × Int} {M : List Mark} {v u : Value} {l : List (Int × Int)}
end
end Go.Lq


namespace Go.Lq
open Go
open Go.Proofs

theorem meets_iff {p : (Int × Int) × (Int × Int)} {x : Mark} : meetsB p x = true ↔ atLeast p x.1 x.2.1 ∧ atMost p x.1 x.2.2 := decide_eq_true_iff
section
variable {H : AHeap} {L : Int × Int} {M : List Mark} {v u : Value} {l : List (Int × Int)}
end
end Go.Lq

namespace Go.Lq

theorem accRate_all {L : Int × Int} {l : List (Int × Int)} : ∀ {n i : Nat}, accRate L l i n = none → ∀ j, i ≤ j → j < i + n → keepsB L (pieceOf l j) = true
  | 0, i, _, j, h1, h2 => by omega
  | n + 1, i, h, j, h1, h2 => by
    rw [accRate_succ] at h
    by_cases hk : keepsB L (pieceOf l i) = true
    · rw [if_pos hk] at h
      by_cases e : j = i
      · subst e; exact hk
      · exact accRate_all h j (by omega) (by omega)
    · rw [if_neg hk] at h; cases h
theorem accMark_all {M : List Mark} {l : List (Int × Int)} : ∀ {n i : Nat}, (accMark M l i n).2 = 0 → ∀ j, i ≤ j → j < i + n → ((l.getD 0 (0, 0)).1 ≤ mP M j ∧ mP M j ≤ (l.getD (l.length - 1) (0, 0)).1) ∧ meetsB (pieceP l (mP M j)) (M.getD j (0, 0, 0)) = true
  | 0, i, _, j, h1, h2 => by omega
  | n + 1, i, h, j, h1, h2 => by
    rw [accMark_succ] at h
    by_cases hr : (l.getD 0 (0, 0)).1 ≤ (M.getD i (0, 0, 0)).1 ∧ (M.getD i (0, 0, 0)).1 ≤ (l.getD (l.length - 1) (0, 0)).1
    · rw [if_pos hr] at h
      by_cases hm : meetsB (pieceP l (M.getD i (0, 0, 0)).1) (M.getD i (0, 0, 0)) = true
      · rw [if_pos hm] at h
        by_cases e : j = i
        · subst e; exact ⟨hr, hm⟩
        · exact accMark_all h j (by omega) (by omega)
      · rw [if_neg hm] at h; exact absurd (show (13 : Int) = 0 from h) (by decide)
    · rw [if_neg hr] at h; exact absurd (show (14 : Int) = 0 from h) (by decide)
structure AccOk (L : Int × Int) (M : List Mark) (l : List (Int × Int)) : Prop where
  ok : MapOk l
  rate : RateOk L l
  marks : ∀ j, j < M.length → ((l.getD 0 (0, 0)).1 ≤ mP M j ∧ mP M j ≤ (l.getD (l.length - 1) (0, 0)).1) ∧ (atLeast (pieceP l (mP M j)) (mP M j) (M.getD j (0, 0, 0)).2.1 ∧ atMost (pieceP l (mP M j)) (mP M j) (M.getD j (0, 0, 0)).2.2)
theorem AccOk.of {L : Int × Int} {M : List Mark} {l : List (Int × Int)} (hok : MapOk l) (h : (accGo L M l).2 = 0) : AccOk L M l := by
  unfold accGo at h
  cases hr : accRate L l 0 (l.length - 1) with
  | some i => rw [hr] at h; exact absurd h (by show ¬ ((23 : Int) = 0); decide)
  | none =>
    rw [hr] at h
    have hk := accRate_all hr
    have hm := accMark_all (i := 0) (n := M.length) h
    exact ⟨hok, fun i hi => of_decide_eq_true (hk i (Nat.zero_le _) (by omega)), fun j hj => ⟨(hm j (Nat.zero_le _) (by omega)).1, meets_iff.1 (hm j (Nat.zero_le _) (by omega)).2⟩⟩
section
variable {L : Int × Int} {M : List Mark} {l : List (Int × Int)} (ha : AccOk L M l) (he : EvOk L M)
include ha he
theorem AccOk.one {i : Nat} (hi : i < M.length) {q : Int} (hq : (l.getD 0 (0, 0)).1 ≤ q ∧ q ≤ (l.getD (l.length - 1) (0, 0)).1) : (byR L (M.getD i (0, 0, 0)) q).1 ≤ mapTimLo l q ∧ mapTimHi l q ≤ (byR L (M.getD i (0, 0, 0)) q).2 := by
  have hm := ha.ok
  have hlo := hm.lo
  obtain ⟨m1, m2⟩ := ha.marks i hi
  obtain ⟨b1, b2⟩ := by_encloses hm ha.rate he.le (x := M.getD i (0, 0, 0)) (q := q) m1 hq m2
  obtain ⟨a1, _⟩ := atPos_in (l := l) (t := q) (k := l.length - 2) (i := 0) (by omega) hq.1
  have hp : (pieceP l q).1.1 < (pieceP l q).2.1 := (hm.piece a1).pos
  rw [least_lo hp] at b1
  rw [most_hi hp] at b2
  exact ⟨b1, b2⟩
theorem AccOk.enc (h0 : 0 < M.length) {q : Int} (hq : (l.getD 0 (0, 0)).1 ≤ q ∧ q ≤ (l.getD (l.length - 1) (0, 0)).1) : (encTo L M q M.length).1 ≤ mapTimLo l q ∧ mapTimHi l q ≤ (encTo L M q M.length).2 :=
  enc_le h0 fun _ hi => ha.one he hi hq
end
/-! ### Fewer marks -/
theorem mark_mem {M : List Mark} {x : Mark} (h : x ∈ M) : ∃ k, k < M.length ∧ M.getD k (0, 0, 0) = x := by
  obtain ⟨k, hk, e⟩ := List.getElem_of_mem h
  exact ⟨k, hk, by rw [List.getD_eq_getElem?_getD, List.getElem?_eq_getElem hk]; exact e⟩
theorem getD_mem {M : List Mark} {k : Nat} (h : k < M.length) : M.getD k (0, 0, 0) ∈ M := by
  rw [List.getD_eq_getElem?_getD, List.getElem?_eq_getElem h]; exact List.getElem_mem h
theorem pair_iff {M : List Mark} {R : Mark → Mark → Prop} : M.Pairwise R ↔ ∀ i k, i < k → k < M.length → R (M.getD i (0, 0, 0)) (M.getD k (0, 0, 0)) := by
  rw [List.pairwise_iff_getElem]
  constructor
  · intro h i k hik hk
    rw [List.getD_eq_getElem?_getD, List.getElem?_eq_getElem (show i < M.length by omega), List.getD_eq_getElem?_getD, List.getElem?_eq_getElem hk]
    exact h i k _ _ hik
  · intro h i k hi hk hik
    have := h i k hik hk
    rw [List.getD_eq_getElem?_getD, List.getElem?_eq_getElem hi, List.getD_eq_getElem?_getD, List.getElem?_eq_getElem hk] at this
    exact this
theorem EvOk.sub {L : Int × Int} {M N : List Mark} (h : EvOk L M) (hs : N.Sublist M) : EvOk L N := by
  have hm : ∀ i, i < N.length → ∃ k, k < M.length ∧ M.getD k (0, 0, 0) = N.getD i (0, 0, 0) := fun i hi => mark_mem (hs.subset (getD_mem hi))
  refine ⟨h.lo, h.hi, h.le, Nat.le_trans hs.length_le h.len, fun i hi => ?_, fun i hi => ?_, fun i hi => ?_, fun i hi => ?_, fun i hi => ?_⟩
  · obtain ⟨k, hk, e⟩ := hm i hi; rw [← e]; exact h.pos k hk
  · obtain ⟨k, hk, e⟩ := hm i hi; rw [← e]; exact h.t1 k hk
  · obtain ⟨k, hk, e⟩ := hm i hi; rw [← e]; exact h.t2 k hk
  · obtain ⟨k, hk, e⟩ := hm i hi; rw [← e]; exact h.lohi k hk
  · have hp : M.Pairwise (fun a b => a.1 < b.1) := pair_iff.2 fun i k hik hk => h.lt hik hk
    exact pair_iff.1 (hp.sublist hs) i (i + 1) (by omega) hi
theorem NoClash.sub {L : Int × Int} {M N : List Mark} (h : NoClash L M) (hs : N.Sublist M) : NoClash L N := by
  have hp : M.Pairwise (fun a b => clashB L a b = false) := pair_iff.2 h
  exact pair_iff.1 (hp.sublist hs)
end Go.Lq







namespace Go.Lq
open Go
attribute [go_sem] bs_lit bs_size idxS_b sliceS_b sliceS_from sliceS_to add_b eql_b neq_b r_byteS byteS_1 eqvI_n eqvI_i neqI_n neqI_i
attribute [go_sem high] r_eqvI
attribute [go_sem] isAtom_string constOk_string fillA_str fillA_ptr isAtom_pointer constOk_ptrNil
end Go.Lq

namespace Go.Proofs
open Go.Shelf
def Tryz.lays156_ren : Go.Shelf.Ren := ⟨fun | 156 => 28 | 165 => 61 | 166 => 62 | 169 => 63 | 240 => 83 | 241 => 84 | 276 => 104 | 277 => 105 | n => n, fun | 31 => 62 | 9 => 9 | 3 => 3 | 4 => 4 | 0 => 0 | 20 => 20 | 72 => 118 | 76 => 122 | 70 => 115 | 37 => 116 | 75 => 121 | 127 => 143 | 164 => 158 | 5 => 5 | 80 => 124 | n => n, fun | n => n⟩
theorem Tryz.lays156 : Go.Proofs.Lays.n156 Tryz.prog Tryz.lays156_ren := {
  mixed := by kernel_rfl
  f156 := Tryz.func28.trans (congrArg some (by kernel_rfl))
  f165 := Tryz.func61.trans (congrArg some (by kernel_rfl))
  f166 := Tryz.func62.trans (congrArg some (by kernel_rfl))
  f169 := Tryz.func63.trans (congrArg some (by kernel_rfl))
  f240 := Tryz.func83.trans (congrArg some (by kernel_rfl))
  f241 := Tryz.func84.trans (congrArg some (by kernel_rfl))
  f276 := Tryz.func104.trans (congrArg some (by kernel_rfl))
  f277 := Tryz.func105.trans (congrArg some (by kernel_rfl))
  t0 := Tryz.underlying0
  a0 := Tryz.isAgg0
  z0 := Tryz.sizeOf0
  v0 := Tryz.zeroValue0
  t3 := Tryz.underlying3
  a3 := Tryz.isAgg3
  z3 := Tryz.sizeOf3
  v3 := Tryz.zeroValue3
  t4 := Tryz.underlying4
  a4 := Tryz.isAgg4
  z4 := Tryz.sizeOf4
  v4 := Tryz.zeroValue4
  t9 := Tryz.underlying9
  a9 := Tryz.isAgg9
  z9 := Tryz.sizeOf9
  v9 := Tryz.zeroValue9
  t20 := Tryz.underlying20
  a20 := Tryz.isAgg20
  z20 := Tryz.sizeOf20
  v20 := Tryz.zeroValue20
  t31 := Tryz.underlying62
  a31 := Tryz.isAgg62
  z31 := Tryz.sizeOf62
  v31 := Tryz.zeroValue62
  t37 := Tryz.underlying116
  a37 := Tryz.isAgg116
  z37 := Tryz.sizeOf116
  v37 := Tryz.zeroValue116
  t70 := Tryz.underlying115
  a70 := Tryz.isAgg115
  z70 := Tryz.sizeOf115
  v70 := Tryz.zeroValue115
  t72 := Tryz.underlying118
  a72 := Tryz.isAgg118
  z72 := Tryz.sizeOf118
  v72 := Tryz.zeroValue118
  t75 := Tryz.underlying121
  a75 := Tryz.isAgg121
  z75 := Tryz.sizeOf121
  v75 := Tryz.zeroValue121
  t76 := Tryz.underlying122
  a76 := Tryz.isAgg122
  z76 := Tryz.sizeOf122
  v76 := Tryz.zeroValue122
  t127 := Tryz.underlying143
  a127 := Tryz.isAgg143
  z127 := Tryz.sizeOf143
  v127 := Tryz.zeroValue143
  t164 := Tryz.underlying158
  a164 := Tryz.isAgg158
  z164 := Tryz.sizeOf158
  v164 := Tryz.zeroValue158 }
theorem Tryz.Builder_Extra_156 : Builder.Extra Tryz.prog Tryz.lays156_ren := {
  sizeBuilder := by kernel_rfl
  liesBuilder := by kernel_rfl
  t5 := Tryz.underlying5
  a5 := Tryz.isAgg5
  z5 := Tryz.sizeOf5
  v5 := Tryz.zeroValue5
  infoByte := by kernel_rfl
  cellsByte := by kernel_rfl
  sizeByte := by kernel_rfl
  neB5 := by decide }
open Go.RowKit in
theorem Tryz.strings_Join_none (a : Option Addr) (c : Nat) (sep : ByteArray) (w : World) :
    Calls Tryz.prog 28 #[.slice a 0 c, .string sep] w fun e w' => e = .returned (.string ⟨#[]⟩) ∧ w' = w := Any.strings_Join_none Tryz.lays156 Tryz.Builder_Extra_156 a c sep w
open Go.RowKit in
theorem Tryz.strings_Join (bk o c : Nat) (xs : List ByteArray) (sep : ByteArray) (w : World) (hcells : ∀ (j : Nat) x, xs[j]? = some x → w.cell? ⟨bk, o + j, none⟩ = some (.string x)) (hbk : bk < w.heap.size) (hN : xs.length ≤ 140737488355328) (hcap : xs.length ≤ c) (hlen : (Lib.join (xs.map (·.data.toList)) sep.data.toList).length ≤ 140737488355328) :
    Calls Tryz.prog 28 #[.slice (some ⟨bk, o, none⟩) xs.length c, .string sep] w fun e w' => e = .returned (.string ⟨(Lib.join (xs.map (·.data.toList)) sep.data.toList).toArray⟩) ∧ Below w.heap.size w w' := Any.strings_Join Tryz.lays156 Tryz.Builder_Extra_156 bk o c xs sep w hcells hbk hN hcap hlen
def Tryz.laysM171_ren : Go.Shelf.Ren := ⟨fun | 171 => 27 | 243 => 60 | 246 => 82 | 283 => 100 | 284 => 101 | 285 => 102 | 286 => 103 | 129 => 94 | 317 => 118 | 318 => 119 | 319 => 120 | 320 => 121 | 337 => 127 | 338 => 128 | n => n, fun | 3 => 3 | 9 => 9 | 2 => 2 | 4 => 4 | 171 => 154 | 0 => 0 | 53 => 90 | 37 => 116 | 5 => 5 | 173 => 156 | 212 => 170 | 51 => 171 | 20 => 20 | 213 => 172 | 46 => 133 | 232 => 191 | 233 => 192 | n => n, fun | 17 => 3 | 18 => 8 | 19 => 9 | n => n⟩
theorem Tryz.laysM171 : Go.Proofs.LaysM.n171 Tryz.prog Tryz.laysM171_ren := {
  mixed := by kernel_rfl
  f129 := Tryz.func94.trans (congrArg some (by kernel_rfl))
  f171 := Tryz.func27.trans (congrArg some (by kernel_rfl))
  f243 := Tryz.func60.trans (congrArg some (by kernel_rfl))
  f246 := Tryz.func82.trans (congrArg some (by kernel_rfl))
  f283 := Tryz.func100.trans (congrArg some (by kernel_rfl))
  f284 := Tryz.func101.trans (congrArg some (by kernel_rfl))
  f285 := Tryz.func102.trans (congrArg some (by kernel_rfl))
  f286 := Tryz.func103.trans (congrArg some (by kernel_rfl))
  f317 := Tryz.func118.trans (congrArg some (by kernel_rfl))
  f318 := Tryz.func119.trans (congrArg some (by kernel_rfl))
  f319 := Tryz.func120.trans (congrArg some (by kernel_rfl))
  f320 := Tryz.func121.trans (congrArg some (by kernel_rfl))
  f337 := Tryz.func127.trans (congrArg some (by kernel_rfl))
  f338 := Tryz.func128.trans (congrArg some (by kernel_rfl))
  t0 := Tryz.underlying0
  a0 := Tryz.isAgg0
  z0 := Tryz.sizeOf0
  v0 := Tryz.zeroValue0
  t2 := Tryz.underlying2
  a2 := Tryz.isAgg2
  z2 := Tryz.sizeOf2
  v2 := Tryz.zeroValue2
  t3 := Tryz.underlying3
  a3 := Tryz.isAgg3
  z3 := Tryz.sizeOf3
  v3 := Tryz.zeroValue3
  t4 := Tryz.underlying4
  a4 := Tryz.isAgg4
  z4 := Tryz.sizeOf4
  v4 := Tryz.zeroValue4
  t5 := Tryz.underlying5
  a5 := Tryz.isAgg5
  z5 := Tryz.sizeOf5
  v5 := Tryz.zeroValue5
  t9 := Tryz.underlying9
  a9 := Tryz.isAgg9
  z9 := Tryz.sizeOf9
  v9 := Tryz.zeroValue9
  t20 := Tryz.underlying20
  a20 := Tryz.isAgg20
  z20 := Tryz.sizeOf20
  v20 := Tryz.zeroValue20
  t37 := Tryz.underlying116
  a37 := Tryz.isAgg116
  z37 := Tryz.sizeOf116
  v37 := Tryz.zeroValue116
  t46 := Tryz.underlying133
  a46 := Tryz.isAgg133
  z46 := Tryz.sizeOf133
  v46 := Tryz.zeroValue133
  t51 := Tryz.underlying171
  a51 := Tryz.isAgg171
  z51 := Tryz.sizeOf171
  v51 := Tryz.zeroValue171
  t53 := Tryz.underlying90
  a53 := Tryz.isAgg90
  z53 := Tryz.sizeOf90
  v53 := Tryz.zeroValue90
  t171 := Tryz.underlying154
  a171 := Tryz.isAgg154
  z171 := Tryz.sizeOf154
  v171 := Tryz.zeroValue154
  t173 := Tryz.underlying156
  a173 := Tryz.isAgg156
  z173 := Tryz.sizeOf156
  v173 := Tryz.zeroValue156
  t212 := Tryz.underlying170
  a212 := Tryz.isAgg170
  z212 := Tryz.sizeOf170
  v212 := Tryz.zeroValue170
  t213 := Tryz.underlying172
  a213 := Tryz.isAgg172
  z213 := Tryz.sizeOf172
  t232 := Tryz.underlying191
  a232 := Tryz.isAgg191
  z232 := Tryz.sizeOf191
  v232 := Tryz.zeroValue191
  t233 := Tryz.underlying192
  a233 := Tryz.isAgg192
  z233 := Tryz.sizeOf192
  v233 := Tryz.zeroValue192
  g17 := by kernel_rfl
  g18 := by kernel_rfl
  g19 := by kernel_rfl
  i0 := by kernel_rfl
  i2 := by kernel_rfl
  i3 := by kernel_rfl
  i4 := by kernel_rfl
  i5 := by kernel_rfl
  i9 := by kernel_rfl
  i20 := by kernel_rfl
  i37 := by kernel_rfl
  i46 := by kernel_rfl
  i51 := by kernel_rfl
  i53 := by kernel_rfl
  i171 := by kernel_rfl
  i173 := by kernel_rfl
  i212 := by kernel_rfl
  i232 := by kernel_rfl
  i233 := by kernel_rfl
  m17 := by kernel_rfl
  m18 := by kernel_rfl
  m19 := by kernel_rfl }
open Go.RowKit Go.Sort Go.Lib in
theorem Tryz.strconv_Itoa (n : Int) (h0 : -9223372036854775808 ≤ n) (h1 : n ≤ 9223372036854775807) (w : World) (htab : Lib.TabIs Tryz.prog w "internal/strconv.uint64pow10" .u64 Lib.pow10Tab) :
    Calls Tryz.prog 27 #[.int .i64 n] w fun e w' => e = .returned (.string ⟨(Lib.itoa n).toArray⟩) ∧ ∃ k os, w' = grow (w.drewN k) os := Any.strconv_Itoa Tryz.laysM171 n h0 h1 w htab
def Tryz.laysC172_ren : Go.Shelf.Ren := ⟨fun | 172 => 66 | 244 => 89 | 245 => 90 | 247 => 111 | 279 => 112 | 280 => 113 | 281 => 114 | 282 => 115 | 287 => 124 | 316 => 125 | 171 => 27 | 205 => 126 | 321 => 129 | 322 => 130 | 243 => 60 | 246 => 82 | 283 => 100 | 284 => 101 | 285 => 102 | 286 => 103 | 129 => 94 | 317 => 118 | 318 => 119 | 319 => 120 | 320 => 121 | 337 => 127 | 338 => 128 | n => n, fun | 9 => 9 | 3 => 3 | 75 => 121 | 76 => 122 | 4 => 4 | 5 => 5 | 167 => 162 | 37 => 116 | 0 => 0 | 85 => 163 | 2 => 2 | 168 => 165 | 53 => 90 | 175 => 180 | 46 => 133 | 210 => 184 | 127 => 143 | 145 => 190 | 143 => 188 | 21 => 21 | 171 => 154 | 173 => 156 | 212 => 170 | 51 => 171 | 20 => 20 | 213 => 172 | 232 => 191 | 233 => 192 | 80 => 124 | n => n, fun | 15 => 6 | 16 => 7 | 17 => 3 | 18 => 8 | 19 => 9 | n => n⟩
theorem Tryz.laysC172 : Go.Proofs.LaysC.n172 Tryz.prog Tryz.laysC172_ren := {
  mixed := by kernel_rfl
  f129 := Tryz.func94.trans (congrArg some (by kernel_rfl))
  f171 := Tryz.func27.trans (congrArg some (by kernel_rfl))
  f172 := Tryz.func66.trans (congrArg some (by kernel_rfl))
  f205 := Tryz.func126.trans (congrArg some (by kernel_rfl))
  f243 := Tryz.func60.trans (congrArg some (by kernel_rfl))
  f244 := Tryz.func89.trans (congrArg some (by kernel_rfl))
  f245 := Tryz.func90.trans (congrArg some (by kernel_rfl))
  f246 := Tryz.func82.trans (congrArg some (by kernel_rfl))
  f247 := Tryz.func111.trans (congrArg some (by kernel_rfl))
  f279 := Tryz.func112.trans (congrArg some (by kernel_rfl))
  f280 := Tryz.func113.trans (congrArg some (by kernel_rfl))
  f281 := Tryz.func114.trans (congrArg some (by kernel_rfl))
  f282 := Tryz.func115.trans (congrArg some (by kernel_rfl))
  f283 := Tryz.func100.trans (congrArg some (by kernel_rfl))
  f284 := Tryz.func101.trans (congrArg some (by kernel_rfl))
  f285 := Tryz.func102.trans (congrArg some (by kernel_rfl))
  f286 := Tryz.func103.trans (congrArg some (by kernel_rfl))
  f287 := Tryz.func124.trans (congrArg some (by kernel_rfl))
  f316 := Tryz.func125.trans (congrArg some (by kernel_rfl))
  f317 := Tryz.func118.trans (congrArg some (by kernel_rfl))
  f318 := Tryz.func119.trans (congrArg some (by kernel_rfl))
  f319 := Tryz.func120.trans (congrArg some (by kernel_rfl))
  f320 := Tryz.func121.trans (congrArg some (by kernel_rfl))
  f321 := Tryz.func129.trans (congrArg some (by kernel_rfl))
  f322 := Tryz.func130.trans (congrArg some (by kernel_rfl))
  f337 := Tryz.func127.trans (congrArg some (by kernel_rfl))
  f338 := Tryz.func128.trans (congrArg some (by kernel_rfl))
  t0 := Tryz.underlying0
  a0 := Tryz.isAgg0
  z0 := Tryz.sizeOf0
  v0 := Tryz.zeroValue0
  t2 := Tryz.underlying2
  a2 := Tryz.isAgg2
  z2 := Tryz.sizeOf2
  v2 := Tryz.zeroValue2
  t3 := Tryz.underlying3
  a3 := Tryz.isAgg3
  z3 := Tryz.sizeOf3
  v3 := Tryz.zeroValue3
  t4 := Tryz.underlying4
  a4 := Tryz.isAgg4
  z4 := Tryz.sizeOf4
  v4 := Tryz.zeroValue4
  t5 := Tryz.underlying5
  a5 := Tryz.isAgg5
  z5 := Tryz.sizeOf5
  v5 := Tryz.zeroValue5
  t9 := Tryz.underlying9
  a9 := Tryz.isAgg9
  z9 := Tryz.sizeOf9
  v9 := Tryz.zeroValue9
  t20 := Tryz.underlying20
  a20 := Tryz.isAgg20
  z20 := Tryz.sizeOf20
  v20 := Tryz.zeroValue20
  t21 := Tryz.underlying21
  a21 := Tryz.isAgg21
  z21 := Tryz.sizeOf21
  v21 := Tryz.zeroValue21
  t37 := Tryz.underlying116
  a37 := Tryz.isAgg116
  z37 := Tryz.sizeOf116
  v37 := Tryz.zeroValue116
  t46 := Tryz.underlying133
  a46 := Tryz.isAgg133
  z46 := Tryz.sizeOf133
  v46 := Tryz.zeroValue133
  t51 := Tryz.underlying171
  a51 := Tryz.isAgg171
  z51 := Tryz.sizeOf171
  v51 := Tryz.zeroValue171
  t53 := Tryz.underlying90
  a53 := Tryz.isAgg90
  z53 := Tryz.sizeOf90
  v53 := Tryz.zeroValue90
  t75 := Tryz.underlying121
  a75 := Tryz.isAgg121
  z75 := Tryz.sizeOf121
  v75 := Tryz.zeroValue121
  t76 := Tryz.underlying122
  a76 := Tryz.isAgg122
  z76 := Tryz.sizeOf122
  v76 := Tryz.zeroValue122
  t85 := Tryz.underlying163
  a85 := Tryz.isAgg163
  z85 := Tryz.sizeOf163
  v85 := Tryz.zeroValue163
  t127 := Tryz.underlying143
  a127 := Tryz.isAgg143
  z127 := Tryz.sizeOf143
  v127 := Tryz.zeroValue143
  t143 := Tryz.underlying188
  a143 := Tryz.isAgg188
  z143 := Tryz.sizeOf188
  v143 := Tryz.zeroValue188
  t145 := Tryz.underlying190
  a145 := Tryz.isAgg190
  z145 := Tryz.sizeOf190
  v145 := Tryz.zeroValue190
  t167 := Tryz.underlying162
  a167 := Tryz.isAgg162
  z167 := Tryz.sizeOf162
  v167 := Tryz.zeroValue162
  t168 := Tryz.underlying165
  a168 := Tryz.isAgg165
  z168 := Tryz.sizeOf165
  v168 := Tryz.zeroValue165
  t171 := Tryz.underlying154
  a171 := Tryz.isAgg154
  z171 := Tryz.sizeOf154
  v171 := Tryz.zeroValue154
  t173 := Tryz.underlying156
  a173 := Tryz.isAgg156
  z173 := Tryz.sizeOf156
  v173 := Tryz.zeroValue156
  t175 := Tryz.underlying180
  a175 := Tryz.isAgg180
  z175 := Tryz.sizeOf180
  v175 := Tryz.zeroValue180
  t210 := Tryz.underlying184
  a210 := Tryz.isAgg184
  z210 := Tryz.sizeOf184
  v210 := Tryz.zeroValue184
  t212 := Tryz.underlying170
  a212 := Tryz.isAgg170
  z212 := Tryz.sizeOf170
  v212 := Tryz.zeroValue170
  t213 := Tryz.underlying172
  a213 := Tryz.isAgg172
  z213 := Tryz.sizeOf172
  t232 := Tryz.underlying191
  a232 := Tryz.isAgg191
  z232 := Tryz.sizeOf191
  v232 := Tryz.zeroValue191
  t233 := Tryz.underlying192
  a233 := Tryz.isAgg192
  z233 := Tryz.sizeOf192
  v233 := Tryz.zeroValue192
  g15 := by kernel_rfl
  g16 := by kernel_rfl
  g17 := by kernel_rfl
  g18 := by kernel_rfl
  g19 := by kernel_rfl
  t80 := Tryz.underlying124
  a80 := Tryz.isAgg124
  z80 := Tryz.sizeOf124
  v80 := Tryz.zeroValue124
  i0 := by kernel_rfl
  i2 := by kernel_rfl
  i3 := by kernel_rfl
  i4 := by kernel_rfl
  i5 := by kernel_rfl
  i9 := by kernel_rfl
  i20 := by kernel_rfl
  i21 := by kernel_rfl
  i37 := by kernel_rfl
  i46 := by kernel_rfl
  i51 := by kernel_rfl
  i53 := by kernel_rfl
  i75 := by kernel_rfl
  i76 := by kernel_rfl
  i80 := by kernel_rfl
  i85 := by kernel_rfl
  i127 := by kernel_rfl
  i143 := by kernel_rfl
  i145 := by kernel_rfl
  i167 := by kernel_rfl
  i168 := by kernel_rfl
  i171 := by kernel_rfl
  i173 := by kernel_rfl
  i175 := by kernel_rfl
  i210 := by kernel_rfl
  i212 := by kernel_rfl
  i232 := by kernel_rfl
  i233 := by kernel_rfl
  m15 := by kernel_rfl
  m16 := by kernel_rfl
  m17 := by kernel_rfl
  m18 := by kernel_rfl
  m19 := by kernel_rfl
  c0 := by kernel_rfl
  c2 := by kernel_rfl
  c3 := by kernel_rfl
  c4 := by kernel_rfl
  c5 := by kernel_rfl
  c9 := by kernel_rfl
  c20 := by kernel_rfl
  c21 := by kernel_rfl
  c37 := by kernel_rfl
  c46 := by kernel_rfl
  c51 := by kernel_rfl
  c53 := by kernel_rfl
  c75 := by kernel_rfl
  c76 := by kernel_rfl
  c80 := by kernel_rfl
  c85 := by kernel_rfl
  c127 := by kernel_rfl
  c143 := by kernel_rfl
  c145 := by kernel_rfl
  c167 := by kernel_rfl
  c168 := by kernel_rfl
  c171 := by kernel_rfl
  c173 := by kernel_rfl
  c175 := by kernel_rfl
  c210 := by kernel_rfl
  c212 := by kernel_rfl
  c213 := by kernel_rfl
  c232 := by kernel_rfl
  c233 := by kernel_rfl }
open Go.RowKit in
theorem Tryz.strconv_Atoi_ok (s : ByteArray) (hmax : s.size ≤ 9223372036854775806) (v : Int) (h : Lib.atoiAll s.data.toList = .ok v) (w : World) :
    Calls Tryz.prog 66 #[.string s] w fun e w' => e = .returned (.tuple #[.int .i64 v, .nilIface]) ∧ (w' = w ∨ ∃ t, w' = Lib.bytesWorld w 5 t) := Any.strconv_Atoi_ok Tryz.laysC172 s hmax v h w
open Go.RowKit in
theorem Tryz.strconv_Atoi_syntax (s : ByteArray) (hlim : s.size ≤ 281474976710656) (h : Lib.atoiAll s.data.toList = Lib.atoiAll []) (ev : Value) (w : World) (hv : w.cell? ⟨6, 0, none⟩ = some ev) (hev : ev = .nilIface ∨ ∃ te pe, ev = .iface te pe) :
    Calls Tryz.prog 66 #[.string s] w fun e w' => ∃ N, e = .returned (.tuple #[.int .i64 (0), .iface 165 (.pointer (some ⟨N, 0, none⟩))]) ∧ w.heap.size ≤ N ∧ w'.heap[N]? = some (.cells #[.string ⟨#[65, 116, 111, 105]⟩, .string s, ev] 184 (0, 0)) ∧ Below w.heap.size w w' := Any.strconv_Atoi_syntax Tryz.laysC172 s hlim h ev w hv hev
open Go.RowKit in
theorem Tryz.strconv_Atoi_range (s : ByteArray) (hlim : s.size ≤ 281474976710656) (h : Lib.atoiAll s.data.toList = .range) (ev : Value) (w : World) (hv : w.cell? ⟨7, 0, none⟩ = some ev) (hev : ev = .nilIface ∨ ∃ te pe, ev = .iface te pe) :
    Calls Tryz.prog 66 #[.string s] w fun e w' => ∃ N, e = .returned (.tuple #[.int .i64 (Lib.atoiSat s.data.toList), .iface 165 (.pointer (some ⟨N, 0, none⟩))]) ∧ w.heap.size ≤ N ∧ w'.heap[N]? = some (.cells #[.string ⟨#[65, 116, 111, 105]⟩, .string s, ev] 184 (0, 0)) ∧ Below w.heap.size w w' := Any.strconv_Atoi_range Tryz.laysC172 s hlim h ev w hv hev
open Go.RowKit Go.Lib in
open Go.RowKit Go.Lib in
def Tryz.lays146_ren : Go.Shelf.Ren := ⟨fun | 146 => 37 | 221 => 70 | 268 => 91 | 138 => 92 | 143 => 87 | 195 => 116 | 197 => 86 | 218 => 117 | 219 => 88 | 260 => 106 | 217 => 107 | 225 => 108 | 224 => 109 | 267 => 110 | 266 => 122 | 314 => 123 | n => n, fun | 9 => 9 | 31 => 62 | 3 => 3 | 4 => 4 | 0 => 0 | 105 => 145 | 21 => 21 | 5 => 5 | 46 => 133 | 119 => 174 | 139 => 177 | 138 => 176 | 146 => 178 | 51 => 171 | n => n, fun | 1 => 2 | 3 => 4 | 4 => 5 | n => n⟩
theorem Tryz.lays146 : Go.Proofs.Lays.n146 Tryz.prog Tryz.lays146_ren := {
  mixed := by kernel_rfl
  f138 := Tryz.func92.trans (congrArg some (by kernel_rfl))
  f143 := Tryz.func87.trans (congrArg some (by kernel_rfl))
  f146 := Tryz.func37.trans (congrArg some (by kernel_rfl))
  f195 := Tryz.func116.trans (congrArg some (by kernel_rfl))
  f197 := Tryz.func86.trans (congrArg some (by kernel_rfl))
  f217 := Tryz.func107.trans (congrArg some (by kernel_rfl))
  f218 := Tryz.func117.trans (congrArg some (by kernel_rfl))
  f219 := Tryz.func88.trans (congrArg some (by kernel_rfl))
  f221 := Tryz.func70.trans (congrArg some (by kernel_rfl))
  f224 := Tryz.func109.trans (congrArg some (by kernel_rfl))
  f225 := Tryz.func108.trans (congrArg some (by kernel_rfl))
  f260 := Tryz.func106.trans (congrArg some (by kernel_rfl))
  f266 := Tryz.func122.trans (congrArg some (by kernel_rfl))
  f267 := Tryz.func110.trans (congrArg some (by kernel_rfl))
  f268 := Tryz.func91.trans (congrArg some (by kernel_rfl))
  f314 := Tryz.func123.trans (congrArg some (by kernel_rfl))
  t0 := Tryz.underlying0
  a0 := Tryz.isAgg0
  z0 := Tryz.sizeOf0
  v0 := Tryz.zeroValue0
  t3 := Tryz.underlying3
  a3 := Tryz.isAgg3
  z3 := Tryz.sizeOf3
  v3 := Tryz.zeroValue3
  t4 := Tryz.underlying4
  a4 := Tryz.isAgg4
  z4 := Tryz.sizeOf4
  v4 := Tryz.zeroValue4
  t5 := Tryz.underlying5
  a5 := Tryz.isAgg5
  z5 := Tryz.sizeOf5
  v5 := Tryz.zeroValue5
  t9 := Tryz.underlying9
  a9 := Tryz.isAgg9
  z9 := Tryz.sizeOf9
  v9 := Tryz.zeroValue9
  t21 := Tryz.underlying21
  a21 := Tryz.isAgg21
  z21 := Tryz.sizeOf21
  v21 := Tryz.zeroValue21
  t31 := Tryz.underlying62
  a31 := Tryz.isAgg62
  z31 := Tryz.sizeOf62
  v31 := Tryz.zeroValue62
  t46 := Tryz.underlying133
  a46 := Tryz.isAgg133
  z46 := Tryz.sizeOf133
  v46 := Tryz.zeroValue133
  t51 := Tryz.underlying171
  a51 := Tryz.isAgg171
  z51 := Tryz.sizeOf171
  v51 := Tryz.zeroValue171
  t105 := Tryz.underlying145
  a105 := Tryz.isAgg145
  z105 := Tryz.sizeOf145
  v105 := Tryz.zeroValue145
  t119 := Tryz.underlying174
  a119 := Tryz.isAgg174
  z119 := Tryz.sizeOf174
  t138 := Tryz.underlying176
  a138 := Tryz.isAgg176
  z138 := Tryz.sizeOf176
  v138 := Tryz.zeroValue176
  t139 := Tryz.underlying177
  a139 := Tryz.isAgg177
  z139 := Tryz.sizeOf177
  v139 := Tryz.zeroValue177
  t146 := Tryz.underlying178
  a146 := Tryz.isAgg178
  z146 := Tryz.sizeOf178
  v146 := Tryz.zeroValue178
  g1 := by kernel_rfl
  g3 := by kernel_rfl
  g4 := by kernel_rfl }
open Go.RowKit Go.Lib in
theorem Tryz.strings_Split (s sep : ByteArray) (m : Int) (w : World) (hs : s.size < 4294967281) (hm : w.cell? ⟨2, 0, none⟩ = some (.int .i64 m)) (h1 : 1 ≤ sep.size) :
    Calls Tryz.prog 37 #[.string s, .string sep] w fun e w' =>
      e = .returned (.slice (some ⟨w.heap.size, 0, none⟩) (Lib.countB s sep + 1) (Lib.countB s sep + 1)) ∧ w' = w.alloc (.cells ((Lib.splitB sep 0 (Lib.countB s sep) s).map Value.string).toArray 9) := Any.strings_Split Tryz.lays146 (by kernel_rfl) s sep m w hs hm h1
end Go.Proofs

namespace Go.Lq
open Go
open Go.Proofs

def tabRow : Array Value := (Lib.pow10Tab.map fun z => Value.int .u64 z).toArray
structure StrH (H : AHeap) : Prop where
  max : ∃ m, H[2]? = some (.cells false 1 [.int .i64 m])
  tab : H[3]? = some (.row tabRow)
  syn : ∃ t, H[6]? = some (.cells false 1 [.iface t junk])
  rng : ∃ t, H[7]? = some (.cells false 1 [.iface t junk])
theorem ext_at {H H' : AHeap} (hx : Ext H H') {i : Nat} {c : AObj} (h : H[i]? = some c) : H'[i]? = some c := by rw [hx.get (List.getElem?_eq_some_iff.1 h).1]; exact h
theorem StrH.ext {H H' : AHeap} (h : StrH H) (hx : Ext H H') : StrH H' := by
  obtain ⟨m, h1⟩ := h.max
  obtain ⟨t, h2⟩ := h.syn
  obtain ⟨u, h3⟩ := h.rng
  exact ⟨⟨m, ext_at hx h1⟩, ext_at hx h.tab, ⟨t, ext_at hx h2⟩, ⟨u, ext_at hx h3⟩⟩

section
variable {H : AHeap} {base : Nat} {β : Beta} {w : World}
theorem gTab : Go.Proofs.Tryz.prog.globalNamed "internal/strconv.uint64pow10" = some 3 := by kernel_rfl
theorem gSize : Go.Proofs.Tryz.prog.globals.size = 10 := by kernel_rfl
theorem Inj.glob_cell (hi : Inj Go.Proofs.Tryz.prog β H base w) {g : Nat} (hg : g < 10) {v : Value} (h : H[g]? = some (.cells false 1 [v])) : ∃ cv, w.cell? ⟨g, 0, none⟩ = some cv ∧ VR β v cv := by
  obtain ⟨r, hr⟩ := hi.glob g (by rw [gSize]; exact hg)
  have := cell_rel (k := 0) (v := v) hi hr (by unfold cellAt; rw [h]; rfl)
  simpa using this
theorem StrH.maxLen (hs : StrH H) (hi : Inj Go.Proofs.Tryz.prog β H base w) : ∃ m, w.cell? ⟨2, 0, none⟩ = some (.int .i64 m) := by
  obtain ⟨m, h⟩ := hs.max
  obtain ⟨cv, h1, h2⟩ := hi.glob_cell (by decide) h
  exact ⟨m, by rw [h1, h2.num]⟩
theorem StrH.errCell (hs : StrH H) (hi : Inj Go.Proofs.Tryz.prog β H base w) {g : Nat} (hg : g = 6 ∨ g = 7) : ∃ te pe, w.cell? ⟨g, 0, none⟩ = some (.iface te pe) := by
  rcases hg with rfl | rfl
  · obtain ⟨t, h⟩ := hs.syn
    obtain ⟨cv, h1, h2⟩ := hi.glob_cell (by decide) h
    obtain ⟨v', rfl⟩ := h2.iface_inv
    exact ⟨t, v', h1⟩
  · obtain ⟨t, h⟩ := hs.rng
    obtain ⟨cv, h1, h2⟩ := hi.glob_cell (by decide) h
    obtain ⟨v', rfl⟩ := h2.iface_inv
    exact ⟨t, v', h1⟩
theorem StrH.tabIs (hs : StrH H) (hi : Inj Go.Proofs.Tryz.prog β H base w) : Lib.TabIs Go.Proofs.Tryz.prog w "internal/strconv.uint64pow10" .u64 Lib.pow10Tab := by
  obtain ⟨r, hr⟩ := hi.glob 3 (by rw [gSize]; decide)
  have ho := hi.obj 3 _ hr
  rw [hs.tab] at ho
  obtain ⟨t, fz, h⟩ := ho
  unfold Lib.TabIs World.var?
  rw [gTab]
  simp only [Option.bind_some, h]
  rfl
theorem cargs1 {v : Value} {cargs : Array Value} (h : cargs.toList = [v]) : cargs = #[v] := by rw [← Array.toArray_toList (xs := cargs), h]
theorem cargs2 {v u : Value} {cargs : Array Value} (h : cargs.toList = [v, u]) : cargs = #[v, u] := by rw [← Array.toArray_toList (xs := cargs), h]
theorem itoa_c (hs : StrH H) {n : Int} (h0 : -9223372036854775808 ≤ n) (h1 : n ≤ 9223372036854775807) : ACall Go.Proofs.Tryz.prog 27 [.int .i64 n] H fun v H' => v = .string (bs (Lib.itoa n)) ∧ H' = H := by
  refine ACall.of_calls ⟨_, Go.Proofs.Tryz.func27, by kernel_rfl, by kernel_rfl⟩ fun base β w cargs hi hv => ?_
  obtain ⟨y, e, h⟩ := VRs.one hv
  obtain rfl := h.num
  rw [cargs1 e]
  refine (Go.Proofs.Tryz.strconv_Itoa n h0 h1 w (hs.tabIs hi)).mono fun e' w' ⟨he, k, os, hw⟩ => ?_
  subst hw
  exact ⟨_, _, he, .string _, ⟨rfl, rfl⟩, Lib.below_grow _ _ (Nat.le_refl _) _ _⟩

theorem VR.pair {β : Beta} {a b c d : Value} (h1 : VR β a c) (h2 : VR β b d) : VR β (.tuple #[a, b]) (.tuple #[c, d]) := .tuple rfl fun i v v' e1 e2 => by
  match i with
  | 0 => simp at e1 e2; subst e1; subst e2; exact h1
  | 1 => simp at e1 e2; subst e1; subst e2; exact h2
  | i + 2 => simp at e1
def AtoiRes (l : List UInt8) (v : Value) : Prop := (∃ n, Lib.atoiAll l = .ok n ∧ v = .tuple #[.int .i64 n, .nilIface]) ∨ ((∀ n, Lib.atoiAll l ≠ .ok n) ∧ ∃ n t, v = .tuple #[.int .i64 n, .iface t junk])
theorem atoi_c (hs : StrH H) {l : List UInt8} (hl : l.length ≤ 281474976710656) : ACall Go.Proofs.Tryz.prog 66 [.string (bs l)] H fun v H' => AtoiRes l v ∧ H' = H := by
  refine ACall.of_calls ⟨_, Go.Proofs.Tryz.func66, by kernel_rfl, by kernel_rfl⟩ fun base β w cargs hi hv => ?_
  obtain ⟨y, e, h⟩ := VRs.one hv
  obtain rfl := h.str
  rw [cargs1 e]
  have hsz : (bs l).size ≤ 281474976710656 := by rw [bs_size]; exact hl
  cases hr : Lib.atoiAll l
  · rename_i n
    refine (Go.Proofs.Tryz.strconv_Atoi_ok (bs l) (by omega) n (by rw [bs_data]; exact hr) w).mono fun e' w' ⟨he, hw⟩ => ?_
    refine ⟨_, .tuple #[.int .i64 n, .nilIface], he, VR.pair (.int _ _) .nilIface, ⟨.inl ⟨n, hr, rfl⟩, rfl⟩, ?_⟩
    rcases hw with rfl | ⟨t, rfl⟩
    · exact RowKit.Below.refl _ _
    · exact Lib.bytesWorld_below _ _ _
  · obtain ⟨te, pe, hc⟩ := hs.errCell hi (.inl rfl)
    refine (Go.Proofs.Tryz.strconv_Atoi_syntax (bs l) hsz (by rw [bs_data]; exact hr) _ w hc (.inr ⟨te, pe, rfl⟩)).mono fun e' w' ⟨N, he, _, _, hb⟩ => ?_
    exact ⟨_, .tuple #[.int .i64 0, .iface _ junk], he, VR.pair (.int _ _) (.iface _ (.junk _)), ⟨.inr ⟨fun n h => (by rw [hr] at h; cases h), _, _, rfl⟩, rfl⟩, hb⟩
  · obtain ⟨te, pe, hc⟩ := hs.errCell hi (.inr rfl)
    refine (Go.Proofs.Tryz.strconv_Atoi_range (bs l) hsz (by rw [bs_data]; exact hr) _ w hc (.inr ⟨te, pe, rfl⟩)).mono fun e' w' ⟨N, he, _, _, hb⟩ => ?_
    exact ⟨_, .tuple #[.int .i64 _, .iface _ junk], he, VR.pair (.int _ _) (.iface _ (.junk _)), ⟨.inr ⟨fun n h => (by rw [hr] at h; cases h), _, _, rfl⟩, rfl⟩, hb⟩

theorem split_c (hs : StrH H) {l m : List UInt8} (hl : l.length ≤ 281474976) (hm1 : 1 ≤ m.length) : ACall Go.Proofs.Tryz.prog 37 [.string (bs l), .string (bs m)] H fun v H' =>
    v = .slice (some ⟨H.length, 0, none⟩) (Lib.split l m).length (Lib.split l m).length ∧ H' = H ++ [.cells true 1 (strs (Lib.split l m))] := by
  refine ACall.of_row ⟨_, Go.Proofs.Tryz.func37, by kernel_rfl, by kernel_rfl⟩ fun base β w cargs hi hv => ?_
  obtain ⟨y, y', e, h, h'⟩ := VRs.two hv
  obtain rfl := h.str
  obtain rfl := h'.str
  rw [cargs2 e]
  obtain ⟨k, hm⟩ := hs.maxLen hi
  refine (Go.Proofs.Tryz.strings_Split (bs l) (bs m) k w (by rw [bs_size]; omega) hm (by rw [bs_size]; exact hm1)).mono fun e' w' ⟨he, hw⟩ => ?_
  subst hw
  have hd := Lib.splitB_data (bs m) 0 (Lib.countB (bs l) (bs m)) (bs l)
  rw [bs_data, bs_data] at hd
  have hc : Lib.countB (bs l) (bs m) = Lib.count l m := by show Lib.count _ _ = _; rw [bs_data, bs_data]
  have hsp : (Lib.splitB (bs m) 0 (Lib.countB (bs l) (bs m)) (bs l)).map (fun b => b.data.toList) = Lib.split l m := by rw [hd, hc]; rfl
  have hlen : (Lib.split l m).length = Lib.countB (bs l) (bs m) + 1 := by
    rw [← hsp, List.length_map]
    exact Lib.splitB_all (bs m) (by rw [bs_size]; exact hm1) 0 _ _ rfl
  have hst : strs (Lib.split l m) = (Lib.splitB (bs m) 0 (Lib.countB (bs l) (bs m)) (bs l)).map Value.string := by
    unfold strs
    rw [← hsp, List.map_map]
    exact List.map_congr_left fun b _ => by show Value.string (bs b.data.toList) = _; rw [← bs_of]
  refine ⟨strs (Lib.split l m), _, 9, 1, (Lib.split l m).length, (Lib.split l m).length, Lib.countB (bs l) (bs m) + 1, by rw [he, hlen], rfl, rfl, rfl, rfl, fun i v hiv => ?_, by omega, fun h => by omega, ?_, rfl, rfl⟩
  · rw [hst] at hiv
    have hm2 := List.mem_of_getElem? hiv
    obtain ⟨b, _, rfl⟩ := List.mem_map.1 hm2
    exact ⟨_, by rw [← Array.getElem?_toList]; exact hiv, .string _⟩
  · rw [← hst]
    simp [strs, hlen]

theorem join_c {ll : List (List UInt8)} {m : List UInt8} {v : Value} (ht : Txts H ll v) (hn : ll.length ≤ 1000000) (hl : (Lib.join ll m).length ≤ 140737488355328) : ACall Go.Proofs.Tryz.prog 28 [v, .string (bs m)] H fun v' H' =>
    v' = .string (bs (Lib.join ll m)) ∧ H' = H := by
  refine ACall.of_calls ⟨_, Go.Proofs.Tryz.func28, by kernel_rfl, by kernel_rfl⟩ fun base β w cargs hi hv => ?_
  obtain ⟨y, y', e, h, h'⟩ := VRs.two hv
  obtain rfl := h'.str
  rw [cargs2 e]
  by_cases h0 : ll.length = 0
  · obtain rfl := List.length_eq_zero_iff.1 h0
    have : ∃ a c, y = .slice a 0 c := by
      rcases ht.2 with ⟨rfl, _⟩ | ⟨id, off, c, rfl, _⟩
      · exact ⟨_, _, h.nilS⟩
      · cases h with | slice hc h0 ha => exact ⟨_, _, rfl⟩
    obtain ⟨a, c, rfl⟩ := this
    refine (Go.Proofs.Tryz.strings_Join_none a c (bs m) w).mono fun e' w' ⟨he, hw⟩ => ?_
    subst hw
    exact ⟨_, _, he, .string _, ⟨rfl, rfl⟩, RowKit.Below.refl _ _⟩
  obtain ⟨id, off, c, rfl, _⟩ := ht.cell (k := 0) (by omega)
  obtain ⟨a, cap, rfl, hcap, hcc, ha⟩ := h.slice_inv
  obtain ⟨p, hp, rfl, _⟩ := ha (.inl (by omega))
  have hcells : ∀ (j : Nat) x, (ll.map bs)[j]? = some x → w.cell? ⟨p.b, p.o + off + j, none⟩ = some (.string x) := fun j x hx => by
    have hj : j < ll.length := by simpa using (List.getElem?_eq_some_iff.1 hx).1
    obtain ⟨id', off', c', e', hc⟩ := ht.cell hj
    cases e'
    obtain ⟨cv, h1, h2⟩ := cell_rel hi hp hc
    obtain rfl := h2.str
    rw [Nat.add_assoc, h1]
    simp [hj] at hx
    rw [← hx]
    simp [hj]
  have hmap : (ll.map bs).map (fun b => b.data.toList) = ll := by
    rw [List.map_map]
    exact (List.map_congr_left fun l _ => bs_data l).trans (List.map_id ll)
  have := Go.Proofs.Tryz.strings_Join p.b (p.o + off) cap (ll.map bs) (bs m) w hcells (hi.lt _ _ hp) (by simp; omega) (by simpa using hcap) (by rw [hmap, bs_data]; exact hl)
  rw [hmap, bs_data, List.length_map] at this
  refine this.mono fun e' w' ⟨he, hb⟩ => ?_
  exact ⟨_, _, he, .string _, ⟨rfl, rfl⟩, hb⟩
end
end Go.Lq

namespace Go.Lq
open Go Go.ChangeShapes Go.WideShapes Go.ChangeAt Go.RowKit
open Go.Proofs

theorem own_knob : ownKnob Tryz.prog.godebug = none := by kernel_rfl
theorem laid_out : laidOutB Tryz.prog = true := by kernel_rfl
def laidAll : List (String × DataW Unit) := [("math/bits.deBruijn32tab", YtejkpmemicpheaaGreatDoor.Rows.laid_math_bits_deBruijn32tab), ("math/bits.deBruijn64tab", YtejkpmemicpheaaGreatDoor.Rows.laid_math_bits_deBruijn64tab), ("internal/strconv.uint64pow10", YtejkpmemicpheaaGreatDoor.Rows.laid_internal_strconv_uint64pow10), ("unicode/utf8.acceptRanges", YtejkpmemicpheaaGreatDoor.Rows.laid_unicode_utf8_acceptRanges), ("strconv.ErrRange", YtejkpmemicpheaaGreatDoor.Rows.laid_strconv_ErrRange), ("strconv.ErrSyntax", YtejkpmemicpheaaGreatDoor.Rows.laid_strconv_ErrSyntax), ("unicode/utf8.first", YtejkpmemicpheaaGreatDoor.Rows.laid_unicode_utf8_first)]

theorem met_plain {W : World} : laidMetH Tryz.prog laidAll W = laidMet Tryz.prog laidAll W := MakeChecks.laidMetH_plain _ _ _ (by kernel_rfl)
theorem door_met (os : Os) (args : Array Value) : laidMetH Tryz.prog laidAll ((World.laidAll Tryz.prog os laidAll).forCall (fun _ _ => 0) ⟨#[], args, []⟩).memory := by
  rw [met_plain]; exact laidMet_laidAll _ (by kernel_rfl) (by kernel_rfl)
theorem door_shaped (os : Os) (args : Array Value) : ((World.laidAll Tryz.prog os laidAll).forCall (fun _ _ => 0) ⟨#[], args, []⟩).Shaped Tryz.prog := World.shaped_of_ZipB (by kernel_rfl) (by kernel_rfl)
theorem looks0 : true = Tryz.prog.looks [] := by kernel_rfl
theorem may_enter : Tryz.prog.mayEnter = true := by kernel_rfl
theorem stops_heard : Tryz.prog.stopsHeard = true := by kernel_rfl
theorem maps_rowed : mapsRowed Tryz.prog = true := by kernel_rfl

theorem glob_block {W : World} (hsh : W.ShapedOpen Tryz.prog) {g : Nat} (hg : g < 10) (h0 : (((begin Tryz.prog (fun _ _ => 0) default).world.heap[g]?).bind Obj.row?).isSome = true) : ∃ cs t, W.heap[g]? = some (.cells cs t) := by
  obtain ⟨⟨zero, t⟩, e⟩ := Option.isSome_iff_exists.1 h0
  obtain ⟨cs, h, _⟩ := hsh.1 g zero t (by rw [gSize]; exact hg) e
  exact ⟨cs, t, h⟩
theorem iface_cell {P : Program} {w : World} {held : Bool} {fuel : Nat} {t : TypeId} {ms} {cs : List Value} {n : String} {d : DataW Unit} {p : List MemPlace} (ht : P.underlying t = some (.interface ms))
    (h : DataW.trod (fun _ => ()) P w 0 (fun _ => true) held fuel t cs = some (.iface n d, p)) : ∃ u v, cs = [.iface u v] := by
  cases fuel with
  | zero => simp [DataW.trod] at h
  | succ fuel =>
    unfold DataW.trod at h
    rw [ht] at h
    split at h <;> first | (cases h; done) | (rename_i e; cases e; exact ⟨_, _, rfl⟩) | (rename_i e _; cases e; done) | (rename_i e; cases e; done) | skip
theorem gRange : Tryz.prog.globalNamed "strconv.ErrRange" = some 7 := by kernel_rfl
theorem gSyntax : Tryz.prog.globalNamed "strconv.ErrSyntax" = some 6 := by kernel_rfl
theorem tTab : (Tryz.prog.globals[3]?).map (·.type) = some 170 := by kernel_rfl
theorem tErr6 : (Tryz.prog.globals[6]?).map (·.type) = some 121 := by kernel_rfl
theorem tErr7 : (Tryz.prog.globals[7]?).map (·.type) = some 121 := by kernel_rfl
def S0 (m : Int) (t u : TypeId) : AHeap := [.cells false 1 [], .cells false 1 [], .cells false 1 [.int .i64 m], .row tabRow, .cells false 1 [], .cells false 1 [], .cells false 1 [.iface t junk], .cells false 1 [.iface u junk], .cells false 1 [], .cells false 1 []]
theorem strH {m : Int} {t u : TypeId} {H : AHeap} (hx : Ext (S0 m t u) H) : StrH H :=
  ⟨⟨m, ext_at hx rfl⟩, ext_at hx rfl, ⟨t, ext_at hx rfl⟩, ⟨u, ext_at hx rfl⟩⟩
theorem var_cells {P : Program} {W : World} {n : String} {g : Nat} {cs : Array Value} (hg : P.globalNamed n = some g) (h : W.var? P n = some cs) : ∃ t fz, W.heap[g]? = some (.cells cs t fz) := by
  unfold World.var? at h
  rw [hg] at h
  simp only [Option.bind_some] at h
  split at h
  · cases h; exact ⟨_, _, by assumption⟩
  · cases h

theorem of_laid {W : World} (h : laidMetH Tryz.prog laidAll W) (hsh : W.ShapedOpen Tryz.prog) : ∃ m t u, Laid W [⟨0, 0, 0⟩, ⟨1, 0, 0⟩, ⟨2, 0, 0⟩, ⟨3, 0, 0⟩, ⟨4, 0, 0⟩, ⟨5, 0, 0⟩, ⟨6, 0, 0⟩, ⟨7, 0, 0⟩, ⟨8, 0, 0⟩, ⟨9, 0, 0⟩] (S0 m t u) := by
  rw [met_plain] at h
  obtain ⟨ps, hv, _⟩ := h
  obtain ⟨_, _, _, _, _, _, _, _, _, _, hv, _⟩ := hv
  obtain ⟨_, _, _, _, _, _, _, _, _, _, hv, _⟩ := hv
  obtain ⟨g3, t3, c3, f3, p3, _, a3, b3, v3, d3, hv, _⟩ := hv
  obtain ⟨_, _, _, _, _, _, _, _, _, _, hv, _⟩ := hv
  obtain ⟨g7, t7, c7, f7, p7, _, a7, b7, v7, d7, hv, _⟩ := hv
  obtain ⟨g6, t6, c6, f6, p6, _, a6, b6, v6, d6, hv, _⟩ := hv
  obtain rfl := Option.some.inj (gTab.symm.trans a3)
  obtain rfl := Option.some.inj (gRange.symm.trans a7)
  obtain rfl := Option.some.inj (gSyntax.symm.trans a6)
  obtain rfl := Option.some.inj (tTab.symm.trans b3)
  obtain rfl := Option.some.inj (tErr7.symm.trans b7)
  obtain rfl := Option.some.inj (tErr6.symm.trans b6)
  obtain ⟨m, hm⟩ := cell_of_shapedOpen_int (P := Tryz.prog) (g := 2) (zero := #[.int .i64 0]) (t := 3) hsh (of_decide_eq_true (by kernel_rfl)) (by kernel_rfl) rfl (by kernel_rfl) (by kernel_rfl) Tryz.underlying3
  have e3 : c3.toList = Lib.pow10Tab.map fun z => Value.int .u64 z := Lib.cells_of_tab (t := 170) (e := 90) (n := 20) (k := .u64) (zs := Lib.pow10Tab) (by kernel_rfl) (by kernel_rfl) (by kernel_rfl) (by kernel_rfl) d3
  have e3 : c3 = tabRow := by
    unfold tabRow
    rw [← e3]
  subst e3
  obtain ⟨u, x7, e7⟩ := iface_cell Tryz.underlying121 d7
  obtain ⟨t, x6, e6⟩ := iface_cell Tryz.underlying121 d6
  obtain ⟨k0, s0, h0⟩ := glob_block (g := 0) hsh (by decide) (by kernel_rfl)
  obtain ⟨k1, s1, h1⟩ := glob_block (g := 1) hsh (by decide) (by kernel_rfl)
  obtain ⟨k2, s2, h2⟩ := glob_block (g := 2) hsh (by decide) (by kernel_rfl)
  obtain ⟨s3, z3, h3⟩ := var_cells gTab v3
  obtain ⟨k4, s4, h4⟩ := glob_block (g := 4) hsh (by decide) (by kernel_rfl)
  obtain ⟨k5, s5, h5⟩ := glob_block (g := 5) hsh (by decide) (by kernel_rfl)
  obtain ⟨s6, z6, h6⟩ := var_cells gSyntax v6
  obtain ⟨s7, z7, h7⟩ := var_cells gRange v7
  obtain ⟨k8, s8, h8⟩ := glob_block (g := 8) hsh (by decide) (by kernel_rfl)
  obtain ⟨k9, s9, h9⟩ := glob_block (g := 9) hsh (by decide) (by kernel_rfl)
  refine ⟨m, t, u, ?_⟩
  have L2 := (((Laid.none W).blank h0 1 0).blank h1 1 0).push (p := ⟨2, 0, 0⟩) (esz := 1) (vs := [.int .i64 m]) h2 fun k v hk => by
    cases k with
    | zero =>
      simp at hk
      subst hk
      refine ⟨_, ?_, .int _ _⟩
      unfold World.cell? at hm
      rw [h2] at hm
      simpa using hm
    | succ k => simp at hk
  have one : ∀ {cs : Array Value} {t : TypeId} {x : Value}, cs.toList = [.iface t x] → ∀ (B : List ALoc) (k : Nat) (v : Value), [Value.iface t junk][k]? = some v → ∃ cv, cs[0 + k]? = some cv ∧ VR (betaOf B) v cv := fun {cs t x} e B k v hk => by
    cases k with
    | zero =>
      simp at hk
      subst hk
      exact ⟨.iface t x, by rw [← Array.getElem?_toList, e]; rfl, .iface _ (.junk _)⟩
    | succ k => simp at hk
  have L5 := ((L2.row (p := ⟨3, 0, 0⟩) h3).blank h4 1 0).blank h5 1 0
  have L6 := L5.push (p := ⟨6, 0, 0⟩) (esz := 1) (vs := [.iface t junk]) h6 (one e6 _)
  have L7 := L6.push (p := ⟨7, 0, 0⟩) (esz := 1) (vs := [.iface u junk]) h7 (one e7 _)
  exact (L7.blank h8 1 0).blank h9 1 0
theorem globs {m : Int} {t u : TypeId} : Tryz.prog.globals.size ≤ (S0 m t u).length := by rw [gSize]; exact Nat.le_refl _
theorem glob_at : ∀ g, g < Tryz.prog.globals.size → ∃ r, ([⟨0, 0, 0⟩, ⟨1, 0, 0⟩, ⟨2, 0, 0⟩, ⟨3, 0, 0⟩, ⟨4, 0, 0⟩, ⟨5, 0, 0⟩, ⟨6, 0, 0⟩, ⟨7, 0, 0⟩, ⟨8, 0, 0⟩, ⟨9, 0, 0⟩] : List ALoc)[g]? = some ⟨g, 0, r⟩ := fun g hg => by
  rw [gSize] at hg
  match g, hg with
  | 0, _ => exact ⟨0, rfl⟩
  | 1, _ => exact ⟨0, rfl⟩
  | 2, _ => exact ⟨0, rfl⟩
  | 3, _ => exact ⟨0, rfl⟩
  | 4, _ => exact ⟨0, rfl⟩
  | 5, _ => exact ⟨0, rfl⟩
  | 6, _ => exact ⟨0, rfl⟩
  | 7, _ => exact ⟨0, rfl⟩
  | 8, _ => exact ⟨0, rfl⟩
  | 9, _ => exact ⟨0, rfl⟩
end Go.Lq

namespace Go.Lq
open Go Go.ChangeShapes Go.WideShapes Go.ChangeAt Go.RowKit
open Go.Proofs
theorem lifts_final : Tryz.prog.liftsFinal = YtejkpmemicpheaaGreatDoor.Rows.speedStringsRow.lifted := by kernel_rfl
theorem make_is : Tryz.prog.make = some YtejkpmemicpheaaGreatDoor.Rows.speedStringsRow.make := by kernel_rfl
theorem main_is : Tryz.prog.mainIs = some (true, "0f45edf933d94b2041ee32defa7f59a21703d276aed9c21567102dc55ab8e729".toList) := by kernel_rfl
end Go.Lq

namespace Go.Lq
open Go
open Go.Proofs

def numP (d : Int) (l : List UInt8) : Option Int := match Lib.atoiAll l with | .ok n => if 0 ≤ n ∧ Lib.itoa n = l ∧ (l.length : Int) ≤ d then some n else none | _ => none
def NumRes (d : Int) (l : List UInt8) (v : Value) : Prop := ∃ n, v = .tuple #[.int .i64 n, .bool (numP d l).isSome] ∧ ∀ m, numP d l = some m → n = m
section
variable {H : AHeap}
theorem number_c (hs : StrH H) {l : List UInt8} {d : Int} (hl : l.length ≤ 281474976710656) : ACall Go.Proofs.Tryz.prog 31 [.string (bs l), .int .i64 d] H fun v H' => NumRes d l v ∧ H' = H := by
  (refine a31 ?_; simp only [n31, List.replicate, yq, yr, yt, yu]; first | refine q1 ?_ | refine q2 ?_ | refine q6 ?_ | refine q7 ?_ | refine qh rfl ?_ | skip)
  (refine yg ?_)
  refine aops_call ((atoi_c hs hl).mono fun v H1 ⟨hr, e⟩ => ?_)
  subst e
  rcases hr with ⟨n, hn, rfl⟩ | ⟨hn, n, t, rfl⟩
  · obtain ⟨b0, b1⟩ := Lib.atoiAll_bounds hn
    by_cases h0 : 0 ≤ n
    · (repeat (first | refine yw ?_ | ((first | apply yd | apply ye); simp (disch := first|exact zz|fail) only [go_sem, dec_t h0]; with_reducible rfl)))
      refine aops_call_to (itoa_c hs b0 b1) ?_
      by_cases h1 : Lib.itoa n = l
      · (repeat (first | refine yw ?_ | ((first | apply yd | apply ye); simp (disch := first|exact zz|fail) only [go_sem, dec_t h1]; with_reducible rfl)))
        refine fin_2 ⟨⟨n, ?_, ?_⟩, rfl⟩
        · unfold numP
          rw [hn]
          by_cases h2 : (l.length : Int) ≤ d <;> simp [h0, h1, h2]
        · intro m hm
          unfold numP at hm
          rw [hn] at hm
          by_cases h2 : (l.length : Int) ≤ d
          · simpa [h0, h1, h2] using hm
          · simp [h0, h1, h2] at hm
      · (repeat (first | refine yw ?_ | ((first | apply yd | apply ye); simp (disch := first|exact zz|fail) only [go_sem, dec_f h1]; with_reducible rfl)))
        refine fin_2 ⟨⟨n, ?_, ?_⟩, rfl⟩
        · unfold numP; rw [hn]; simp [h1]
        · intro m hm
          unfold numP at hm
          rw [hn] at hm
          simp [h1] at hm
    · (repeat (first | refine yw ?_ | ((first | apply yd | apply ye); simp (disch := first|exact zz|fail) only [go_sem, dec_f h0]; with_reducible rfl)))
      refine fin_2 ⟨⟨n, ?_, ?_⟩, rfl⟩
      · unfold numP; rw [hn]; simp [h0]
      · intro m hm
        unfold numP at hm
        rw [hn] at hm
        simp [h0] at hm
  · have e : numP d l = none := by
      unfold numP
      split
      · rename_i m hm; exact absurd hm (hn m)
      · rfl
    (refine yg ?_)
    refine fin_2 ⟨⟨n, ?_, ?_⟩, rfl⟩
    · rw [e]; rfl
    · intro m hm; rw [e] at hm; cases hm
end
end Go.Lq

namespace Go.Lq
open Go
open Go.Proofs

theorem a_sub8 {H : AHeap} {a b : Int} (h0 : 0 ≤ a - b) (h1 : a - b < 256) : arithR .sub (.int .u8 a) (.int .u8 b) H = some (.int .u8 (a - b), H) := by
  have : IntKind.u8.wrap (a - b) = a - b := by
    unfold IntKind.wrap IntKind.bits
    have : (2 : Int) ^ 8 = 256 := by decide
    simp [IntKind.signed]
    omega
  simp [arithR, arithA, this]
theorem at8_bounds (l : List UInt8) (n : Int) : 0 ≤ at8 l n ∧ at8 l n < 256 := by
  unfold at8
  have := (l.getD n.toNat 0).toNat_lt
  omega
attribute [go_sem] a_sub8

def digV (acc : Int) : List UInt8 → Option Int
  | [] => some acc
  | b :: r => if ((b.toNat : Nat) : Int) < 48 ∨ 57 < ((b.toNat : Nat) : Int) then none else digV (10 * acc + (((b.toNat : Nat) : Int) - 48)) r
def signAt (l : List UInt8) : Nat := if 0 < l.length ∧ at8 l 0 = 45 then 1 else 0
def numB (d : Int) (l : List UInt8) : Option Int :=
  if (l.length : Int) = (signAt l : Nat) ∨ d < (l.length : Int) - (signAt l : Nat) ∨ (at8 l (signAt l : Nat) = 48 ∧ 1 < (l.length : Int)) then none
  else (digV 0 (l.drop (signAt l))).map fun n => if ((signAt l : Nat) : Int) = 1 then -n else n
theorem digV_step {l : List UInt8} {i : Nat} (h : i < l.length) (acc : Int) : digV acc (l.drop i) = if at8 l i < 48 ∨ 57 < at8 l i then none else digV (10 * acc + (at8 l i - 48)) (l.drop (i + 1)) := by
  rw [drop_getD (d := (0 : UInt8)) h]
  rfl
section
variable {H : AHeap}
theorem refNumber_c {l : List UInt8} {d : Int} (hd : d ≤ 18) (hl : l.length ≤ 1000000) : ACall Go.Proofs.Tryz.prog 68 [.string (bs l), .int .i64 d] H fun v H' =>
    v = .tuple #[.int .i64 ((numB d l).getD 0), .bool (numB d l).isSome] ∧ H' = H := by
  (refine a68 ?_; simp only [n68, List.replicate, yq, yr, yt, yu]; first | refine q1 ?_ | refine q2 ?_ | refine q6 ?_ | refine q7 ?_ | refine qh rfl ?_ | skip)
  (refine yx ?_; (first | apply aops_all | apply adraw_all); simp (disch := first|exact zz|fail) only [go_sem]; with_reducible rfl)
  (refine yx ?_; (first | apply aops_all | apply adraw_all); simp (disch := first|exact zz|fail) only [go_sem]; with_reducible rfl)
  refine awp_seq ?_
  refine awp_mid [true, true, false, false, true, true, true, false, false, false, false, false, false, false, false, false, false, false, false, false, false, false, false, false, false, false, false, false, false, false, false, false, false, false, false, false, false, false, false, false, false, false, false, false, false, false, false, false, false, false, false, false, false, false, false, false, false, false, false, false, false, false, false, false, false, false, false, false, false, false] (fun e J => J = H ∧ e = [.string (bs l), .int .i64 d, junk, junk, .int .i64 0, .bool false, .int .i64 ((signAt l : Nat) : Int), junk, junk, junk, junk, junk, junk, junk, junk, junk, junk, junk, junk, junk, junk, junk, junk, junk, junk, junk, junk, junk, junk, junk, junk, junk, junk, junk, junk, junk, junk, junk, junk, junk, junk, junk, junk, junk, junk, junk, junk, junk, junk, junk, junk, junk, junk, junk, junk, junk, junk, junk, junk, junk, junk, junk, junk, junk, junk, junk, junk, junk, junk, junk]) ?_ ?_
  · by_cases hp : 0 < l.length
    · have hp' : (0 : Int) < (l.length : Int) := by omega
      by_cases h45 : at8 l 0 = 45
      · have hs : ((signAt l : Nat) : Int) = 1 := by unfold signAt; rw [if_pos ⟨hp, h45⟩]; rfl
        (repeat (first | refine yw ?_ | ((first | apply yd | apply ye); simp (disch := first|exact zz|fail) only [go_sem, dec_t hp', dec_t h45]; with_reducible rfl)))
        refine cond_t rfl ?_
        (refine yg ?_)
        exact ⟨rfl, rfl, by simp [forget, hs]⟩
      · have hs : ((signAt l : Nat) : Int) = 0 := by unfold signAt; rw [if_neg (fun h => h45 h.2)]; rfl
        (repeat (first | refine yw ?_ | ((first | apply yd | apply ye); simp (disch := first|exact zz|fail) only [go_sem, dec_t hp', dec_f h45]; with_reducible rfl)))
        refine cond_f rfl ?_
        (refine yg ?_)
        exact ⟨rfl, rfl, by simp [forget, hs]⟩
    · have hs : ((signAt l : Nat) : Int) = 0 := by unfold signAt; rw [if_neg (fun h => hp h.1)]; rfl
      have hp' : ¬ (0 : Int) < (l.length : Int) := by omega
      (repeat (first | refine yw ?_ | ((first | apply yd | apply ye); simp (disch := first|exact zz|fail) only [go_sem, dec_f hp']; with_reducible rfl)))
      refine cond_f rfl ?_
      (refine yg ?_)
      exact ⟨rfl, rfl, by simp [forget, hs]⟩
  rintro e J ⟨rfl, rfl⟩
  obtain ⟨a, ha⟩ : ∃ a, a = signAt l := ⟨_, rfl⟩
  have ha1 : a ≤ 1 ∧ a ≤ l.length := by rw [ha]; unfold signAt; split <;> omega
  rw [← ha]
  have hN : numB d l = if (l.length : Int) = (a : Nat) ∨ d < (l.length : Int) - (a : Nat) ∨ (at8 l (a : Nat) = 48 ∧ 1 < (l.length : Int)) then none
      else (digV 0 (l.drop a)).map fun n => if ((a : Nat) : Int) = 1 then -n else n := by rw [ha]; rfl
  by_cases h1 : (l.length : Int) = (a : Nat)
  · rw [if_pos (.inl h1)] at hN
    rw [hN]
    (repeat (first | refine yw ?_ | ((first | apply yd | apply ye); simp (disch := first|exact zz|fail) only [go_sem, dec_t h1]; with_reducible rfl)))
    refine cond_t rfl ?_
    (refine yg ?_)
    exact fin_2 ⟨rfl, rfl⟩
  by_cases h2 : d < (l.length : Int) - (a : Nat)
  · rw [if_pos (.inr (.inl h2))] at hN
    rw [hN]
    (repeat (first | refine yw ?_ | ((first | apply yd | apply ye); simp (disch := first|exact zz|fail) only [go_sem, dec_f h1, dec_t h2]; with_reducible rfl)))
    refine cond_t rfl ?_
    (refine yg ?_)
    exact fin_2 ⟨rfl, rfl⟩
  by_cases h3 : at8 l (a : Nat) = 48 ∧ 1 < (l.length : Int)
  · rw [if_pos (.inr (.inr h3))] at hN
    rw [hN]
    (repeat (first | refine yw ?_ | ((first | apply yd | apply ye); simp (disch := first|exact zz|fail) only [go_sem, dec_f h1, dec_f h2, dec_t h3.1, dec_t h3.2]; with_reducible rfl)))
    refine cond_t rfl ?_
    (refine yg ?_)
    exact fin_2 ⟨rfl, rfl⟩
  rw [if_neg (fun h => h.elim h1 fun h => h.elim h2 h3)] at hN
  refine awp_seq ?_
  refine awp_mid [true, true, false, false, true, true, true, false, false, false, false, false, false, false, false, false, false, false, false, false, false, false, false, false, false, false, false, false, false, false, false, false, false, false, false, false, false, false, false, false, false, false, false, false, false, false, false, false, false, false, false, false, false, false, false, false, false, false, false, false, false, false, false, false, false, false, false, false, false, false] (fun e K => K = J ∧ e = [.string (bs l), .int .i64 d, junk, junk, .int .i64 0, .bool false, .int .i64 (a : Nat), junk, junk, junk, junk, junk, junk, junk, junk, junk, junk, junk, junk, junk, junk, junk, junk, junk, junk, junk, junk, junk, junk, junk, junk, junk, junk, junk, junk, junk, junk, junk, junk, junk, junk, junk, junk, junk, junk, junk, junk, junk, junk, junk, junk, junk, junk, junk, junk, junk, junk, junk, junk, junk, junk, junk, junk, junk, junk, junk, junk, junk, junk, junk]) ?_ ?_
  · by_cases h4 : at8 l (a : Nat) = 48
    · have h5 : ¬ 1 < (l.length : Int) := fun h => h3 ⟨h4, h⟩
      (repeat (first | refine yw ?_ | ((first | apply yd | apply ye); simp (disch := first|exact zz|fail) only [go_sem, dec_f h1, dec_f h2, dec_t h4, dec_f h5]; with_reducible rfl)))
      refine cond_f rfl ?_
      (refine yg ?_)
      exact ⟨rfl, rfl, by simp [forget]⟩
    · (repeat (first | refine yw ?_ | ((first | apply yd | apply ye); simp (disch := first|exact zz|fail) only [go_sem, dec_f h1, dec_f h2, dec_f h4]; with_reducible rfl)))
      refine cond_f rfl ?_
      (refine yg ?_)
      exact ⟨rfl, rfl, by simp [forget]⟩
  rintro e K ⟨rfl, rfl⟩
  (refine yg ?_)
  refine awp_loop_n [true, false, false, false, true, true, true, true, true, false, false, false, false, false, false, false, false, false, false, false, false, false, false, false, false, false, false, false, false, false, false, false, false, false, false, false, false, false, false, false, false, false, false, false, false, false, false, false, false, false, false, false, false, false, false, false, false, false, false, false, false, false, false, false, false, false, false, false, false, false] (l.length - a) (fun j e K' => ∃ n, K' = K ∧ e = [.string (bs l), junk, junk, junk, .int .i64 0, .bool false, .int .i64 (a : Nat), .int .i64 n, .int .i64 ((a + j : Nat) : Int), junk, junk, junk, junk, junk, junk, junk, junk, junk, junk, junk, junk, junk, junk, junk, junk, junk, junk, junk, junk, junk, junk, junk, junk, junk, junk, junk, junk, junk, junk, junk, junk, junk, junk, junk, junk, junk, junk, junk, junk, junk, junk, junk, junk, junk, junk, junk, junk, junk, junk, junk, junk, junk, junk, junk, junk, junk, junk, junk, junk, junk] ∧ 0 ≤ n ∧ n < 10 ^ j ∧ digV 0 (l.drop a) = digV n (l.drop (a + j))) ?_ ?_
  · exact ⟨0, rfl, by simp [forget], by omega, by decide, rfl⟩
  rintro j e K' hj ⟨n, rfl, rfl, n0, n1, hn⟩
  have hp18 : (10 : Int) ^ j ≤ 10 ^ 18 := by
    have : (10 : Nat) ^ j ≤ 10 ^ 18 := Nat.pow_le_pow_right (by decide) (by omega)
    exact_mod_cast this
  have h18 : (10 : Int) ^ 18 = 1000000000000000000 := by decide
  rw [h18] at hp18
  have hps : (10 : Int) ^ (j + 1) = 10 ^ j * 10 := Int.pow_succ ..
  (refine yg ?_)
  refine cond_p rfl (fun hlt => ?_) (fun hge => ?_)
  rotate_left 1
  · have hend : a + j = l.length := by omega
    rw [hend, List.drop_length] at hn
    have hn : digV 0 (l.drop a) = some n := hn
    rw [hn] at hN
    by_cases h6 : ((a : Nat) : Int) = 1
    · have hN : numB d l = some (-n) := by rw [hN]; simp [h6]
      rw [hN]
      (repeat (first | refine yw ?_ | ((first | apply yd | apply ye); simp (disch := first|exact zz|fail) only [go_sem, dec_t h6]; with_reducible rfl)))
      refine cond_t rfl ?_
      (refine yg ?_)
      refine fin_2 ⟨?_, rfl⟩
      simp
    · have hN : numB d l = some n := by rw [hN]; simp [h6]
      rw [hN]
      (repeat (first | refine yw ?_ | ((first | apply yd | apply ye); simp (disch := first|exact zz|fail) only [go_sem, dec_f h6]; with_reducible rfl)))
      refine cond_f rfl ?_
      (refine yg ?_)
      exact fin_2 ⟨rfl, rfl⟩
  have hi : a + j < l.length := by omega
  have hp17 : (10 : Int) ^ (j + 1) ≤ 1000000000000000000 := by
    have : (10 : Nat) ^ (j + 1) ≤ 10 ^ 18 := Nat.pow_le_pow_right (by decide) (by omega)
    rw [← h18]
    exact_mod_cast this
  have n2 : 10 * n < 1000000000000000000 := by omega
  rw [digV_step hi] at hn
  obtain ⟨b0, b1⟩ := at8_bounds l ((a + j : Nat) : Int)
  by_cases c1 : at8 l ((a + j : Nat) : Int) < 48
  · rw [if_pos (.inl c1)] at hn
    have hN : numB d l = none := by rw [hN, hn]; rfl
    rw [hN]
    (repeat (first | refine yw ?_ | ((first | apply yd | apply ye); simp (disch := first|exact zz|fail) only [go_sem, dec_t c1]; with_reducible rfl)))
    refine cond_t rfl ?_
    (refine yg ?_)
    exact fin_2 ⟨rfl, rfl⟩
  by_cases c2 : 57 < at8 l ((a + j : Nat) : Int)
  · rw [if_pos (.inr c2)] at hn
    have hN : numB d l = none := by rw [hN, hn]; rfl
    rw [hN]
    (repeat (first | refine yw ?_ | ((first | apply yd | apply ye); simp (disch := first|exact zz|fail) only [go_sem, dec_f c1, dec_t c2]; with_reducible rfl)))
    refine cond_t rfl ?_
    (refine yg ?_)
    exact fin_2 ⟨rfl, rfl⟩
  rw [if_neg (fun h => h.elim c1 c2)] at hn
  have e1 : ((a + j : Nat) : Int) + 1 = ((a + (j + 1) : Nat) : Int) := by omega
  (repeat (first | refine yw ?_ | ((first | apply yd | apply ye); simp (disch := first|exact zz|fail) only [go_sem, dec_f c1, dec_f c2]; with_reducible rfl)))
  refine cond_f rfl ?_
  (repeat (first | refine yw ?_ | ((first | apply yd | apply ye); simp (disch := first|exact zz|fail) only [go_sem, e1]; with_reducible rfl)))
  exact ⟨by omega, 10 * n + (at8 l ((a + j : Nat) : Int) - 48), rfl, by simp [forget], by omega, by omega, by rw [hn, show a + (j + 1) = a + j + 1 by omega]⟩
end
end Go.Lq

namespace Go.Lq
open Go
open Go.Proofs

def numR (d : Int) (l : List UInt8) : Option Int := match numB d l with | some n => if at8 l 0 ≠ 45 then some n else none | none => none
theorem numB_pos {d : Int} {l : List UInt8} {n : Int} (h : numB d l = some n) : 0 < l.length := by
  match l with
  | [] =>
    unfold numB at h
    rw [if_pos (.inl (by rfl))] at h
    cases h
  | _ :: _ => simp
section
variable {H : AHeap}
theorem refNum_c {l : List UInt8} {d : Int} (hd : d ≤ 18) (hl : l.length ≤ 1000000) : ACall Go.Proofs.Tryz.prog 34 [.string (bs l), .int .i64 d] H fun v H' =>
    v = .tuple #[.int .i64 ((numB d l).getD 0), .bool (numR d l).isSome] ∧ H' = H := by
  (refine a34 ?_; simp only [n34, List.replicate, yq, yr, yt, yu]; first | refine q1 ?_ | refine q2 ?_ | refine q6 ?_ | refine q7 ?_ | refine qh rfl ?_ | skip)
  (refine yg ?_)
  refine aops_call_to (refNumber_c hd hl) ?_
  cases hb : numB d l with
  | none =>
    have hr : numR d l = none := by unfold numR; rw [hb]
    rw [hr]
    (repeat (first | refine yw ?_ | ((first | apply yd | apply ye); simp (disch := first|exact zz|fail) only [go_sem, Option.isSome_none]; with_reducible rfl)))
    exact fin_2 ⟨rfl, rfl⟩
  | some n =>
    have hp : (0 : Int) < l.length := by have := numB_pos hb; omega
    by_cases h45 : at8 l 0 = 45
    · have hr : numR d l = none := by unfold numR; rw [hb]; simp [h45]
      rw [hr]
      (repeat (first | refine yw ?_ | ((first | apply yd | apply ye); simp (disch := first|exact zz|fail) only [go_sem, Option.isSome_some, dec_f (fun h : at8 l 0 ≠ 45 => h h45)]; with_reducible rfl)))
      exact fin_2 ⟨rfl, rfl⟩
    · have hr : numR d l = some n := by unfold numR; rw [hb]; simp [h45]
      rw [hr]
      (repeat (first | refine yw ?_ | ((first | apply yd | apply ye); simp (disch := first|exact zz|fail) only [go_sem, Option.isSome_some, dec_t (show at8 l 0 ≠ 45 from h45)]; with_reducible rfl)))
      exact fin_2 ⟨rfl, rfl⟩

theorem dec_step {u : Nat} (h : ¬ u < 10) : Lib.decDigits u = Lib.decDigits (u / 10) ++ [UInt8.ofNat (48 + u % 10)] := by
  rw [Lib.decDigits, dif_neg h]
theorem size_c (n : Int) (hn : -9223372036854775807 ≤ n ∧ n ≤ 9223372036854775807) : ACall Go.Proofs.Tryz.prog 69 [.int .i64 n] H fun v H' => v = .int .i64 (max n (-n)) ∧ H' = H := by
  (refine a69 ?_; simp only [n69, List.replicate, yq, yr, yt, yu]; first | refine q1 ?_ | refine q2 ?_ | refine q6 ?_ | refine q7 ?_ | refine qh rfl ?_ | skip)
  (refine yg ?_)
  refine fin_1 ⟨?_, rfl⟩
  simp
theorem tmod_abs (m : Int) : max (m.tmod 10) (-(m.tmod 10)) = ((m.natAbs % 10 : Nat) : Int) := by
  rcases Int.lt_or_le m 0 with h | h
  · obtain ⟨k, rfl⟩ : ∃ k : Nat, m = -(k : Int) := ⟨m.natAbs, by omega⟩
    have h2 : (k : Int).tmod 10 = ((k % 10 : Nat) : Int) := rfl
    rw [Int.neg_tmod, h2, Int.natAbs_neg, Int.natAbs_natCast]
    omega
  · obtain ⟨k, rfl⟩ : ∃ k : Nat, m = (k : Int) := ⟨m.natAbs, by omega⟩
    have h2 : (k : Int).tmod 10 = ((k % 10 : Nat) : Int) := rfl
    rw [h2, Int.natAbs_natCast]
    omega
theorem tdiv_abs (m : Int) : (m.tdiv 10).natAbs = m.natAbs / 10 := by
  rw [Int.natAbs_tdiv]; rfl
theorem tdiv_small (m : Int) (h0 : -9223372036854775808 ≤ m) (h1 : m ≤ 9223372036854775807) : -9223372036854775808 ≤ m.tdiv 10 ∧ m.tdiv 10 ≤ 9223372036854775807 := by
  have := tdiv_abs m
  omega
theorem conv_i8 {H : AHeap} {a : Int} (h0 : 0 ≤ a) (h : a < 256) : convR .u8 (.int .i64 a) H = some (.int .u8 a, H) := by
  simp only [convR, IntKind.wrap, IntKind.bits]
  have : (2 : Int) ^ 8 = 256 := by decide
  simp [IntKind.signed]
  omega

theorem decimal_c {n : Int} (h0 : -9223372036854775808 ≤ n) (h1 : n ≤ 9223372036854775807) : ACall Go.Proofs.Tryz.prog 35 [.int .i64 n] H fun v H' => v = .string (bs (Lib.itoa n)) ∧ H' = H := by
  refine ACall.drop (.string _) ?_
  (refine a35 ?_; simp only [n35, List.replicate, yq, yr, yt, yu]; first | refine q1 ?_ | refine q2 ?_ | refine q6 ?_ | refine q7 ?_ | refine qh rfl ?_ | skip)
  by_cases hz : n = 0
  · subst hz
    (refine yg ?_)
    refine cond_t rfl ?_
    (refine yg ?_)
    refine fin_1 ⟨?_, Ext.refl _⟩
    have : Lib.itoa 0 = [48] := by unfold Lib.itoa; rw [if_neg (by decide), show (0 : Int).toNat = 0 from rfl, Lib.decDigits]; rfl
    rw [this]; rfl
  (repeat (first | refine yw ?_ | ((first | apply yd | apply ye); simp (disch := first|exact zz|fail) only [go_sem, dec_f hz]; with_reducible rfl)))
  refine cond_f rfl ?_
  (refine yx ?_; (first | apply aops_all | apply adraw_all); simp (disch := first|exact zz|fail) only [go_sem]; with_reducible rfl)
  refine awp_seq ?_
  refine awp_mid [true, false, true, true, true, false, false, false, false, false, false, false, false, false, false, false, false, false, false, false, false, false, false, false, false, false, false] (fun e J => J = H ∧ e = [.int .i64 n, junk, .string (bs []), .string (bs []), .string (bs (if n < 0 then [45] else [])), junk, junk, junk, junk, junk, junk, junk, junk, junk, junk, junk, junk, junk, junk, junk, junk, junk, junk, junk, junk, junk, junk]) ?_ ?_
  · by_cases hneg : n < 0
    · (repeat (first | refine yw ?_ | ((first | apply yd | apply ye); simp (disch := first|exact zz|fail) only [go_sem, dec_t hneg]; with_reducible rfl)))
      refine cond_t rfl ?_
      (refine yg ?_)
      exact ⟨rfl, rfl, by simp [forget, hneg]⟩
    · (repeat (first | refine yw ?_ | ((first | apply yd | apply ye); simp (disch := first|exact zz|fail) only [go_sem, dec_f hneg]; with_reducible rfl)))
      refine cond_f rfl ?_
      (refine yg ?_)
      exact ⟨rfl, rfl, by simp [forget, hneg]⟩
  rintro e J ⟨rfl, rfl⟩
  obtain ⟨sg, hsg⟩ : ∃ sg : List UInt8, sg = if n < 0 then [45] else [] := ⟨_, rfl⟩
  have hsl : sg.length ≤ 1 := by rw [hsg]; split <;> simp
  have hit : Lib.itoa n = sg ++ Lib.decDigits n.natAbs := by
    rw [hsg]; unfold Lib.itoa
    split
    · rfl
    · rw [show n.toNat = n.natAbs by omega]; rfl
  rw [← hsg]
  have hdl : (Lib.decDigits n.natAbs).length ≤ 21 := by
    have := Lib.itoa_length_le n h0 h1
    rw [hit, List.length_append] at this
    omega
  refine yx ?_
  refine awp_loop [true, false, true, true, true, false, false, false, false, false, false, false, false, false, false, false, false, false, false, false, false, false, false, false, false, false, false] (fun k e J' => Ext J J' ∧ ∃ (m : Int) (s : List UInt8), k = m.natAbs ∧ (-9223372036854775808 ≤ m ∧ m ≤ 9223372036854775807) ∧ (if m = 0 then s else Lib.decDigits m.natAbs ++ s) = Lib.decDigits n.natAbs ∧
      e = [.int .i64 m, junk, .string (bs []), .string (bs s), .string (bs sg), junk, junk, junk, junk, junk, junk, junk, junk, junk, junk, junk, junk, junk, junk, junk, junk, junk, junk, junk, junk, junk, junk]) n.natAbs ?_ ?_
  · exact ⟨Ext.refl _, n, [], rfl, ⟨h0, h1⟩, by rw [if_neg hz, List.append_nil], by simp [forget]⟩
  rintro k e J' ⟨x1, m, s, rfl, ⟨m0, m1⟩, hs, rfl⟩
  by_cases hm : m = 0
  · rw [if_pos hm] at hs
    subst hs
    (repeat (first | refine yw ?_ | ((first | apply yd | apply ye); simp (disch := first|exact zz|fail) only [go_sem, dec_f (fun h : m ≠ 0 => h hm)]; with_reducible rfl)))
    refine cond_f rfl ?_
    (refine yg ?_)
    refine fin_1 ⟨?_, x1⟩
    rw [hit]; rfl
  have hm' : m ≠ 0 := hm
  rw [if_neg hm] at hs
  have hsl : s.length ≤ 21 := by
    have := congrArg List.length hs
    rw [List.length_append] at this
    omega
  obtain ⟨t0, t1⟩ := tdiv_small m m0 m1
  have tm := tmod_abs m
  have tl := Nat.mod_lt m.natAbs (show 0 < 10 by decide)
  (repeat (first | refine yw ?_ | ((first | apply yd | apply ye); simp (disch := first|exact zz|fail) only [go_sem, dec_t hm']; with_reducible rfl)))
  refine cond_t rfl ?_
  (refine yg ?_)
  refine aops_call_to (size_c (m.tmod 10) (by omega)) ?_
  rw [tm]
  (repeat (first | refine yw ?_ | ((first | apply yd | apply ye); simp (disch := first|exact zz|fail) only [go_sem, conv_i8, w64_id (n := m.tdiv 10) t0 t1]; with_reducible rfl)))
  have e1 : (48 + ((m.natAbs % 10 : Nat) : Int)).toNat = 48 + m.natAbs % 10 := by omega
  refine ⟨_, ?_, (x1.app _), m.tdiv 10, UInt8.ofNat (48 + m.natAbs % 10) :: s, rfl, ⟨t0, t1⟩, ?_, ?_⟩
  · rw [tdiv_abs]; omega
  · rw [tdiv_abs, ← hs]
    by_cases hq : m.tdiv 10 = 0
    · have : m.natAbs < 10 := by
        have := tdiv_abs m
        rw [hq] at this
        have : m.natAbs / 10 = 0 := this.symm
        omega
      rw [if_pos hq, Lib.decDigits_one this, Nat.mod_eq_of_lt this]; rfl
    · have : ¬ m.natAbs < 10 := fun h => hq (by have := tdiv_abs m; omega)
      rw [if_neg hq, dec_step this, List.append_assoc]; rfl
  · rw [← e1]; simp [forget]
end
end Go.Lq

namespace Go.Lq
open Go
open Go.Proofs

def cutL (c : UInt8) : List UInt8 → List (List UInt8)
  | [] => [[]]
  | b :: r => if b = c then [] :: cutL c r else match cutL c r with | x :: xs => (b :: x) :: xs | [] => [[b]]
def cutFrom (c : UInt8) (pre r : List UInt8) : List (List UInt8) := match cutL c r with | x :: xs => (pre ++ x) :: xs | [] => [pre]
theorem cutL_ne (c : UInt8) (l : List UInt8) : ∃ x xs, cutL c l = x :: xs := by
  cases l with
  | nil => exact ⟨_, _, rfl⟩
  | cons b r =>
    unfold cutL
    split
    · exact ⟨_, _, rfl⟩
    · split <;> exact ⟨_, _, rfl⟩
theorem cutFrom_nil (c : UInt8) (l : List UInt8) : cutFrom c [] l = cutL c l := by
  obtain ⟨x, xs, e⟩ := cutL_ne c l
  unfold cutFrom; rw [e]; rfl
theorem cutFrom_end (c : UInt8) (pre : List UInt8) : cutFrom c pre [] = [pre] := by simp [cutFrom, cutL]
theorem cutFrom_hit (c : UInt8) (pre r : List UInt8) : cutFrom c pre (c :: r) = pre :: cutFrom c [] r := by
  rw [cutFrom_nil]
  simp [cutFrom, cutL]
theorem cutFrom_miss {c b : UInt8} (h : b ≠ c) (pre r : List UInt8) : cutFrom c pre (b :: r) = cutFrom c (pre ++ [b]) r := by
  obtain ⟨x, xs, e⟩ := cutL_ne c r
  unfold cutFrom
  rw [cutL, if_neg h, e]
  simp
theorem cutL_piece (c : UInt8) (l : List UInt8) : ∀ x ∈ cutL c l, x.length ≤ l.length := by
  induction l with
  | nil => simp [cutL]
  | cons b r ih =>
    unfold cutL
    split
    · intro x hx
      rcases List.mem_cons.1 hx with rfl | hx
      · simp
      · have := ih x hx; simp; omega
    · obtain ⟨y, ys, e⟩ := cutL_ne c r
      rw [e] at ih ⊢
      intro x hx
      rcases List.mem_cons.1 hx with rfl | hx
      · have := ih y (List.mem_cons_self ..); simp; omega
      · have := ih x (List.mem_cons_of_mem _ hx); simp; omega
section
variable {H : AHeap}
theorem cutR_c {l : List UInt8} {c : UInt8} (hl : l.length ≤ 1000000) : ACall Go.Proofs.Tryz.prog 33 [.string (bs l), .int .u8 (c.toNat : Nat)] H (TxtsRet H (cutL c l)) := by
  refine ACall.txts ?_
  (refine a33 ?_; simp only [n33, List.replicate, yq, yr, yt, yu]; first | refine q1 ?_ | refine q2 ?_ | refine q6 ?_ | refine q7 ?_ | refine qh rfl ?_ | skip)
  (refine yg ?_)
  refine awp_loop_n [true, true, false, false, false, true, true, true, false, false, false, false, false, false, false, false, false, false, false, false, false, false, false, false, false, false, false, false, false, false, false, false, false, false] l.length (fun i e H' => Ext H H' ∧ ∃ (out : List (List UInt8)) (f : Nat) (v : Value), OwnS H H' out v ∧ out.length ≤ i ∧ f ≤ i ∧ cutL c l = out ++ cutFrom c ((l.take i).drop f) (l.drop i) ∧
      e = [.string (bs l), .int .u8 (c.toNat : Nat), junk, junk, junk, v, .int .i64 (f : Nat), .int .i64 (i : Nat), junk, junk, junk, junk, junk, junk, junk, junk, junk, junk, junk, junk, junk, junk, junk, junk, junk, junk, junk, junk, junk, junk, junk, junk, junk, junk]) ?_ ?_
  · exact ⟨Ext.refl _, [], 0, .slice none 0 0, OwnS.nil _ _, by simp, by simp, by simp [cutFrom_nil], by simp [forget]⟩
  rintro i e H' hi ⟨x1, out, f, v, ho, hol, hf, hc, rfl⟩
  (refine yg ?_)
  refine cond_p rfl (fun hlt => ?_) (fun hge => ?_)
  rotate_left 1
  · obtain rfl : i = l.length := by omega
    rw [List.take_length, List.drop_length, cutFrom_end] at hc
    (repeat (first | refine yw ?_ | ((first | apply yd | apply ye); simp (disch := first|exact zz|fail) only [go_sem, ho.push]; with_reducible rfl)))
    refine fin_1 ⟨ho.ext x1 _, ?_⟩
    have := ho.pushed x1 (l.drop f)
    rw [hc]
    exact this
  have hi' : i < l.length := by omega
  have e1 : (i : Int) + 1 = ((i + 1 : Nat) : Int) := by omega
  have hat : at8 l (i : Nat) = ((l.getD i 0).toNat : Nat) := rfl
  rw [drop_getD (d := (0 : UInt8)) hi'] at hc
  by_cases hb : l.getD i 0 = c
  · have hb' : at8 l (i : Nat) = ((c.toNat : Nat) : Int) := by rw [hat, hb]
    rw [hb, cutFrom_hit] at hc
    (repeat (first | refine yw ?_ | ((first | apply yd | apply ye); simp (disch := first|exact zz|fail) only [go_sem, dec_t hb']; with_reducible rfl)))
    refine cond_t rfl ?_
    (repeat (first | refine yw ?_ | ((first | apply yd | apply ye); simp (disch := first|exact zz|fail) only [go_sem, ho.push, e1]; with_reducible rfl)))
    refine ⟨by omega, ho.ext x1 _, out ++ [(l.take i).drop f], i + 1, pushV H' out.length, ho.pushed x1 _, by simp; omega, by omega, ?_, by simp [forget]⟩
    rw [hc, show ((l.take (i + 1)).drop (i + 1)) = [] from List.drop_eq_nil_of_le (by simp; omega), List.append_assoc]
    rfl
  · have hb' : ¬ at8 l (i : Nat) = ((c.toNat : Nat) : Int) := by
      rw [hat]
      intro h
      exact hb (UInt8.toNat_inj.1 (by exact_mod_cast h))
    rw [cutFrom_miss hb] at hc
    (repeat (first | refine yw ?_ | ((first | apply yd | apply ye); simp (disch := first|exact zz|fail) only [go_sem, dec_f hb']; with_reducible rfl)))
    refine cond_f rfl ?_
    (repeat (first | refine yw ?_ | ((first | apply yd | apply ye); simp (disch := first|exact zz|fail) only [go_sem, e1]; with_reducible rfl)))
    refine ⟨by omega, x1, out, f, v, ho, by omega, by omega, ?_, by simp [forget]⟩
    rw [hc]
    congr 1
    rw [List.take_succ_eq_append_getElem hi', List.drop_append_of_le_length (by simp; omega)]
    simp [List.getD, hi']
end
end Go.Lq

namespace Go.Lq
open Go

def allD (l : List UInt8) : Prop := ∀ b ∈ l, 48 ≤ b.toNat ∧ b.toNat ≤ 57
def valF (acc : Nat) (l : List UInt8) : Nat := l.foldl (fun a b => 10 * a + (b.toNat - 48)) acc
theorem valF_cons (acc : Nat) (b : UInt8) (r : List UInt8) : valF acc (b :: r) = valF (10 * acc + (b.toNat - 48)) r := by unfold valF; rw [List.foldl_cons]
theorem valF_snoc (acc : Nat) (l : List UInt8) (b : UInt8) : valF acc (l ++ [b]) = 10 * valF acc l + (b.toNat - 48) := by simp [valF, List.foldl_append]
theorem valF_ge : ∀ (l : List UInt8) (acc : Nat), acc ≤ valF acc l
  | [], acc => Nat.le_refl _
  | b :: r, acc => by rw [valF_cons]; have := valF_ge r (10 * acc + (b.toNat - 48)); omega
theorem digV_all : ∀ (l : List UInt8) (acc : Nat), allD l → digV acc l = some (valF acc l : Nat)
  | [], acc, _ => rfl
  | b :: r, acc, h => by
    have hb := h b (List.mem_cons_self ..)
    rw [digV, if_neg (by omega), valF_cons, ← digV_all r _ fun x hx => h x (List.mem_cons_of_mem _ hx)]
    congr 1
    omega
theorem digV_some : ∀ (l : List UInt8) (acc n : Int), digV acc l = some n → allD l
  | [], _, _, _ => fun b h => by cases h
  | b :: r, acc, n, h => by
    rw [digV] at h
    split at h
    · cases h
    · rename_i hb
      intro x hx
      rcases List.mem_cons.1 hx with rfl | hx
      · omega
      · exact digV_some r _ n h x hx
theorem parse_all : ∀ (l : List UInt8) (acc : Nat), allD l → valF acc l < 9223372036854775808 → Lib.parseUint10 acc l = .ok (valF acc l)
  | [], acc, _, _ => rfl
  | b :: r, acc, h, hv => by
    have hb := h b (List.mem_cons_self ..)
    rw [valF_cons] at hv ⊢
    have hge := valF_ge r (10 * acc + (b.toNat - 48))
    rw [Lib.parseUint10, if_pos hb, if_neg (by omega), if_neg (by omega), Nat.mul_comm acc 10]
    exact parse_all r _ (fun x hx => h x (List.mem_cons_of_mem _ hx)) hv
theorem ofNat_toNat {k : Nat} (h : k < 256) : (UInt8.ofNat k).toNat = k := by
  rw [UInt8.toNat_ofNat']; omega
theorem dec_all (u : Nat) : allD (Lib.decDigits u) ∧ valF 0 (Lib.decDigits u) = u ∧ ∃ b r, Lib.decDigits u = b :: r ∧ (b.toNat = 48 → u = 0) := by
  induction u using Nat.strongRecOn with
  | ind u ih =>
    by_cases h : u < 10
    · rw [Lib.decDigits_one h]
      have e := ofNat_toNat (k := 48 + u) (by omega)
      refine ⟨fun b hb => ?_, ?_, _, _, rfl, ?_⟩
      · rw [List.mem_singleton.1 hb, e]; omega
      · show 10 * 0 + ((UInt8.ofNat (48 + u)).toNat - 48) = u
        rw [e]; omega
      · rw [e]; omega
    · rw [dec_step h]
      obtain ⟨h1, h2, b, r, h3, h4⟩ := ih (u / 10) (by omega)
      have hm := Nat.mod_lt u (show 0 < 10 by decide)
      have e := ofNat_toNat (k := 48 + u % 10) (by omega)
      refine ⟨fun x hx => ?_, ?_, b, r ++ [_], by rw [h3]; rfl, fun hb => by have := h4 hb; omega⟩
      · rcases List.mem_append.1 hx with hx | hx
        · exact h1 x hx
        · rw [List.mem_singleton.1 hx, e]; omega
      · rw [valF_snoc, h2, e]; omega
theorem snoc_ind {p : List UInt8 → Prop} (h0 : p []) (h1 : ∀ l b, p l → p (l ++ [b])) (l : List UInt8) : p l := by
  have : ∀ m : List UInt8, p m.reverse := fun m => by
    induction m with
    | nil => exact h0
    | cons b r ih => rw [List.reverse_cons]; exact h1 _ _ ih
  have := this l.reverse
  rwa [List.reverse_reverse] at this
theorem dec_val (l : List UInt8) : allD l → l ≠ [] → (at8 l 0 = 48 → l.length = 1) → Lib.decDigits (valF 0 l) = l := by
  induction l using snoc_ind with
  | h0 => intro _ h; exact absurd rfl h
  | h1 l b ih =>
    intro hall _ hz
    have hb := hall b (by simp)
    have hl : allD l := fun x hx => hall x (by simp [hx])
    have eb : UInt8.ofNat (48 + (b.toNat - 48)) = b := by
      apply UInt8.toNat_inj.1
      rw [ofNat_toNat (by omega)]; omega
    rw [valF_snoc]
    by_cases hn : l = []
    · subst hn
      show Lib.decDigits (10 * 0 + _) = _
      rw [Nat.mul_zero, Nat.zero_add, Lib.decDigits_one (by omega), eb]
      rfl
    · have hpos : 0 < l.length := List.length_pos_iff.2 hn
      have h0 : at8 (l ++ [b]) 0 = at8 l 0 := by
        unfold at8
        rw [show (0 : Int).toNat = 0 from rfl, getD_append_lt hpos]
      have hnz : at8 l 0 ≠ 48 := fun h => by
        have := hz (by rw [h0]; exact h)
        simp at this
        exact hn this
      have ihl := ih hl hn fun h => absurd h hnz
      have hv : valF 0 l ≠ 0 := fun h => by
        rw [h, Lib.decDigits_one (by decide)] at ihl
        apply hnz
        rw [← ihl]; rfl
      rw [dec_step (by omega), show (10 * valF 0 l + (b.toNat - 48)) / 10 = valF 0 l by omega, show (10 * valF 0 l + (b.toNat - 48)) % 10 = b.toNat - 48 by omega, ihl, eb]

theorem itoa_nat (u : Nat) : Lib.itoa (u : Int) = Lib.decDigits u := by unfold Lib.itoa; rw [if_neg (by omega), Int.toNat_natCast]
theorem atoi_dec {u : Nat} (h : u < 9223372036854775808) : Lib.atoiAll (Lib.decDigits u) = .ok (u : Int) := by
  obtain ⟨h1, h2, b, r, h3, _⟩ := dec_all u
  have hb := h1 b (by rw [h3]; simp)
  rw [h3, Lib.atoiAll_plain b r (by omega) (by omega), ← h3]
  unfold Lib.parseMag
  rw [if_neg (by rw [h3]; simp), parse_all _ _ h1 (by rw [h2]; exact h), h2]
  simp only [Lib.signless]
  rw [if_neg (by omega)]
theorem numP_iff {d n : Int} {l : List UInt8} : numP d l = some n ↔ (0 ≤ n ∧ n ≤ 9223372036854775807 ∧ Lib.itoa n = l ∧ (l.length : Int) ≤ d) := by
  constructor
  · intro h
    unfold numP at h
    split at h
    · rename_i m hm
      split at h
      · rename_i hc
        cases h
        exact ⟨hc.1, (Lib.atoiAll_bounds hm).2, hc.2⟩
      · cases h
    · cases h
  · rintro ⟨h0, h1, h2, h3⟩
    obtain ⟨u, rfl⟩ : ∃ u : Nat, n = u := ⟨n.toNat, by omega⟩
    have e : Lib.atoiAll l = .ok (u : Int) := by rw [← h2, itoa_nat]; exact atoi_dec (by omega)
    unfold numP
    rw [e]
    simp [h2, h3]
theorem numR_iff {d n : Int} {l : List UInt8} (hd : d ≤ 18) : numR d l = some n ↔ (0 ≤ n ∧ Lib.itoa n = l ∧ (l.length : Int) ≤ d) := by
  constructor
  · intro h
    unfold numR at h
    split at h
    · rename_i m hm
      split at h
      · rename_i h45
        cases h
        have hs : signAt l = 0 := by unfold signAt; rw [if_neg (fun h => h45 h.2)]
        unfold numB at hm
        rw [hs] at hm
        split at hm
        · cases hm
        · rename_i hc
          have c1 : ¬ (l.length : Int) = 0 := fun h => hc (.inl h)
          have c2 : ¬ d < (l.length : Int) := fun h => hc (.inr (.inl (by simpa using h)))
          have c3 : ¬ (at8 l 0 = 48 ∧ 1 < (l.length : Int)) := fun h => hc (.inr (.inr h))
          have hm : digV 0 l = some n := by
            cases hv : digV 0 (l.drop 0) with
            | none => rw [hv] at hm; cases hm
            | some k =>
              rw [hv] at hm
              have : k = n := by simpa using hm
              rw [← this]; exact hv
          have hall := digV_some l 0 n hm
          have hv := digV_all l 0 hall
          have e : n = (valF 0 l : Nat) := by
            have : some n = some ((valF 0 l : Nat) : Int) := hm.symm.trans hv
            exact Option.some.inj this
          subst e
          refine ⟨by omega, ?_, by omega⟩
          rw [itoa_nat]
          exact dec_val l hall (fun h => c1 (by rw [h]; rfl)) fun h => by
            have : ¬ 1 < (l.length : Int) := fun h' => c3 ⟨h, h'⟩
            omega
      · cases h
    · cases h
  · rintro ⟨h0, h2, h3⟩
    obtain ⟨u, rfl⟩ : ∃ u : Nat, n = u := ⟨n.toNat, by omega⟩
    rw [itoa_nat] at h2
    obtain ⟨h4, h5, b, r, h6, h7⟩ := dec_all u
    rw [h2] at h4 h5 h6
    have hb := h4 b (by rw [h6]; simp)
    have a0 : at8 l 0 = ((b.toNat : Nat) : Int) := by rw [h6]; rfl
    have hs : signAt l = 0 := by unfold signAt; rw [if_neg (fun h => by have := h.2; omega)]
    have hB : numB d l = some (u : Int) := by
      unfold numB
      rw [hs]
      have hv := digV_all l 0 h4
      rw [h5] at hv
      have hv : digV 0 (l.drop 0) = some (u : Int) := hv
      rw [hv, if_neg]
      · rfl
      · rintro (h | h | ⟨h, h'⟩)
        · rw [h6] at h; simp at h; omega
        · have : d < (l.length : Int) := by simpa using h
          omega
        · have hb48 : b.toNat = 48 := by have : at8 l 0 = 48 := h; omega
          have := h7 hb48
          subst this
          rw [Lib.decDigits_one (by decide)] at h2
          rw [← h2] at h'
          simp at h'
    unfold numR
    rw [hB]
    simp only
    rw [if_pos (by omega)]
theorem numPR {d : Int} {l : List UInt8} (hd : d ≤ 18) : numP d l = numR d l := by
  apply Option.ext
  intro n
  rw [numP_iff, numR_iff hd]
  constructor
  · rintro ⟨h0, _, h2, h3⟩; exact ⟨h0, h2, h3⟩
  · rintro ⟨h0, h2, h3⟩
    refine ⟨h0, ?_, h2, h3⟩
    obtain ⟨u, rfl⟩ : ∃ u : Nat, n = u := ⟨n.toNat, by omega⟩
    rw [itoa_nat] at h2
    have hlt := Lib.lt_pow_nDigits u
    rw [← Lib.decDigits_length, h2] at hlt
    have : (10 : Nat) ^ l.length ≤ 10 ^ 18 := Nat.pow_le_pow_right (by decide) (by omega)
    have h18 : (10 : Nat) ^ 18 = 1000000000000000000 := by decide
    omega
theorem numP_fst {d : Int} {l : List UInt8} {n : Int} (hd : d ≤ 18) (h : numP d l = some n) : (numB d l).getD 0 = n := by
  rw [numPR hd] at h
  unfold numR at h
  split at h
  · rename_i m hm
    split at h
    · cases h; rw [hm]; rfl
    · cases h
  · cases h

/-! ### A text cut -/
theorem index_eq (c : UInt8) (r : List UInt8) : Lib.index (c :: r) [c] = 0 := by simp [Lib.index, List.isPrefixOf]
theorem index_ne {b c : UInt8} (h : b ≠ c) (r : List UInt8) : Lib.index (b :: r) [c] = if Lib.index r [c] = -1 then -1 else Lib.index r [c] + 1 := by
  have : ([c].isPrefixOf (b :: r)) = false := by simp [List.isPrefixOf, h.symm]
  rw [Lib.index, this]
  simp
theorem splitK_ne {b c : UInt8} (h : b ≠ c) (k : Nat) (r : List UInt8) : Lib.splitK [c] 0 k (b :: r) = match Lib.splitK [c] 0 k r with | x :: xs => (b :: x) :: xs | [] => [[b]] := by
  cases k with
  | zero => rfl
  | succ k =>
    have hg := Lib.index_ge r [c]
    simp only [Lib.splitK, index_ne h]
    by_cases hm : Lib.index r [c] = -1
    · simp [hm]
    · rw [if_neg hm]
      have e1 : ¬ (Lib.index r [c] + 1 == -1) = true := by simp; omega
      have e2 : ¬ (Lib.index r [c] == -1) = true := by simp [hm]
      rw [if_neg e1, if_neg e2]
      have e3 : (Lib.index r [c] + 1).toNat = (Lib.index r [c]).toNat + 1 := by omega
      rw [e3]
      simp [Nat.add_right_comm]
theorem splitK_eq (c : UInt8) (k : Nat) (r : List UInt8) : Lib.splitK [c] 0 (k + 1) (c :: r) = [] :: Lib.splitK [c] 0 k r := by
  simp only [Lib.splitK, index_eq]
  simp
theorem split_cutL (c : UInt8) (l : List UInt8) : Lib.split l [c] = cutL c l := by
  unfold Lib.split
  induction l with
  | nil =>
    have : Lib.count [] [c] = 0 := by rw [Lib.count_one]; rfl
    rw [this]; rfl
  | cons b r ih =>
    by_cases h : b = c
    · subst h
      rw [Lib.count_cons_eq, Nat.add_comm 1, splitK_eq, ih, cutL, if_pos rfl]
    · obtain ⟨x, xs, e⟩ := cutL_ne c r
      have e1 : Lib.splitK [c] 0 (Lib.count (b :: r) [c]) (b :: r) = (b :: x) :: xs := by rw [Lib.count_cons_ne _ _ _ h, splitK_ne h, ih, e]
      have e2 : cutL c (b :: r) = (b :: x) :: xs := by rw [cutL, if_neg h, e]
      rw [e1, e2]
end Go.Lq

namespace Go.Lq
open Go
open Go.Proofs

def i64 (n : Int) : Prop := -9223372036854775808 ≤ n ∧ n ≤ 9223372036854775807
def markT (x : Mark) : List UInt8 := Lib.itoa x.1 ++ [32] ++ Lib.itoa x.2.1 ++ [32] ++ Lib.itoa x.2.2
theorem join3 (a b c m : List UInt8) : Lib.join [a, b, c] m = a ++ m ++ b ++ m ++ c := by
  rw [Lib.join_cons]
  simp [Lib.joinTail, List.append_assoc]
def parseMarkL (l : List UInt8) : Mark × Int :=
  match cutL 32 l with
  | [a, b, c] => match numP 13 a, numP 13 b, numP 13 c with
    | some x, some y, some z => if markE (x, y, z) = 0 then ((x, y, z), 0) else ((0, 0, 0), markE (x, y, z))
    | _, _, _ => ((0, 0, 0), 7)
  | _ => ((0, 0, 0), 7)
section
variable {H : AHeap}
theorem formatMark_c (hs : StrH H) {x : Mark} (h1 : i64 x.1) (h2 : i64 x.2.1) (h3 : i64 x.2.2) : ACall Go.Proofs.Tryz.prog 14 [markV x] H fun v H' => v = .string (bs (markT x)) ∧ H' = H := by
  refine ACall.drop (.string _) ?_
  have b1 := Lib.itoa_length_le x.1 h1.1 h1.2
  have b2 := Lib.itoa_length_le x.2.1 h2.1 h2.2
  have b3 := Lib.itoa_length_le x.2.2 h3.1 h3.2
  (refine a14 ?_; simp only [n14, List.replicate, yq, yr, yt, yu]; first | refine q1 ?_ | refine q2 ?_ | refine q6 ?_ | refine q7 ?_ | refine qh rfl ?_ | skip)
  have g0 : (H ++ [AObj.cells true 0 (markC x)])[H.length]? = some (.cells true 0 (markC x)) := at_new
  have xG : Ext H (H ++ [AObj.cells true 0 (markC x)]) := (Ext.refl H).app _
  (repeat (first | refine yv ?_ | (apply yd; simp (disch := first|exact zz|fail) only [go_sem, box_mark]; with_reducible rfl)))
  generalize (H ++ [AObj.cells true 0 (markC x)] : AHeap) = G at g0 xG
  have hsG := hs.ext xG
  (repeat (first | refine yw ?_ | ((first | apply yd | apply ye); simp (disch := first|exact zz|fail) only [go_sem, load_at g0, markC]; with_reducible rfl)))
  (refine adraw_call (N := []) (firstD (itoa_c hsG h1.1 h1.2)) ?_; rw [List.append_nil])
  (repeat (first | refine yw ?_ | ((first | apply yd | apply ye); simp (disch := first|exact zz|fail) only [go_sem, load_at g0, markC]; with_reducible rfl)))
  (refine adraw_call (N := []) (firstD (itoa_c hsG h2.1 h2.2)) ?_; rw [List.append_nil])
  (repeat (first | refine yw ?_ | ((first | apply yd | apply ye); simp (disch := first|exact zz|fail) only [go_sem, load_at g0, markC]; with_reducible rfl)))
  (refine adraw_call (N := []) (firstD (itoa_c hsG h3.1 h3.2)) ?_; rw [List.append_nil])
  (refine yg ?_)
  (refine adraw_call (N := []) (firstD (join_c (ll := [Lib.itoa x.1, Lib.itoa x.2.1, Lib.itoa x.2.2]) (m := [32]) (Sl.last (vs := strs [Lib.itoa x.1, Lib.itoa x.2.1, Lib.itoa x.2.2]) rfl 3) (by simp) (by rw [join3]; simp; omega))) ?_; rw [List.append_nil])
  (refine yg ?_)
  refine fin_1 ⟨?_, xG.app _⟩
  rw [join3]
  rfl
theorem rFormatMark_c {x : Mark} (h1 : i64 x.1) (h2 : i64 x.2.1) (h3 : i64 x.2.2) : ACall Go.Proofs.Tryz.prog 17 [markV x] H fun v H' => v = .string (bs (markT x)) ∧ H' = H := by
  refine ACall.drop (.string _) ?_
  have b1 := Lib.itoa_length_le x.1 h1.1 h1.2
  have b2 := Lib.itoa_length_le x.2.1 h2.1 h2.2
  have b3 := Lib.itoa_length_le x.2.2 h3.1 h3.2
  (refine a17 ?_; simp only [n17, List.replicate, yq, yr, yt, yu]; first | refine q1 ?_ | refine q2 ?_ | refine q6 ?_ | refine q7 ?_ | refine qh rfl ?_ | skip)
  have g0 : (H ++ [AObj.cells true 0 (markC x)])[H.length]? = some (.cells true 0 (markC x)) := at_new
  have xG : Ext H (H ++ [AObj.cells true 0 (markC x)]) := (Ext.refl H).app _
  (repeat (first | refine yv ?_ | (apply yd; simp (disch := first|exact zz|fail) only [go_sem, box_mark]; with_reducible rfl)))
  generalize (H ++ [AObj.cells true 0 (markC x)] : AHeap) = G at g0 xG
  (repeat (first | refine yw ?_ | ((first | apply yd | apply ye); simp (disch := first|exact zz|fail) only [go_sem, load_at g0, markC]; with_reducible rfl)))
  (refine adraw_call (N := []) (firstD (decimal_c h1.1 h1.2)) ?_; rw [List.append_nil])
  (repeat (first | refine yw ?_ | ((first | apply yd | apply ye); simp (disch := first|exact zz|fail) only [go_sem, load_at g0, markC, List.length_append]; with_reducible rfl)))
  (refine adraw_call (N := []) (firstD (decimal_c h2.1 h2.2)) ?_; rw [List.append_nil])
  (repeat (first | refine yw ?_ | ((first | apply yd | apply ye); simp (disch := first|exact zz|fail) only [go_sem, load_at g0, markC, List.length_append]; with_reducible rfl)))
  (refine adraw_call (N := []) (firstD (decimal_c h3.1 h3.2)) ?_; rw [List.append_nil])
  (repeat (first | refine yw ?_ | ((first | apply yd | apply ye); simp (disch := first|exact zz|fail) only [go_sem, List.length_append]; with_reducible rfl)))
  refine fin_1 ⟨rfl, xG⟩
end
end Go.Lq

namespace Go.Lq
open Go
open Go.Proofs
theorem cells3 : Tryz.prog.cellsOf 3 = 1 := by kernel_rfl
theorem cellsRange : Tryz.prog.cellsOf 38 = 2 := by kernel_rfl
theorem cellsMark : Tryz.prog.cellsOf 40 = 3 := by kernel_rfl
theorem i64_of {n : Int} (h : InI64 n) : i64 n := by unfold InI64 at h; unfold i64; omega
theorem Rep.str_inv {P : Program} {H : AHeap} {t : TypeId} {vs : List Value} (ht : P.underlying t = some .string) (h : Rep P H t vs) : ∃ s, vs = [.string s] ∧ s.size ≤ maxLen := by
  cases h with
  | string h hs => exact ⟨_, rfl, hs⟩
  | bool h => rw [ht] at h; cases h
  | int h => rw [ht] at h; cases h
  | nil h => rw [ht] at h; cases h
  | empty h => rw [ht] at h; cases h
  | slice h => rw [ht] at h; cases h
  | struct h => rw [ht] at h; cases h
  | array h => rw [ht] at h; cases h
theorem RepA.str {P : Program} {H : AHeap} {t : TypeId} {v : Value} (ht : P.underlying t = some .string) (h : RepA P H t v) : ∃ l : List UInt8, v = .string (bs l) ∧ l.length ≤ maxLen := by
  obtain ⟨s, e, hs⟩ := (h.flat (fun _ e => by rw [ht] at e; cases e) (fun _ _ e => by rw [ht] at e; cases e)).str_inv ht
  cases e
  refine ⟨s.data.toList, by rw [← bs_of], ?_⟩
  have : s.size = s.data.toList.length := by cases s; simp [ByteArray.size]
  omega
set_option maxRecDepth 100000 in
theorem repMarkA {H : AHeap} {v : Value} (h : RepA Tryz.prog H 40 v) : ∃ x : Mark, v = markV x ∧ i64 x.1 ∧ i64 x.2.1 ∧ i64 x.2.2 := by
  obtain ⟨vs, rfl, hr⟩ := h.struct Tryz.underlying40
  obtain ⟨hl, hf⟩ := hr.struct_inv Tryz.underlying40
  rw [cellsMark] at hl
  match vs, hl with
  | [x, y, z], _ =>
    have h0 : Rep Tryz.prog H 3 (([x, y, z].drop 0).take (Tryz.prog.cellsOf 3)) := hf 0 _ rfl
    have h1 : Rep Tryz.prog H 38 (([x, y, z].drop 1).take (Tryz.prog.cellsOf 38)) := hf 1 _ rfl
    rw [cells3] at h0
    rw [cellsRange] at h1
    obtain ⟨a, e0, w0⟩ := h0.int_inv Tryz.underlying3
    obtain ⟨b, c, e1, w1, w2⟩ := h1.pair Tryz.underlying38 cellsRange rfl rfl rfl rfl Tryz.underlying3 Tryz.underlying3 cells3 cells3
    have e0' : [x] = [.int .i64 a] := e0
    have e1' : [y, z] = [.int .i64 b, .int .i64 c] := e1
    cases e0'; cases e1'
    exact ⟨(a, b, c), rfl, i64_of (wf_i64 w0), i64_of w1, i64_of w2⟩
end Go.Lq

namespace Go.Lq
open Go
open Go.Proofs

def nilCR (x : Value) (H : AHeap) : Option (Value × AHeap) := match x with | .pointer (some a) => some (.pointer (some a), H) | .func (.func f) xs ys => some (.func (.func f) xs ys, H) | _ => none
theorem r_nilCR {x : Operand} {ρ : Operand → Value} {H : AHeap} : ropRun (.nilCheck x) ρ H = nilCR (ρ x) H := rfl
theorem nilC_p {a : Addr} {H : AHeap} : nilCR (.pointer (some a)) H = some (.pointer (some a), H) := rfl
def idxAgg (len : Nat) (x i : Value) (H : AHeap) : Option (Value × AHeap) := match x, i with | .agg cs, .int _ n => if 0 ≤ n ∧ n < len then (cs[n.toNat]?).map fun v => (v, H) else none | _, _ => none
theorem r_idxAgg {len : Nat} {x y : Operand} {ρ : Operand → Value} {H : AHeap} : ropRun (.idxA len x y) ρ H = idxAgg len (ρ x) (ρ y) H := rfl
attribute [go_sem] r_nilCR nilC_p r_idxAgg

theorem three {α : Type} {l : List α} (h : l.length = 3) : ∃ a b c, l = [a, b, c] := by
  match l, h with
  | [a, b, c], _ => exact ⟨a, b, c, rfl⟩
def ptr3 (k : Nat) : List Value := [.pointer (some ⟨k, 0, none⟩), .pointer (some ⟨k, 1, none⟩), .pointer (some ⟨k, 2, none⟩)]
def ints3 (a b c : Int) : List Value := [.int .i64 a, .int .i64 b, .int .i64 c]
theorem closed2 {a b : Value} (h1 : Closed a) (h2 : Closed b) : Closed (.tuple #[a, b]) := .tuple _ fun i v hv => by
  match i with
  | 0 => simp at hv; subst hv; exact h1
  | 1 => simp at hv; subst hv; exact h2
  | i + 2 => simp at hv
theorem closed_mark (x : Mark) : Closed (markV x) := .agg _ fun i v hv => by
  match i with
  | 0 => simp at hv; subst hv; exact .int _ _
  | 1 => simp at hv; subst hv; exact .int _ _
  | 2 => simp at hv; subst hv; exact .int _ _
  | i + 3 => simp at hv
theorem store_p3 {H : AHeap} {p q r : Addr} {x y z : Value} {e : Nat} : storeR 3 (.pointer (some ⟨H.length, 0, none⟩)) (.agg ⟨[.pointer (some p), .pointer (some q), .pointer (some r)]⟩) (H ++ [.cells true e [x, y, z]]) =
    some (undef, H ++ [.cells true e [.pointer (some p), .pointer (some q), .pointer (some r)]]) := store_new (us := [.pointer (some p), .pointer (some q), .pointer (some r)]) rfl rfl
theorem store_r3 {J : AHeap} {id : Nat} {a b c x y z : Int} (h : J[id]? = some (.cells true 0 (ints3 x y z))) : storeR 3 (.pointer (some ⟨id, 0, none⟩)) (.agg ⟨[.int .i64 a, .int .i64 b, .int .i64 c]⟩) J = some (undef, J.set id (.cells true 0 (ints3 a b c))) :=
  store_all (us := ints3 a b c) h rfl rfl rfl
theorem load_r3 {J : AHeap} {id : Nat} {a b c : Int} (h : J[id]? = some (.cells true 0 (ints3 a b c))) : loadNR 3 (.pointer (some ⟨id, 0, none⟩)) J = some (markV (a, b, c), J) := loadN_at h (by simp [ints3])
theorem load_p3 {J : AHeap} {id k : Nat} (h : J[id]? = some (.cells true 0 (ptr3 k))) : loadNR 3 (.pointer (some ⟨id, 0, none⟩)) J = some (.agg ⟨ptr3 k⟩, J) := loadN_at h (by simp [ptr3])
theorem parse_no3 {l : List UInt8} (h : (cutL 32 l).length ≠ 3) : parseMarkL l = ((0, 0, 0), 7) := by
  unfold parseMarkL
  split
  · rename_i e; rw [e] at h; exact absurd rfl h
  · rfl
theorem parse_3 {l a b c : List UInt8} (h : cutL 32 l = [a, b, c]) : parseMarkL l = match numP 13 a, numP 13 b, numP 13 c with
    | some x, some y, some z => if markE (x, y, z) = 0 then ((x, y, z), 0) else ((0, 0, 0), markE (x, y, z))
    | _, _, _ => ((0, 0, 0), 7) := by
  unfold parseMarkL
  rw [h]
  first | done | rfl
theorem Txts.of_cells {J : AHeap} {id c : Nat} {o : Bool} {e : Nat} {pl : List (List UInt8)} (h : J[id]? = some (.cells o e (strs pl))) : Txts J pl (.slice (some ⟨id, 0, none⟩) pl.length c) := by
  refine ⟨by simp [strs], .inr ⟨id, 0, c, rfl, fun _ => ?_⟩⟩
  unfold cellsAt
  rw [h]
  simp only [List.drop_zero, Nat.zero_add, Nat.mul_one, strs_length, Nat.le_refl, if_true]
  rw [List.take_of_length_le (by rw [strs_length]; exact Nat.le_refl _)]
def Found (pl : List (List UInt8)) (i : Nat) (a b c : Int) : Prop := (i = 0 ∧ a = 0 ∧ b = 0 ∧ c = 0) ∨ (i = 1 ∧ numP 13 (pl.getD 0 []) = some a ∧ b = 0 ∧ c = 0) ∨ (i = 2 ∧ numP 13 (pl.getD 0 []) = some a ∧ numP 13 (pl.getD 1 []) = some b ∧ c = 0) ∨
  (i = 3 ∧ numP 13 (pl.getD 0 []) = some a ∧ numP 13 (pl.getD 1 []) = some b ∧ numP 13 (pl.getD 2 []) = some c)
theorem parse_bad {l : List UInt8} {i : Nat} (h : (cutL 32 l).length = 3) (hi : i < 3) (hn : numP 13 ((cutL 32 l).getD i []) = none) : parseMarkL l = ((0, 0, 0), 7) := by
  obtain ⟨a, b, c, e⟩ := three h
  rw [e] at hn
  rw [parse_3 e]
  match i, hi with
  | 0, _ => have hn : numP 13 a = none := hn; rw [hn]
  | 1, _ =>
    have hn : numP 13 b = none := hn
    rw [hn]; cases numP 13 a <;> rfl
  | 2, _ =>
    have hn : numP 13 c = none := hn
    rw [hn]; cases numP 13 a <;> cases numP 13 b <;> rfl
section
variable {H : AHeap}
set_option maxHeartbeats 2000000 in
theorem parseMark_c (hs : StrH H) {l : List UInt8} (hl : l.length ≤ 1000000) : ACall Go.Proofs.Tryz.prog 15 [.string (bs l)] H fun v H' =>
    v = .tuple #[markV (parseMarkL l).1, .int .i64 (parseMarkL l).2] ∧ H' = H := by
  refine ACall.drop (closed2 (closed_mark _) (.int _ _)) ?_
  (refine a15 ?_; simp only [n15, List.replicate, yq, yr, yt, yu]; first | refine q1 ?_ | refine q2 ?_ | refine q6 ?_ | refine q7 ?_ | refine qh rfl ?_ | skip)
  (repeat (first | refine yw ?_ | ((first | apply yd | apply ye); simp (disch := first|exact zz|fail) only [go_sem, store_p3]; with_reducible rfl)))
  obtain ⟨G, hG⟩ : ∃ G, G = H ++ [AObj.cells true 0 [.int .i64 0, .int .i64 0, .int .i64 0]] ++ [AObj.cells true 0 [.int .i64 0, .int .i64 0, .int .i64 0]] ++ [AObj.cells true 0 [.pointer (some ⟨H.length + 1, 0, none⟩), .pointer (some ⟨H.length + 1, 1, none⟩), .pointer (some ⟨H.length + 1, 2, none⟩)]] := ⟨_, rfl⟩
  have g0 : G[H.length]? = some (.cells true 0 (ints3 0 0 0)) := by rw [hG]; simp [ints3]
  have g1 : G[H.length + 1]? = some (.cells true 0 (ints3 0 0 0)) := by rw [hG]; simp [ints3]
  have g2 : G[H.length + 2]? = some (.cells true 0 (ptr3 (H.length + 1))) := by rw [hG]; simp [ptr3]
  have lG : G.length = H.length + 3 := by rw [hG]; simp
  have xG : Ext H G := by rw [hG]; exact (((Ext.refl H).app _).app _).app _
  (simp only [List.length_append, List.length_cons, List.length_nil, Nat.zero_add, Nat.add_assoc, Nat.reduceAdd])
  rw [← hG]
  clear hG
  refine aops_call_to (split_c (hs.ext xG) (m := [32]) (by omega) (by simp)) ?_
  rw [split_cutL]
  obtain ⟨pl, hpl⟩ : ∃ pl, pl = cutL 32 l := ⟨_, rfl⟩
  rw [← hpl]
  have hpm : ∀ x ∈ pl, x.length ≤ 1000000 := fun x hx => by have := cutL_piece 32 l x (by rw [← hpl]; exact hx); omega
  obtain ⟨J, hJ⟩ : ∃ J, J = G ++ [AObj.cells true 1 (strs pl)] := ⟨_, rfl⟩
  have k3 : J[H.length + 3]? = some (.cells true 1 (strs pl)) := by rw [hJ, ← lG]; exact at_new
  have k0 : J[H.length]? = some (.cells true 0 (ints3 0 0 0)) := by rw [hJ]; exact at_app g0
  have k1 : J[H.length + 1]? = some (.cells true 0 (ints3 0 0 0)) := by rw [hJ]; exact at_app g1
  have k2 : J[H.length + 2]? = some (.cells true 0 (ptr3 (H.length + 1))) := by rw [hJ]; exact at_app g2
  have xJ : Ext H J := by rw [hJ]; exact xG.app _
  rw [← hJ]
  have tJs : ∀ {J' : AHeap}, J'[H.length + 3]? = some (.cells true 1 (strs pl)) → Txts J' pl (.slice (some ⟨G.length, 0, none⟩) pl.length pl.length) := fun h => by rw [lG]; exact Txts.of_cells h
  generalize (Value.slice (some ⟨G.length, 0, none⟩) pl.length pl.length) = sv at tJs
  have tJ := tJs k3
  clear hJ g0 g1 g2
  by_cases h3 : pl.length = 3
  rotate_left 1
  · rw [parse_no3 (by rw [← hpl]; exact h3)]
    (repeat (first | refine yw ?_ | ((first | apply yd | apply ye); simp (disch := first|exact zz|fail) only [go_sem, tJ.len, tJ.idx, tJ.load, dec_t (show ((pl.length : Nat) : Int) ≠ 3 by omega)]; with_reducible rfl)))
    refine cond_t rfl ?_
    (repeat (first | refine yw ?_ | ((first | apply yd | apply ye); simp (disch := first|exact zz|fail) only [go_sem, store_r3 k0]; with_reducible rfl)))
    exact fin_l2 (load_r3 (get_set_self k0)) ⟨rfl, xJ.set (by omega) _⟩
  (repeat (first | refine yw ?_ | ((first | apply yd | apply ye); simp (disch := first|exact zz|fail) only [go_sem, tJ.len, tJ.idx, tJ.load, dec_f (show ¬ ((pl.length : Nat) : Int) ≠ 3 by omega)]; with_reducible rfl)))
  refine cond_f rfl ?_
  (repeat (first | refine yw ?_ | ((first | apply yd | apply ye); simp (disch := first|exact zz|fail) only [go_sem, load_p3 k2]; with_reducible rfl)))
  refine awp_loop_n [true, false, true, true, true, false, true, false, false, false, false, false, false, false, false, false, false, false, false, false, false, false, false, false, true, true, false, false, false, false, false, false, false, false, false, false, false, false, false, false, false, false, false, false, false, false, false, false, false, false, false] 3 (fun i e J' => ∃ a b c, e = [.string (bs l), junk, .pointer (some ⟨H.length, 0, none⟩), .int .i64 0, .pointer (some ⟨H.length + 1, 0, none⟩), junk, sv, junk, junk, junk, junk, junk, junk, junk, junk, junk, junk, junk, junk, junk, junk, junk, junk, junk, .agg ⟨ptr3 (H.length + 1)⟩, .int .i64 (i : Nat), junk, junk, junk, junk, junk, junk, junk, junk, junk, junk, junk, junk, junk, junk, junk, junk, junk, junk, junk, junk, junk, junk, junk, junk, junk] ∧ Found pl i a b c ∧ Ext H J' ∧ J'[H.length + 3]? = some (.cells true 1 (strs pl)) ∧
      J'[H.length]? = some (.cells true 0 (ints3 0 0 0)) ∧ J'[H.length + 1]? = some (.cells true 0 (ints3 a b c))) ?_ ?_
  · exact ⟨0, 0, 0, by simp [forget], .inl ⟨rfl, rfl, rfl, rfl⟩, xJ, k3, k0, k1⟩
  rintro i e J' hi ⟨a, b, c, rfl, hf, x1, k3', k0', k1'⟩
  have t1 := tJs k3'
  (refine yg ?_)
  refine cond_p rfl (fun hlt => ?_) (fun hge => ?_)
  rotate_left 1
  · obtain rfl : i = 3 := by omega
    have hf : numP 13 (pl.getD 0 []) = some a ∧ numP 13 (pl.getD 1 []) = some b ∧ numP 13 (pl.getD 2 []) = some c := by
      rcases hf with h | h | h | h
      · omega
      · omega
      · omega
      · exact h.2
    have hp : parseMarkL l = if markE (a, b, c) = 0 then ((a, b, c), 0) else ((0, 0, 0), markE (a, b, c)) := by
      obtain ⟨p, q, r, e⟩ := three (l := cutL 32 l) (by rw [← hpl]; exact h3)
      rw [hpl, e] at hf
      obtain ⟨e1, e2, e3⟩ := hf
      have e1 : numP 13 p = some a := e1
      have e2 : numP 13 q = some b := e2
      have e3 : numP 13 r = some c := e3
      rw [parse_3 e, e1, e2, e3]
      first | done | rfl
    (repeat (first | refine yw ?_ | ((first | apply yd | apply ye); simp (disch := first|exact zz|fail) only [go_sem, load_r3 k1']; with_reducible rfl)))
    refine aops_call_to (markErr_c (a, b, c)) ?_
    by_cases he : markE (a, b, c) = 0
    · rw [if_pos he] at hp
      rw [hp, he]
      (refine yg ?_)
      refine cond_f rfl ?_
      (repeat (first | refine yw ?_ | ((first | apply yd | apply ye); simp (disch := first|exact zz|fail) only [go_sem, load_r3 k1', markV, store_r3 k0']; with_reducible rfl)))
      exact fin_l2 (load_r3 (get_set_self k0')) ⟨rfl, x1.set (by omega) _⟩
    · rw [if_neg he] at hp
      rw [hp]
      (repeat (first | refine yw ?_ | ((first | apply yd | apply ye); simp (disch := first|exact zz|fail) only [go_sem, dec_t (show markE (a, b, c) ≠ 0 from he)]; with_reducible rfl)))
      refine cond_t rfl ?_
      (repeat (first | refine yw ?_ | ((first | apply yd | apply ye); simp (disch := first|exact zz|fail) only [go_sem, store_r3 k0']; with_reducible rfl)))
      exact fin_l2 (load_r3 (get_set_self k0')) ⟨rfl, x1.set (by omega) _⟩
  have hi3 : i < 3 := by omega
  have e1 : (i : Int) + 1 = ((i + 1 : Nat) : Int) := by omega
  have hix : idxAgg 3 (.agg ⟨ptr3 (H.length + 1)⟩) (.int .i64 (i : Nat)) J' = some (.pointer (some ⟨H.length + 1, i, none⟩), J') := by
    match i, hi3 with
    | 0, _ => rfl
    | 1, _ => rfl
    | 2, _ => rfl
  (repeat (first | refine yw ?_ | ((first | apply yd | apply ye); simp (disch := first|exact zz|fail) only [go_sem, t1.len, t1.idx, t1.load, hix]; with_reducible rfl)))
  refine aops_call ((number_c (hs.ext x1) (l := pl.getD i []) (d := 13) (by
    have : pl.getD i [] ∈ pl := by rw [List.getD_eq_getElem?_getD, List.getElem?_eq_getElem (by omega)]; exact List.getElem_mem _
    have := hpm _ this
    omega)).mono fun v H1 ⟨⟨n, hv, hn⟩, e⟩ => ?_)
  subst e
  subst hv
  cases hr : numP 13 (pl.getD i []) with
  | none =>
    rw [parse_bad (by rw [← hpl]; exact h3) hi3 (by rw [← hpl]; exact hr)]
    (repeat (first | refine yw ?_ | ((first | apply yd | apply ye); simp (disch := first|exact zz|fail) only [go_sem, Option.isSome_none]; with_reducible rfl)))
    refine cond_t rfl ?_
    (repeat (first | refine yw ?_ | ((first | apply yd | apply ye); simp (disch := first|exact zz|fail) only [go_sem, store_r3 k0']; with_reducible rfl)))
    exact fin_l2 (load_r3 (get_set_self k0')) ⟨rfl, x1.set (by omega) _⟩
  | some m =>
    obtain rfl := hn m hr
    have hst : ∃ a' b' c', storeR 1 (.pointer (some ⟨H.length + 1, i, none⟩)) (.int .i64 n) H1 = some (undef, H1.set (H.length + 1) (.cells true 0 (ints3 a' b' c'))) ∧ Found pl (i + 1) a' b' c' := by
      have hs1 : ∀ vs', setCells (ints3 a b c) i [.int .i64 n] = vs' → storeR 1 (.pointer (some ⟨H.length + 1, i, none⟩)) (.int .i64 n) H1 = some (undef, H1.set (H.length + 1) (.cells true 0 vs')) := fun vs' hv => by
        have ec : (Value.int .i64 n).cells.toList = [.int .i64 n] := rfl
        have ec2 : (Value.int .i64 n).cells.size = 1 := rfl
        have ec3 : i + 1 ≤ (ints3 a b c).length := hi3
        have ec4 : ([Value.int .i64 n].all isAtom) = true := rfl
        simp only [storeR, ec, ec2, if_true, storeAt, k1', List.length_cons, List.length_nil, Nat.zero_add, ec3, ec4, and_self, Option.map_some, hv]
      rcases hf with ⟨rfl, rfl, rfl, rfl⟩ | ⟨rfl, f0, rfl, rfl⟩ | ⟨rfl, f0, f1, rfl⟩ | ⟨rfl, _⟩
      · exact ⟨n, 0, 0, hs1 _ rfl, .inr (.inl ⟨rfl, hr, rfl, rfl⟩)⟩
      · exact ⟨a, n, 0, hs1 _ rfl, .inr (.inr (.inl ⟨rfl, f0, hr, rfl⟩))⟩
      · exact ⟨a, b, n, hs1 _ rfl, .inr (.inr (.inr ⟨rfl, f0, f1, hr⟩))⟩
      · omega
    obtain ⟨a', b', c', hst, hf'⟩ := hst
    (repeat (first | refine yw ?_ | ((first | apply yd | apply ye); simp (disch := first|exact zz|fail) only [go_sem, Option.isSome_some]; with_reducible rfl)))
    refine cond_f rfl ?_
    (repeat (first | refine yw ?_ | ((first | apply yd | apply ye); simp (disch := first|exact zz|fail) only [go_sem, hst, e1]; with_reducible rfl)))
    refine ⟨by omega, a', b', c', by simp [forget], hf', x1.set (by omega) _, ?_, ?_, get_set_self k1'⟩
    · rw [List.getElem?_set_ne (by omega)]; exact k3'
    · rw [List.getElem?_set_ne (by omega)]; exact k0'
end
end Go.Lq

namespace Go.Lq
open Go
open Go.Proofs

section
variable {H : AHeap}
theorem cut32_c {l : List UInt8} (hl : l.length ≤ 1000000) : ACall Go.Proofs.Tryz.prog 33 [.string (bs l), .int .u8 32] H fun v H' =>
    v = .slice (some ⟨H.length, 0, none⟩) (cutL 32 l).length (cutL 32 l).length ∧ H' = H ++ [.cells true 1 (strs (cutL 32 l))] :=
  (cutR_c (c := 32) hl).mono fun v H' ⟨h1, h2⟩ => by
    obtain ⟨x, xs, e⟩ := cutL_ne 32 l
    have : (cutL 32 l).length ≠ 0 := by rw [e]; simp
    rw [h1, h2]
    unfold retV retN
    rw [if_neg this, if_neg this]
    exact ⟨rfl, rfl⟩
theorem refNum2_c {l : List UInt8} {d : Int} (hd : d ≤ 18) (hl : l.length ≤ 1000000) : ACall Go.Proofs.Tryz.prog 34 [.string (bs l), .int .i64 d] H fun v H' => NumRes d l v ∧ H' = H :=
  (refNum_c hd hl).mono fun v H' ⟨h1, h2⟩ => ⟨⟨_, by rw [h1, numPR hd], fun m hm => numP_fst hd hm⟩, h2⟩
set_option maxHeartbeats 2000000 in
theorem rParseMark_c {l : List UInt8} (hl : l.length ≤ 1000000) : ACall Go.Proofs.Tryz.prog 16 [.string (bs l)] H fun v H' =>
    v = .tuple #[markV (parseMarkL l).1, .int .i64 (parseMarkL l).2] ∧ H' = H := by
  refine ACall.drop (closed2 (closed_mark _) (.int _ _)) ?_
  (refine a16 ?_; simp only [n16, List.replicate, yq, yr, yt, yu]; first | refine q1 ?_ | refine q2 ?_ | refine q6 ?_ | refine q7 ?_ | refine qh rfl ?_ | skip)
  (refine yg ?_)
  refine aops_call_to (cut32_c hl) ?_
  obtain ⟨pl, hpl⟩ : ∃ pl, pl = cutL 32 l := ⟨_, rfl⟩
  rw [← hpl]
  have hpm : ∀ x ∈ pl, x.length ≤ 1000000 := fun x hx => by have := cutL_piece 32 l x (by rw [← hpl]; exact hx); omega
  (refine yg ?_)
  obtain ⟨J, hJ⟩ : ∃ J, J = H ++ [AObj.cells true 0 [.int .i64 0, .int .i64 0, .int .i64 0]] ++ [AObj.cells true 1 (strs pl)] ++ [AObj.cells true 0 [.int .i64 0, .int .i64 0, .int .i64 0]] := ⟨_, rfl⟩
  have k0 : J[H.length]? = some (.cells true 0 (ints3 0 0 0)) := by rw [hJ]; simp [ints3]
  have k1 : J[H.length + 2]? = some (.cells true 0 (ints3 0 0 0)) := by rw [hJ]; simp [ints3]
  have k3 : J[H.length + 1]? = some (.cells true 1 (strs pl)) := by rw [hJ]; simp
  have xJ : Ext H J := by rw [hJ]; exact (((Ext.refl H).app _).app _).app _
  have lJ : J.length = H.length + 3 := by rw [hJ]; simp
  (simp only [List.length_append, List.length_cons, List.length_nil, Nat.zero_add, Nat.add_assoc, Nat.reduceAdd])
  rw [← hJ]
  have tJs : ∀ {J' : AHeap}, J'[H.length + 1]? = some (.cells true 1 (strs pl)) → Txts J' pl (.slice (some ⟨H.length + 1, 0, none⟩) pl.length pl.length) := fun h => Txts.of_cells h
  generalize (Value.slice (some ⟨H.length + 1, 0, none⟩) pl.length pl.length) = sv at tJs
  have tJ := tJs k3
  clear hJ
  by_cases h3 : pl.length = 3
  rotate_left 1
  · rw [parse_no3 (by rw [← hpl]; exact h3)]
    refine awp_loop_n [true, false, true, true, true, true, true, false, false, false, false, false, false, false, false, false, false, false, false, false, false, false, false, false, false, false, false, false, false, false, false, false, false, false, false, false, false, false, false, false, false, false, false, false, false, false, false, false, false, false] 1 (fun i e J' => i = 0 ∧ J' = J ∧ e = [.string (bs l), junk, .pointer (some ⟨H.length, 0, none⟩), .int .i64 0, sv, .pointer (some ⟨H.length + 2, 0, none⟩), .int .i64 0, junk, junk, junk, junk, junk, junk, junk, junk, junk, junk, junk, junk, junk, junk, junk, junk, junk, junk, junk, junk, junk, junk, junk, junk, junk, junk, junk, junk, junk, junk, junk, junk, junk, junk, junk, junk, junk, junk, junk, junk, junk, junk, junk]) ?_ ?_
    · exact ⟨rfl, rfl, by simp [forget]⟩
    rintro i e J' hi ⟨_, rfl, rfl⟩
    (refine yg ?_)
    refine cond_t rfl ?_
    (repeat (first | refine yw ?_ | ((first | apply yd | apply ye); simp (disch := first|exact zz|fail) only [go_sem, tJ.len, tJ.idx, tJ.load, dec_t (show ((pl.length : Nat) : Int) ≠ 3 by omega)]; with_reducible rfl)))
    refine cond_t rfl ?_
    (repeat (first | refine yw ?_ | ((first | apply yd | apply ye); simp (disch := first|exact zz|fail) only [go_sem, store_r3 k0]; with_reducible rfl)))
    exact fin_l2 (load_r3 (get_set_self k0)) ⟨rfl, xJ.set (by omega) _⟩
  refine awp_loop_n [true, false, true, true, true, true, true, false, false, false, false, false, false, false, false, false, false, false, false, false, false, false, false, false, false, false, false, false, false, false, false, false, false, false, false, false, false, false, false, false, false, false, false, false, false, false, false, false, false, false] 3 (fun i e J' => ∃ a b c, e = [.string (bs l), junk, .pointer (some ⟨H.length, 0, none⟩), .int .i64 0, sv, .pointer (some ⟨H.length + 2, 0, none⟩), .int .i64 (i : Nat), junk, junk, junk, junk, junk, junk, junk, junk, junk, junk, junk, junk, junk, junk, junk, junk, junk, junk, junk, junk, junk, junk, junk, junk, junk, junk, junk, junk, junk, junk, junk, junk, junk, junk, junk, junk, junk, junk, junk, junk, junk, junk, junk] ∧ Found pl i a b c ∧ Ext H J' ∧ J'[H.length + 1]? = some (.cells true 1 (strs pl)) ∧
      J'[H.length]? = some (.cells true 0 (ints3 0 0 0)) ∧ J'[H.length + 2]? = some (.cells true 0 (ints3 a b c))) ?_ ?_
  · exact ⟨0, 0, 0, by simp [forget], .inl ⟨rfl, rfl, rfl, rfl⟩, xJ, k3, k0, k1⟩
  rintro i e J' hi ⟨a, b, c, rfl, hf, x1, k3', k0', k1'⟩
  have t1 := tJs k3'
  (refine yg ?_)
  refine cond_p rfl (fun hlt => ?_) (fun hge => ?_)
  rotate_left 1
  · obtain rfl : i = 3 := by omega
    have hf : numP 13 (pl.getD 0 []) = some a ∧ numP 13 (pl.getD 1 []) = some b ∧ numP 13 (pl.getD 2 []) = some c := by
      rcases hf with h | h | h | h
      · omega
      · omega
      · omega
      · exact h.2
    have hp : parseMarkL l = if markE (a, b, c) = 0 then ((a, b, c), 0) else ((0, 0, 0), markE (a, b, c)) := by
      obtain ⟨p, q, r, e⟩ := three (l := cutL 32 l) (by rw [← hpl]; exact h3)
      rw [hpl, e] at hf
      obtain ⟨e1, e2, e3⟩ := hf
      have e1 : numP 13 p = some a := e1
      have e2 : numP 13 q = some b := e2
      have e3 : numP 13 r = some c := e3
      rw [parse_3 e, e1, e2, e3]
      first | done | rfl
    have hix : ∀ n, n < 3 → idxAR 3 1 (.pointer (some ⟨H.length + 2, 0, none⟩)) (.int .i64 (n : Nat)) J' = some (.pointer (some ⟨H.length + 2, n, none⟩), J') := fun n hn => by
      have := idxA_at (len := 3) (size := 1) (id := H.length + 2) (off := 0) (k := .i64) (H := J') hn
      simpa using this
    have hi0 : idxAR 3 1 (.pointer (some ⟨H.length + 2, 0, none⟩)) (.int .i64 0) J' = _ := hix 0 (by decide)
    have hi1 : idxAR 3 1 (.pointer (some ⟨H.length + 2, 0, none⟩)) (.int .i64 1) J' = _ := hix 1 (by decide)
    have hi2 : idxAR 3 1 (.pointer (some ⟨H.length + 2, 0, none⟩)) (.int .i64 2) J' = _ := hix 2 (by decide)
    have hl0 : loadR (.pointer (some ⟨H.length + 2, 0, none⟩)) J' = some (.int .i64 a, J') := by rw [load_at k1']; rfl
    have hl1 : loadR (.pointer (some ⟨H.length + 2, 1, none⟩)) J' = some (.int .i64 b, J') := by rw [load_at k1']; rfl
    have hl2 : loadR (.pointer (some ⟨H.length + 2, 2, none⟩)) J' = some (.int .i64 c, J') := by rw [load_at k1']; rfl
    have hfl : fillA [.int .i64 0, .int .i64 0, .int .i64 0] [(0, 1, .int .i64 a), (1, 2, .agg ⟨[.int .i64 b, .int .i64 c]⟩)] = some [.int .i64 a, .int .i64 b, .int .i64 c] := rfl
    (repeat (first | refine yw ?_ | ((first | apply yd | apply ye); simp (disch := first|exact zz|fail) only [go_sem, r_idxA, hi0, hi1, hi2, hl0, hl1, hl2, hfl, store_new3]; with_reducible rfl)))
    have kn : (J' ++ [AObj.cells true 0 [.int .i64 a, .int .i64 b, .int .i64 c]])[J'.length]? = some (.cells true 0 (ints3 a b c)) := at_new
    have kn0 := at_app (N := [AObj.cells true 0 [.int .i64 a, .int .i64 b, .int .i64 c]]) k0'
    have xn : Ext H (J' ++ [AObj.cells true 0 [.int .i64 a, .int .i64 b, .int .i64 c]]) := x1.app _
    generalize (J' ++ [AObj.cells true 0 [.int .i64 a, .int .i64 b, .int .i64 c]] : AHeap) = K at kn kn0 xn
    (repeat (first | refine yw ?_ | ((first | apply yd | apply ye); simp (disch := first|exact zz|fail) only [go_sem, load_r3 kn]; with_reducible rfl)))
    refine aops_call_to (rMarkErr_c (a, b, c)) ?_
    by_cases he : markE (a, b, c) = 0
    · rw [if_pos he] at hp
      rw [hp, he]
      (refine yg ?_)
      refine cond_f rfl ?_
      (repeat (first | refine yw ?_ | ((first | apply yd | apply ye); simp (disch := first|exact zz|fail) only [go_sem, load_r3 kn, markV, store_r3 kn0]; with_reducible rfl)))
      exact fin_l2 (load_r3 (get_set_self kn0)) ⟨rfl, xn.set (by omega) _⟩
    · rw [if_neg he] at hp
      rw [hp]
      (repeat (first | refine yw ?_ | ((first | apply yd | apply ye); simp (disch := first|exact zz|fail) only [go_sem, dec_t (show markE (a, b, c) ≠ 0 from he)]; with_reducible rfl)))
      refine cond_t rfl ?_
      (repeat (first | refine yw ?_ | ((first | apply yd | apply ye); simp (disch := first|exact zz|fail) only [go_sem, store_r3 kn0]; with_reducible rfl)))
      exact fin_l2 (load_r3 (get_set_self kn0)) ⟨rfl, xn.set (by omega) _⟩
  have hi3 : i < 3 := by omega
  have e1 : (i : Int) + 1 = ((i + 1 : Nat) : Int) := by omega
  have hix : idxAR 3 1 (.pointer (some ⟨H.length + 2, 0, none⟩)) (.int .i64 (i : Nat)) J' = some (.pointer (some ⟨H.length + 2, i, none⟩), J') := by
    have := idxA_at (len := 3) (size := 1) (id := H.length + 2) (off := 0) (k := .i64) (H := J') hi3
    simpa using this
  (repeat (first | refine yw ?_ | ((first | apply yd | apply ye); simp (disch := first|exact zz|fail) only [go_sem, t1.len, t1.idx, t1.load, dec_f (show ¬ ((pl.length : Nat) : Int) ≠ 3 by omega)]; with_reducible rfl)))
  refine cond_f rfl ?_
  (repeat (first | refine yw ?_ | ((first | apply yd | apply ye); simp (disch := first|exact zz|fail) only [go_sem, t1.len, t1.idx, t1.load]; with_reducible rfl)))
  refine aops_call ((refNum2_c (l := pl.getD i []) (d := 13) (by decide) (by
    have : pl.getD i [] ∈ pl := by rw [List.getD_eq_getElem?_getD, List.getElem?_eq_getElem (by omega)]; exact List.getElem_mem _
    exact hpm _ this)).mono fun v H1 ⟨⟨n, hv, hn⟩, e⟩ => ?_)
  subst e
  subst hv
  cases hr : numP 13 (pl.getD i []) with
  | none =>
    rw [parse_bad (by rw [← hpl]; exact h3) hi3 (by rw [← hpl]; exact hr)]
    (repeat (first | refine yw ?_ | ((first | apply yd | apply ye); simp (disch := first|exact zz|fail) only [go_sem, Option.isSome_none]; with_reducible rfl)))
    refine cond_t rfl ?_
    (repeat (first | refine yw ?_ | ((first | apply yd | apply ye); simp (disch := first|exact zz|fail) only [go_sem, store_r3 k0']; with_reducible rfl)))
    exact fin_l2 (load_r3 (get_set_self k0')) ⟨rfl, x1.set (by omega) _⟩
  | some m =>
    obtain rfl := hn m hr
    have hst : ∃ a' b' c', storeR 1 (.pointer (some ⟨H.length + 2, i, none⟩)) (.int .i64 n) H1 = some (undef, H1.set (H.length + 2) (.cells true 0 (ints3 a' b' c'))) ∧ Found pl (i + 1) a' b' c' := by
      have hs1 : ∀ vs', setCells (ints3 a b c) i [.int .i64 n] = vs' → storeR 1 (.pointer (some ⟨H.length + 2, i, none⟩)) (.int .i64 n) H1 = some (undef, H1.set (H.length + 2) (.cells true 0 vs')) := fun vs' hv => by
        have ec : (Value.int .i64 n).cells.toList = [.int .i64 n] := rfl
        have ec2 : (Value.int .i64 n).cells.size = 1 := rfl
        have ec3 : i + 1 ≤ (ints3 a b c).length := hi3
        have ec4 : ([Value.int .i64 n].all isAtom) = true := rfl
        simp only [storeR, ec, ec2, if_true, storeAt, k1', List.length_cons, List.length_nil, Nat.zero_add, ec3, ec4, and_self, Option.map_some, hv]
      rcases hf with ⟨rfl, rfl, rfl, rfl⟩ | ⟨rfl, f0, rfl, rfl⟩ | ⟨rfl, f0, f1, rfl⟩ | ⟨rfl, _⟩
      · exact ⟨n, 0, 0, hs1 _ rfl, .inr (.inl ⟨rfl, hr, rfl, rfl⟩)⟩
      · exact ⟨a, n, 0, hs1 _ rfl, .inr (.inr (.inl ⟨rfl, f0, hr, rfl⟩))⟩
      · exact ⟨a, b, n, hs1 _ rfl, .inr (.inr (.inr ⟨rfl, f0, f1, hr⟩))⟩
      · omega
    obtain ⟨a', b', c', hst, hf'⟩ := hst
    (repeat (first | refine yw ?_ | ((first | apply yd | apply ye); simp (disch := first|exact zz|fail) only [go_sem, Option.isSome_some]; with_reducible rfl)))
    refine cond_f rfl ?_
    (repeat (first | refine yw ?_ | ((first | apply yd | apply ye); simp (disch := first|exact zz|fail) only [go_sem, r_idxA, hix, hst, e1]; with_reducible rfl)))
    refine ⟨by omega, a', b', c', by simp [forget], hf', x1.set (by omega) _, ?_, ?_, get_set_self k1'⟩
    · rw [List.getElem?_set_ne (by omega)]; exact k3'
    · rw [List.getElem?_set_ne (by omega)]; exact k0'
end
end Go.Lq

namespace Go.Lq
open Go
open Go.Proofs

/-! ### Plain: the string of a valid mark is parsed again -/
theorem cutL_none {c : UInt8} {a : List UInt8} (h : c ∉ a) : cutL c a = [a] := by
  induction a with
  | nil => rfl
  | cons b r ih =>
    have hb : b ≠ c := fun e => h (by rw [e]; exact List.mem_cons_self ..)
    have hr : c ∉ r := fun e => h (List.mem_cons_of_mem _ e)
    rw [cutL, if_neg hb, ih hr]
theorem cutL_join {c : UInt8} {a : List UInt8} (h : c ∉ a) (r : List UInt8) : cutL c (a ++ c :: r) = a :: cutL c r := by
  induction a with
  | nil => show cutL c (c :: r) = _; rw [cutL, if_pos rfl]
  | cons b s ih =>
    have hb : b ≠ c := fun e => h (by rw [e]; exact List.mem_cons_self ..)
    have hs : c ∉ s := fun e => h (List.mem_cons_of_mem _ e)
    show cutL c (b :: (s ++ c :: r)) = _
    rw [cutL, if_neg hb, ih hs]
theorem itoa_digits {n : Int} (h : 0 ≤ n) {c : UInt8} (hc : c.toNat < 48) : c ∉ Lib.itoa n := fun hm => by
  obtain ⟨u, rfl⟩ : ∃ u : Nat, n = u := ⟨n.toNat, by omega⟩
  rw [itoa_nat] at hm
  have := (dec_all u).1 c hm
  omega
theorem nDigits_le : ∀ (k u : Nat), 1 ≤ k → u < 10 ^ k → Lib.nDigits u ≤ k
  | 0, u, h, _ => by omega
  | k + 1, u, _, h => by
    by_cases hu : u < 10
    · rw [Lib.nDigits_small hu]; omega
    · rw [Lib.nDigits_big hu]
      have hk : 1 ≤ k := by
        rcases Nat.eq_zero_or_pos k with rfl | hk
        · simp at h; omega
        · exact hk
      have := nDigits_le k (u / 10) hk (by rw [Nat.pow_succ] at h; omega)
      omega
theorem numP_itoa {d k : Nat} {n : Int} (hk : 1 ≤ k) (hkd : k ≤ d) (h0 : 0 ≤ n) (h1 : n < (10 ^ k : Nat)) (h2 : n ≤ 9223372036854775807) : numP d (Lib.itoa n) = some n := by
  rw [numP_iff]
  refine ⟨h0, h2, rfl, ?_⟩
  obtain ⟨u, rfl⟩ : ∃ u : Nat, n = u := ⟨n.toNat, by omega⟩
  rw [itoa_nat, Lib.decDigits_length]
  have := nDigits_le k u hk (by exact_mod_cast h1)
  omega
theorem markE_zero {x : Mark} (h : markE x = 0) : (0 ≤ x.1 ∧ x.1 ≤ 1000000) ∧ (0 ≤ x.2.1 ∧ x.2.1 ≤ 1000000000000) ∧ (0 ≤ x.2.2 ∧ x.2.2 ≤ 1000000000000) := by
  unfold markE at h
  by_cases hc : (0 ≤ x.1 ∧ x.1 ≤ 1000000) ∧ (0 ≤ x.2.1 ∧ x.2.1 ≤ 1000000000000) ∧ (0 ≤ x.2.2 ∧ x.2.2 ≤ 1000000000000)
  · exact hc
  · rw [if_neg hc, firstErr_e (by decide)] at h; exact absurd h (by decide)
theorem parse_mark {x : Mark} (h : markE x = 0) : parseMarkL (markT x) = (x, 0) := by
  obtain ⟨a, b, c⟩ := markE_zero h
  have h13 : ((10 ^ 13 : Nat) : Int) = 10000000000000 := by decide
  have e : cutL 32 (markT x) = [Lib.itoa x.1, Lib.itoa x.2.1, Lib.itoa x.2.2] := by
    unfold markT
    rw [List.append_assoc, List.append_assoc, List.append_assoc]
    show cutL 32 (Lib.itoa x.1 ++ 32 :: (Lib.itoa x.2.1 ++ 32 :: Lib.itoa x.2.2)) = _
    rw [cutL_join (itoa_digits a.1 (by decide)), cutL_join (itoa_digits b.1 (by decide)), cutL_none (itoa_digits c.1 (by decide))]
  rw [parse_3 e]
  rw [show (13 : Int) = ((13 : Nat) : Int) from rfl]
  rw [numP_itoa (k := 13) (by decide) (by decide) a.1 (by rw [h13]; omega) (by omega), numP_itoa (k := 13) (by decide) (by decide) b.1 (by rw [h13]; omega) (by omega), numP_itoa (k := 13) (by decide) (by decide) c.1 (by rw [h13]; omega) (by omega)]
  show (if markE (x.1, x.2.1, x.2.2) = 0 then _ else _) = _
  rw [if_pos h]
theorem markT_length {x : Mark} (h1 : i64 x.1) (h2 : i64 x.2.1) (h3 : i64 x.2.2) : (markT x).length ≤ 65 := by
  have b1 := Lib.itoa_length_le x.1 h1.1 h1.2
  have b2 := Lib.itoa_length_le x.2.1 h2.1 h2.2
  have b3 := Lib.itoa_length_le x.2.2 h3.1 h3.2
  unfold markT
  simp only [List.length_append, List.length_cons, List.length_nil]
  omega

theorem eqMark_n {y : Mark} {H : AHeap} : eqAggR true [(0, false), (1, false), (2, false)] (markV y) (markV y) H = some (.bool false, H) := by
  simp [eqAggR, eqLeaves, markV]
theorem eqMark_e {y : Mark} {H : AHeap} : eqAggR false [(0, false), (1, false), (2, false)] (markV y) (markV y) H = some (.bool true, H) := by
  simp [eqAggR, eqLeaves, markV]
set_option maxRecDepth 100000 in
set_option maxHeartbeats 4000000 in
theorem law4 {H : AHeap} {avs : List Value} (hs : StrH H) (h : RepAll Tryz.prog H [40, 9] avs) : ACall Tryz.prog 4 avs H fun v _ => v = .bool true := by
  obtain ⟨a, b, rfl, h1, h2⟩ := h.two
  obtain ⟨x, rfl, i1, i2, i3⟩ := repMarkA h1
  obtain ⟨l, rfl, hl⟩ := h2.str Tryz.underlying9
  have hml := markT_length i1 i2 i3
  (refine a4 ?_; simp only [n4, List.replicate, yq, yr, yt, yu]; first | refine q1 ?_ | refine q2 ?_ | refine q6 ?_ | refine q7 ?_ | refine qh rfl ?_ | skip)
  have g0 : (H ++ [AObj.cells true 0 (markC x)])[H.length]? = some (.cells true 0 (markC x)) := at_new
  have xG : Ext H (H ++ [AObj.cells true 0 (markC x)]) := (Ext.refl H).app _
  (repeat (first | refine yv ?_ | (apply yd; simp (disch := first|exact zz|fail) only [go_sem, box_mark]; with_reducible rfl)))
  generalize (H ++ [AObj.cells true 0 (markC x)] : AHeap) = G at g0 xG
  (refine yg ?_)
  (refine aops_call_to (awake_c) ?_)
  (refine yg ?_)
  refine cond_f rfl ?_
  by_cases h80 : (80 : Int) < (l.length : Int)
  · (repeat (first | refine yw ?_ | ((first | apply yd | apply ye); simp (disch := first|exact zz|fail) only [go_sem, dec_t h80]; with_reducible rfl)))
    refine cond_t rfl ?_
    (refine yg ?_)
    exact fin_1 rfl
  (repeat (first | refine yw ?_ | ((first | apply yd | apply ye); simp (disch := first|exact zz|fail) only [go_sem, dec_f h80]; with_reducible rfl)))
  refine cond_f rfl ?_
  (repeat (first | refine yw ?_ | ((first | apply yd | apply ye); simp (disch := first|exact zz|fail) only [go_sem, load_mark g0]; with_reducible rfl)))
  (refine aops_call_to (formatMark_c (hs.ext xG) i1 i2 i3) ?_)
  (refine yg ?_)
  (refine aops_call_to (parseMark_c (hs.ext xG) (l := l) (by omega)) ?_)
  obtain ⟨y, hy⟩ : ∃ y, y = (parseMarkL l).1 := ⟨_, rfl⟩
  obtain ⟨e, he⟩ : ∃ e, e = (parseMarkL l).2 := ⟨_, rfl⟩
  rw [← hy, ← he]
  (repeat (first | refine yw ?_ | ((first | apply yd | apply ye); simp (disch := first|exact zz|fail) only [go_sem, markV, store_new3]; with_reducible rfl)))
  rw [new_mark y]
  have c1 : (G ++ [AObj.cells true 0 (markC y)])[G.length]? = some (.cells true 0 (markC y)) := at_new
  have g1 := at_app (N := [AObj.cells true 0 (markC y)]) g0
  have x1 := xG.app [AObj.cells true 0 (markC y)]
  obtain ⟨i6, h6⟩ : ∃ i, G.length = i := ⟨_, rfl⟩
  rw [h6] at c1 ⊢
  generalize (G ++ [AObj.cells true 0 (markC y)] : AHeap) = G2 at c1 g1 x1
  (refine yg ?_)
  (refine aops_call_to (rParseMark_c (l := l) (by omega)) ?_)
  rw [← hy, ← he]
  (repeat (first | refine yw ?_ | ((first | apply yd | apply ye); simp (disch := first|exact zz|fail) only [go_sem, markV, store_new3]; with_reducible rfl)))
  rw [new_mark y]
  have c2 : (G2 ++ [AObj.cells true 0 (markC y)])[G2.length]? = some (.cells true 0 (markC y)) := at_new
  have c1 := at_app (N := [AObj.cells true 0 (markC y)]) c1
  have g2 := at_app (N := [AObj.cells true 0 (markC y)]) g1
  have x2 := x1.app [AObj.cells true 0 (markC y)]
  obtain ⟨i8, h8⟩ : ∃ i, G2.length = i := ⟨_, rfl⟩
  rw [h8] at c2 ⊢
  generalize (G2 ++ [AObj.cells true 0 (markC y)] : AHeap) = G3 at c1 c2 g2 x2
  (repeat (first | refine yw ?_ | ((first | apply yd | apply ye); simp (disch := first|exact zz|fail) only [go_sem, load_mark g2]; with_reducible rfl)))
  (refine aops_call_to (rFormatMark_c i1 i2 i3) ?_)
  (repeat (first | refine yw ?_ | ((first | apply yd | apply ye); simp (disch := first|exact zz|fail) only [go_sem, dec_f (show ¬ markT x ≠ markT x from fun h => h rfl), load_mark c1, load_mark c2, eqMark_n]; with_reducible rfl)))
  refine cond_f rfl ?_
  (repeat (first | refine yw ?_ | ((first | apply yd | apply ye); simp (disch := first|exact zz|fail) only [go_sem, load_mark g2]; with_reducible rfl)))
  (refine aops_call_to (rMarkErr_c x) ?_)
  by_cases hm : markE x = 0
  rotate_left 1
  · (repeat (first | refine yw ?_ | ((first | apply yd | apply ye); simp (disch := first|exact zz|fail) only [go_sem, dec_t (show markE x ≠ 0 from hm)]; with_reducible rfl)))
    refine cond_t rfl ?_
    (refine yg ?_)
    exact fin_1 rfl
  rw [hm]
  (refine yg ?_)
  refine cond_f rfl ?_
  (refine yg ?_)
  (refine aops_call_to (parseMark_c (hs.ext x2) (l := markT x) (by omega)) ?_)
  rw [parse_mark hm]
  (repeat (first | refine yw ?_ | ((first | apply yd | apply ye); simp (disch := first|exact zz|fail) only [go_sem, markV, store_new3]; with_reducible rfl)))
  rw [new_mark x]
  have c3 : (G3 ++ [AObj.cells true 0 (markC x)])[G3.length]? = some (.cells true 0 (markC x)) := at_new
  have g3 := at_app (N := [AObj.cells true 0 (markC x)]) g2
  obtain ⟨i10, h10⟩ : ∃ i, G3.length = i := ⟨_, rfl⟩
  rw [h10] at c3 ⊢
  generalize (G3 ++ [AObj.cells true 0 (markC x)] : AHeap) = G4 at c3 g3
  (repeat (first | refine yw ?_ | ((first | apply yd | apply ye); simp (disch := first|exact zz|fail) only [go_sem, load_mark c3, load_mark g3, eqMark_e]; with_reducible rfl)))
  exact fin_1 rfl
end Go.Lq

namespace Go.Lq
open Go Go.ChangeShapes Go.WideShapes Go.ChangeAt Go.RowKit
open Go.Proofs

set_option maxRecDepth 100000 in
theorem lifted4 (os : Os) (started : os.Started) (X : Type) (enc : TypeId × Value → X) :
    ReturnsInHanded {} Tryz.checked os 4 .any (fun w args => (YtejkpmemicpheaaGreatDoor.Rows.speedMarkStringsSpec.pre enc Tryz.prog Tryz.f4 [] false w args ∧ laidMetH Tryz.prog laidAll w) ∧ sizedMet enc Tryz.prog Tryz.f4 (OpenSpec.ofChange YtejkpmemicpheaaGreatDoor.Rows.speedMarkStringsSpec) false w args)
      (YtejkpmemicpheaaGreatDoor.Rows.speedMarkStringsSpec.post enc Tryz.prog Tryz.f4 false true false false) := by
  refine returnsInHanded_of_change_shaped (C := Tryz.checked) (X := fun w _ => laidMetH Tryz.prog laidAll w) (fun _ _ _ hh h => h.of_heap hh) own_knob started (by kernel_rfl) Tryz.func4
    (ChangeSpec.witness_shaped (enc := enc) (C := Tryz.checked) (os := os) (X := fun w _ => laidMetH Tryz.prog laidAll w) false (World.laidAll Tryz.prog os laidAll) #[.agg #[.int .i64 0, .int .i64 0, .int .i64 0], .string ⟨#[]⟩] 12 (World.laidAll_os _ _ _) (door_shaped os _) (by kernel_rfl) (by kernel_rfl) (by kernel_rfl) (door_met os _)) ?_
  intro W base args ds gs before hsh hval hW hL
  have hWw := hW
  obtain ⟨p, q, hA, _⟩ := hW
  obtain ⟨m0, t0, u0, hLd⟩ := of_laid hL hsh
  refine (calls_of_law (d := 20) hLd globs glob_at hA (fun j t v h1 h2 => hval j t v (by simpa using h1) (by simpa using h2)) (by kernel_rfl) fun H avs hx h => ?_).mono fun e W' ⟨he, hB⟩ => ?_
  · exact law4 (strH hx) (by rw [show Tryz.f4.params = #[40, 9] from Tryz.params4] at h; exact h)
  · subst he
    exact ⟨_, rfl, law_post (bt := 4) laid_out rfl Tryz.underlying4 (by kernel_rfl) (by kernel_rfl) hWw (fun ds hd => by
      rw [show Tryz.f4.params = #[40, 9] from Tryz.params4] at hd
      match ds, hd with
      | [a, b], _ => rfl) hB⟩

theorem unf4 : Tryz.prog.unfollowed 4 = true := by kernel_rfl
theorem rec4 : Tryz.prog.recurses 4 = true := by kernel_rfl
theorem named4 : Tryz.prog.varsNamed 4 = YtejkpmemicpheaaGreatDoor.Rows.speedMarkStringsRow.named := by kernel_rfl
theorem facts4 : joinedFacts Tryz.prog 4 Tryz.f4 YtejkpmemicpheaaGreatDoor.Rows.speedMarkStringsSpec YtejkpmemicpheaaGreatDoor.Rows.speedMarkStringsRow = true := by
  unfold joinedFacts
  rw [may_enter, stops_heard, maps_rowed, laid_out, lifts_final, make_is, unf4, rec4, named4]
  kernel_rfl
theorem holds4 : YtejkpmemicpheaaGreatDoor.Rows.SpeedMarkStringsSaid :=
  OpenClaim.holds_of_wide 4 Tryz.f4 rfl rfl rfl rfl rfl rfl rfl ⟨rfl, rfl, rfl, rfl, rfl⟩ rfl rfl rfl rfl rfl (by kernel_rfl) Tryz.func4 facts4
    (of_decide_eq_true (by kernel_rfl)) (by unfold Func.isWrapper; first | (rw [if_pos (by decide +kernel)]; kernel_rfl) | (rw [if_neg (by decide +kernel)]; exact ⟨rfl, rfl⟩))
    (fun os started H enc _ => lifted4 os started H enc)
end Go.Lq
namespace Go.Proofs.YtejkpmemicpheaaGreatDoor
open Go Go.Lq
theorem speedMarkStrings_proved : Rows.SpeedMarkStringsCardSaid :=
  Claim7.holds_tied_plain_at .later [] [.data, .data, .data, .data, .sentinel, .sentinel, .pinned] true (true, "0f45edf933d94b2041ee32defa7f59a21703d276aed9c21567102dc55ab8e729") true
    holds4 (fun _ h => by cases h) (by kernel_rfl) (fun _ h => by cases h) speedMarkStrings_row_tie rfl ⟨rfl, rfl⟩ main_is rfl
    (fun f fn hf hfn => by
      obtain rfl : f = 4 := Option.some.inj ((show Tryz.prog.funcNamed "lacquer/lacquerlaw03.SpeedMarkStrings" = some 4 by kernel_rfl).symm.trans hf) |>.symm
      obtain rfl : fn = Tryz.f4 := (Option.some.inj (Tryz.func4.symm.trans hfn)).symm
      exact ⟨looks0, fun j t ht => by
        rw [Tryz.params4] at ht
        have hm : t ∈ [40, 9] := by simpa using Array.mem_of_getElem? ht
        have hall : ([40, 9].all fun u => !Tryz.prog.wantsStandIn u) = true := by kernel_rfl
        exact (show Tryz.prog.wantsStandIn t = false by simpa using List.all_eq_true.1 hall t hm)⟩)
    (by kernel_rfl)
end Go.Proofs.YtejkpmemicpheaaGreatDoor
