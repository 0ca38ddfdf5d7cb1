/- SpeedStrings is proved: for every input that can be read the law returns true, and each argument reads afterwards as it read before; the listed package variables hold what the program's text lays (the card ties them). -/
import Derived.Shelf.Spec.SlicesGrow
import Derived.Shelf.Strings.OnBuilder
import Derived.Shelf.Strconv.Itoa3
import Derived.Shelf.Strconv.AtoiAll
import Derived.Shelf.Strings.Search3
import Derived.Shelf.Strings.Cut
import Derived.Shelf.Strings.Split
import Derived.Shelf.LaysM
import Derived.Shelf.LaysC
import Derived.Test.YtejkpmemicpheaaGreatDoorProg
import Derived.Lib.AppendIntMem
import Derived.Lib.AtoiErrMem
import Derived.Test.YtejkpmemicpheaaGreatDoorCards
import Derived.Test.YtejkpmemicpheaaGreatDoorTie
import Derived.LaidMore
import Derived.HandedShaped
import Derived.Lib.LaidTab
import Derived.Lay
import Derived.Stop.Joined
import Derived.Lib.AtoiAllCases
import Derived.Lib.ItoaLen
import Derived.Lib.SplitLaws
import Derived.Test.YtejkpmemicpheaaGreatDoorV32
set_option linter.unusedSimpArgs false
set_option linter.unnecessarySimpa false
set_option linter.unusedVariables false
set_option linter.unusedSectionVars false
set_option maxRecDepth 100000
namespace Go.Lq
open Go
open Go.Proofs

theorem isAtom_map (x : Option Nat) : isAtom (.map x) = true := rfl
theorem constOk_mapN : constOk (.map none) = true := rfl
attribute [go_sem] isAtom_map constOk_mapN
theorem store_newI {H : AHeap} {n : Int} {x : Value} {e : Nat} : storeR 1 (.pointer (some ⟨H.length, 0, none⟩)) (.int .i64 n) (H ++ [.cells true e [x]]) = some (undef, H ++ [.cells true e [.int .i64 n]]) :=
  (store_b1 (at_new (H := H) (o := true) (e := e) (vs := [x])) rfl rfl).trans (by rw [List.set_append_right _ _ (Nat.le_refl _), Nat.sub_self]; rfl)
theorem store_newM {H : AHeap} {id : Nat} {x : Value} {e : Nat} : storeR 1 (.pointer (some ⟨H.length, 0, none⟩)) (.map (some id)) (H ++ [.cells true e [x]]) = some (undef, H ++ [.cells true e [.map (some id)]]) :=
  (store_b1 (at_new (H := H) (o := true) (e := e) (vs := [x])) rfl rfl).trans (by rw [List.set_append_right _ _ (Nat.le_refl _), Nat.sub_self]; rfl)
theorem store_newA {H : AHeap} {w x : Value} {e : Nat} (hw : isAtom w = true) : storeR 1 (.pointer (some ⟨H.length, 0, none⟩)) (.agg ⟨[w]⟩) (H ++ [.cells true e [x]]) = some (undef, H ++ [.cells true e [w]]) := store_newN (by simp [hw]) rfl rfl

structure FewIds (h0 a4 a7 idm a8 a9 idb base : Nat) : Prop where
  o1 : h0 + 1 < a4
  o2 : a4 < a7
  o3 : a7 < idm
  o4 : idm < a8
  o5 : a8 < a9
  o6 : a9 < idb
  o7 : idb < base
structure FewSt (H0 : AHeap) (a4 a7 idm a8 a9 idb : Nat) (L : Int × Int) (M : List Mark) (v : Value) (m : Ents) (best : Int × Int) (H : AHeap) : Prop where
  ext : Ext H0 H
  b1 : H[H0.length]? = some (.cells true 0 (evC L v))
  b2 : H[H0.length + 1]? = some (.cells true 0 [.slice none 0 0])
  b4 : H[a4]? = some (.cells true 0 (evC L v))
  b7 : H[a7]? = some (.cells true 0 [.int .i64 ((M.length : Int) - 1)])
  mp : H[idm]? = some (.map (entsP m))
  b8 : H[a8]? = some (.cells true 0 [.map (some idm)])
  b9 : H[a9]? = some (.cells true 0 [.int .i64 best.1, .int .i64 best.2])
  bb : H[idb]? = some (.cells true 0 [v])
section
variable {H0 H : AHeap} {a4 a7 idm a8 a9 idb base : Nat} {L : Int × Int} {M : List Mark} {v : Value} {m m' : Ents} {best best' : Int × Int}
theorem FewSt.app (h : FewSt H0 a4 a7 idm a8 a9 idb L M v m best H) (N : AHeap) : FewSt H0 a4 a7 idm a8 a9 idb L M v m best (H ++ N) :=
  ⟨h.ext.app N, at_app h.b1, at_app h.b2, at_app h.b4, at_app h.b7, at_app h.mp, at_app h.b8, at_app h.b9, at_app h.bb⟩
theorem FewSt.set (h : FewSt H0 a4 a7 idm a8 a9 idb L M v m best H) (o : FewIds H0.length a4 a7 idm a8 a9 idb base) {j : Nat} (hj : base ≤ j) (c : AObj) : FewSt H0 a4 a7 idm a8 a9 idb L M v m best (H.set j c) := by
  obtain ⟨o1, o2, o3, o4, o5, o6, o7⟩ := o
  obtain ⟨x, b1, b2, b4, b7, mp, b8, b9, bb⟩ := h
  refine ⟨x.set (by omega) _, ?_, ?_, ?_, ?_, ?_, ?_, ?_, ?_⟩ <;> rw [List.getElem?_set_ne (by omega)] <;> assumption
theorem FewSt.put (h : FewSt H0 a4 a7 idm a8 a9 idb L M v m best H) (o : FewIds H0.length a4 a7 idm a8 a9 idb base) (m' : Ents) : FewSt H0 a4 a7 idm a8 a9 idb L M v m' best (H.set idm (.map (entsP m'))) := by
  obtain ⟨o1, o2, o3, o4, o5, o6, o7⟩ := o
  obtain ⟨x, b1, b2, b4, b7, mp, b8, b9, bb⟩ := h
  refine ⟨x.set (by omega) _, ?_, ?_, ?_, ?_, get_set_self mp, ?_, ?_, ?_⟩ <;> rw [List.getElem?_set_ne (by omega)] <;> assumption
theorem FewSt.setBest (h : FewSt H0 a4 a7 idm a8 a9 idb L M v m best H) (o : FewIds H0.length a4 a7 idm a8 a9 idb base) (best' : Int × Int) : FewSt H0 a4 a7 idm a8 a9 idb L M v m best' (H.set a9 (.cells true 0 [.int .i64 best'.1, .int .i64 best'.2])) := by
  obtain ⟨o1, o2, o3, o4, o5, o6, o7⟩ := o
  obtain ⟨x, b1, b2, b4, b7, mp, b8, b9, bb⟩ := h
  refine ⟨x.set (by omega) _, ?_, ?_, ?_, ?_, ?_, ?_, get_set_self b9, ?_⟩ <;> rw [List.getElem?_set_ne (by omega)] <;> assumption
end
def TabJ (L : Int × Int) (M : List Mark) (i : Nat) (m : Ents) (best : Int × Int) : Prop :=
  (i = 0 → MapAt L M 0 ((M.getD 0 (0, 0, 0)).2.2 + 1) m ∧ BestAt L M ((M.getD 0 (0, 0, 0)).2.2 + 1) best) ∧ (0 < i → MapAt L M (i - 1) (M.getD (i - 1) (0, 0, 0)).2.1 m ∧ best = (0, 0))
def TabI (L : Int × Int) (M : List Mark) (k : Nat) (t : Int) (m : Ents) (best : Int × Int) : Prop :=
  MapAt L M k t m ∧ (k = 0 → BestAt L M t best) ∧ (k ≠ 0 → best = (0, 0))
section
variable {L : Int × Int} {M : List Mark} {m : Ents} {best : Int × Int} {k : Nat} {t : Int}
theorem TabJ.open (h : TabJ L M (k + 1) m best) : TabI L M k (M.getD k (0, 0, 0)).2.1 m best := by
  obtain ⟨a, b⟩ := h.2 (Nat.succ_pos _)
  rw [Nat.add_sub_cancel] at a
  refine ⟨a, fun hk => ?_, fun _ => b⟩
  subst hk; rw [b]; exact BestAt.start (Int.le_refl _)
theorem TabI.close (h : TabI L M k ((M.getD k (0, 0, 0)).2.2 + 1) m best) : TabJ L M k m best := by
  obtain ⟨a, b, c⟩ := h
  refine ⟨fun hk => ?_, fun hk => ?_⟩
  · subst hk; exact ⟨a, b rfl⟩
  · match k, hk with
    | k + 1, _ =>
      rw [Nat.add_sub_cancel]
      exact ⟨a.down (by omega), c (by omega)⟩
theorem TabI.skip (he : EvOk L M) (hk : k < M.length) (h : TabI L M k t m best) (hw : tabK L M k t = none) : TabI L M k (t + 1) m best :=
  ⟨h.1.none he hk hw, fun h0 => by subst h0; exact (h.2.1 rfl).skip hw, h.2.2⟩
theorem TabI.other (he : EvOk L M) (hk : k < M.length) (hr : inR M k t) (h : TabI L M k t m best) {w : Way} (hw : tabK L M k t = some w) (h0 : k ≠ 0) : TabI L M k (t + 1) (putP (mP M k, t) (wayV w) m) best :=
  ⟨h.1.some he hk hr hw, fun h => absurd h h0, h.2.2⟩
theorem TabI.first (he : EvOk L M) (h1 : 0 < M.length) (hr : inR M 0 t) (h : TabI L M 0 t m best) {w : Way} (hw : tabK L M 0 t = some w) :
    ∃ o : Option Way, getP (putP (mP M 0, t) (wayV w) m) best = o.map wayV ∧ ((o = none ∧ TabI L M 0 (t + 1) (putP (mP M 0, t) (wayV w) m) (mP M 0, t)) ∨
      ∃ u : Way, o = some u ∧ best.1 = mP M 0 ∧ (w.1 < u.1 → TabI L M 0 (t + 1) (putP (mP M 0, t) (wayV w) m) (mP M 0, t)) ∧ (¬ w.1 < u.1 → TabI L M 0 (t + 1) (putP (mP M 0, t) (wayV w) m) best)) := by
  have hm := h.1.some he h1 hr hw
  rcases h.2.1 rfl with ⟨e1, e2⟩ | ⟨b, u, e1, e2, e3, e4, e5⟩
  · rw [e1, getP_put]
    have hnew : BestAt L M (t + 1) (mP M 0, t) := .inr ⟨t, w, rfl, hr, by omega, hw, fun b' w' hb hlt hw' => by
      by_cases e : b' = t
      · subst e; rw [hw] at hw'; cases hw'; exact Nat.le_refl _
      · rw [e2 b' hb (by omega)] at hw'; cases hw'⟩
    by_cases e : (mP M 0, t) = (0, 0)
    · rw [if_pos e]
      refine ⟨some w, rfl, .inr ⟨w, rfl, (Prod.mk.inj e).1.symm, fun hlt => absurd hlt (Nat.lt_irrefl _), fun _ => ⟨hm, fun _ => ?_, fun h => absurd rfl h⟩⟩⟩
      rw [← e]; exact hnew
    · rw [if_neg e]
      refine ⟨none, ?_, .inl ⟨rfl, hm, fun _ => hnew, fun h => absurd rfl h⟩⟩
      cases hp : getP m (0, 0) with
      | none => rfl
      | some x =>
        obtain ⟨k', b, e3, hk', hc, hrb⟩ := h.1.only (0, 0) (by rw [hp]; simp)
        have hb1 : (0 : Int) = mP M k' := (Prod.mk.inj e3).1
        have p0 := he.pos 0 h1
        rcases hc with hc | ⟨rfl, hc⟩
        · have := he.lt hc hk'
          unfold mP at hb1; omega
        · have := h.1.get 0 b h1 (.inr ⟨rfl, hc⟩) hrb
          rw [← e3, hp, e2 b hrb hc] at this; cases this
  · subst e1
    have hne : ¬ (mP M 0, t) = (mP M 0, b) := fun h => by have := (Prod.mk.inj h).2; omega
    refine ⟨some u, ?_, .inr ⟨u, rfl, rfl, fun hlt => ⟨hm, fun _ => .inr ⟨t, w, rfl, hr, by omega, hw, fun b' w' hb hlt' hw' => ?_⟩, fun h => absurd rfl h⟩, fun hge => ⟨hm, fun _ => .inr ⟨b, u, rfl, e2, by omega, e4, fun b' w' hb hlt' hw' => ?_⟩, fun h => absurd rfl h⟩⟩⟩
    · rw [getP_put, if_neg hne, h.1.get 0 b h1 (.inr ⟨rfl, e3⟩) e2, e4]
    · by_cases e : b' = t
      · subst e; rw [hw] at hw'; cases hw'; exact Nat.le_refl _
      · have := e5 b' w' hb (by omega) hw'; omega
    · by_cases e : b' = t
      · subst e; rw [hw] at hw'; cases hw'; omega
      · exact e5 b' w' hb (by omega) hw'
end

end Go.Lq

namespace Go.Lq
open Go
open Go.Proofs

theorem pairs_nil (H : AHeap) : Pairs H [] (.slice none 0 0) := (OwnP.nil H H).pairs
theorem fin_l2a {c : RCode} {n a b : Nat} {R : Value → AHeap → Prop} {e : Env} {H : AHeap} {id : Nat} {s : Value} (hp : e.getD a undef = .pointer (some ⟨id, 0, none⟩)) (h1 : H[id]? = some (.cells true 0 [s])) (h : R (.tuple #[.agg ⟨[s]⟩, e.getD b undef]) H) :
    Fin ⟨c, n, [.loadN 1 a, .tmp b]⟩ R .ret e H := fin_l2 (u := .agg ⟨[s]⟩) (by rw [hp]; exact n1_at h1) h
theorem store_a1 {H : AHeap} {id e : Nat} {x y : Value} (h : H[id]? = some (.cells true e [x])) (ha : isAtom y = true) : storeR 1 (.pointer (some ⟨id, 0, none⟩)) (.agg ⟨[y]⟩) H = some (undef, H.set id (.cells true e [y])) := store_all h rfl (by simp [ha]) rfl
theorem pushP_at {H : AHeap} {v : Value} {l : List (Int × Int)} {x : Int × Int} {i : Nat} {c : AObj} (h : H[i]? = some c) (hv : v = .slice none 0 0 ∨ idOf v ≠ i) : (pushPH H v l x)[i]? = some c := by
  have hi := (List.getElem?_eq_some_iff.1 h).1
  unfold pushPH
  rw [appH_at (by simp; omega) hv, List.getElem?_append_left hi]; exact h
theorem pushP_len {H : AHeap} {v : Value} {l : List (Int × Int)} {x : Int × Int} : (pushPH H v l x).length = H.length + 2 := by unfold pushPH; rw [appH_len]; simp
theorem OwnP.aside {H0 H : AHeap} {l : List (Int × Int)} {v : Value} (h : OwnP H0 H l v) {j : Nat} (hj : j < H0.length) : v = .slice none 0 0 ∨ idOf v ≠ j := by
  rcases h.2 with ⟨rfl, h0⟩ | ⟨id, rfl, h1, _, _⟩
  · exact .inl rfl
  · exact .inr (by show id ≠ j; omega)
theorem OwnP.set_ne {H0 H : AHeap} {l : List (Int × Int)} {v : Value} (h : OwnP H0 H l v) {j : Nat} (hj : v = .slice none 0 0 ∨ idOf v ≠ j) (c : AObj) : OwnP H0 (H.set j c) l v := by
  refine Own.set_ne h ?_ c
  rcases hj with rfl | hj
  · rcases h.2 with ⟨_, h0⟩ | ⟨id, e, _⟩
    · exact .inl h0
    · cases e
  · exact .inr hj
theorem OwnP.pushedL {H0 H : AHeap} {l : List (Int × Int)} {v : Value} (h : OwnP H0 H l v) (hx : H0.length ≤ H.length) (x : Int × Int) : OwnP H0 (pushPH H v l x) (l ++ [x]) (pushV H l.length) := by
  have := Own.appended (h.app [.cells true 2 [.int .i64 x.1, .int .i64 x.2]]) (m := 1) (cs := [.int .i64 x.1, .int .i64 x.2]) rfl (by omega) (by simp; omega)
  unfold OwnP
  simpa [pushV, pushPH, flatP] using this
theorem FewSt.push {H0 H F : AHeap} {a4 a7 idm a8 a9 idb base : Nat} {L : Int × Int} {M : List Mark} {v sv : Value} {m : Ents} {best : Int × Int} {l : List (Int × Int)} (h : FewSt H0 a4 a7 idm a8 a9 idb L M v m best H) (o : FewIds H0.length a4 a7 idm a8 a9 idb base)
    (ho : OwnP F H l sv) (hF : base ≤ F.length) (x : Int × Int) : FewSt H0 a4 a7 idm a8 a9 idb L M v m best (pushPH H sv l x) := by
  obtain ⟨o1, o2, o3, o4, o5, o6, o7⟩ := o
  obtain ⟨y, b1, b2, b4, b7, mp, b8, b9, bb⟩ := h
  have hw : OwnP H0 H l sv := ho.weaken (by omega)
  exact ⟨OwnP.ext hw y x, pushP_at b1 (ho.aside (by omega)), pushP_at b2 (ho.aside (by omega)), pushP_at b4 (ho.aside (by omega)), pushP_at b7 (ho.aside (by omega)), pushP_at mp (ho.aside (by omega)), pushP_at b8 (ho.aside (by omega)), pushP_at b9 (ho.aside (by omega)), pushP_at bb (ho.aside (by omega))⟩
theorem load_way2 {G : AHeap} {id : Nat} {w : Way} (h : G[id]? = some (.cells true 0 (wayC w))) : loadNR 2 (.pointer (some ⟨id, 1, none⟩)) G = some (.agg ⟨[.int .i64 w.2.1.1, .int .i64 w.2.1.2]⟩, G) := loadN_at h (by simp [wayC])
theorem fill_pair {a b : Int} : fillA [.int .i64 0, .int .i64 0] [(0, 2, .agg ⟨[.int .i64 a, .int .i64 b]⟩)] = some [.int .i64 a, .int .i64 b] := rfl
theorem none_chain {L : Int × Int} {M : List Mark} (h0 : 0 < M.length) (h : ∀ b, inR M 0 b → b < (M.getD 0 (0, 0, 0)).2.2 + 1 → tabK L M 0 b = none) (s : Int) (n : Nat) : ¬ Chain L M 0 s n := fun hc => by
  have hr := hc.inR
  exact (tabK_spec h0).2 (h s hr (by unfold inR at hr; omega)) n hc
theorem first_min {L : Int × Int} {M : List Mark} (h0 : 0 < M.length) {w : Way} (h : ∀ b' w', inR M 0 b' → b' < (M.getD 0 (0, 0, 0)).2.2 + 1 → tabK L M 0 b' = some w' → w.1 ≤ w'.1) (s : Int) (n : Nat) (hc : Chain L M 0 s n) : w.1 ≤ n := by
  have hr := hc.inR
  cases hw : tabK L M 0 s with
  | none => exact absurd hc ((tabK_spec h0).2 hw n)
  | some w' =>
    have a := h s w' hr (by unfold inR at hr; omega) hw
    have b := ((tabK_spec h0).1 w' hw).2 n hc
    omega
section
variable {H : AHeap} {L : Int × Int} {M : List Mark} {v : Value}
set_option maxHeartbeats 32000000 in
set_option maxRecDepth 100000 in
theorem fewest_c (hl : Tris H M v) (hb : M.length ≤ 1000000000) : ACall Go.Proofs.Tryz.prog 23 [evV L v] H fun w H' => Ext H H' ∧ ∃ s l e, w = .tuple #[.agg ⟨[s]⟩, .int .i64 e] ∧ Pairs H' l s ∧ FewRes L M l e := by
  (refine a23 ?_; simp only [n23, List.replicate, yq, yr, yt, yu]; first | refine Go.Lq.q1 ?_ | refine Go.Lq.q2 ?_ | refine Go.Lq.q6 ?_ | refine Go.Lq.q7 ?_ | refine Go.Lq.qh rfl ?_ | skip)
  obtain ⟨G, hG⟩ : ∃ G, G = H ++ [AObj.cells true 0 (evC L v)] ++ [AObj.cells true 0 [.slice none 0 0]] := ⟨_, rfl⟩
  have g0 : G[H.length]? = some (.cells true 0 (evC L v)) := by rw [hG]; simp
  have g1 : G[H.length + 1]? = some (.cells true 0 [.slice none 0 0]) := by rw [hG]; simp
  have xG : Ext H G := by rw [hG]; exact ((Ext.refl H).app _).app _
  have lG : G.length = H.length + 2 := by rw [hG]; simp
  (repeat (first | refine yv ?_ | (apply yd; simp (disch := first|exact zz|fail) only [go_sem, box_ev hl.atom]; with_reducible rfl)))
  (simp only [List.length_append, List.length_cons, List.length_nil, Nat.zero_add, Nat.add_assoc, Nat.reduceAdd])
  rw [← hG]
  clear hG
  (repeat (first | refine yw ?_ | ((first | apply yd | apply ye); simp (disch := first|exact zz|fail) only [go_sem, load_ev g0]; with_reducible rfl)))
  refine aops_call ((open_c (hl.ext xG) hb).mono fun w G2 ⟨hw, x2⟩ => ?_)
  subst hw
  have l2 := x2.len
  have hst : storeR 3 (.pointer (some ⟨G2.length, 0, none⟩)) (evV L v) (G2 ++ [.cells true 0 [.int .i64 0, .int .i64 0, .slice none 0 0]]) = some (undef, G2 ++ [.cells true 0 (evC L v)]) := store_newN (by simp [hl.atom, isAtom_int]) rfl rfl
  (repeat (first | refine yw ?_ | ((first | apply yd | apply ye); simp (disch := first|exact zz|fail) only [go_sem, hst]; with_reducible rfl)))
  have k4 : (G2 ++ [AObj.cells true 0 (evC L v)])[G2.length]? = some (.cells true 0 (evC L v)) := at_new
  have x3 := x2.app [AObj.cells true 0 (evC L v)]
  obtain ⟨a4, ha4⟩ : ∃ a4, G2.length = a4 := ⟨_, rfl⟩
  have l3 : (G2 ++ [AObj.cells true 0 (evC L v)]).length = a4 + 1 := by simp [ha4]
  rw [ha4] at k4 l2 ⊢
  generalize (G2 ++ [AObj.cells true 0 (evC L v)] : AHeap) = G3 at k4 x3 l3
  have xH3 := xG.trans x3
  have hl3 := hl.ext xH3
  have k0 := x3.cell g0
  have k1 := x3.cell g1
  clear hst
  (repeat (first | refine yw ?_ | ((first | apply yd | apply ye); simp (disch := first|exact zz|fail) only [go_sem, hl3.len, hl3.idx, hl3.load, load_at k0, evC]; with_reducible rfl)))
  (refine aops_call_to (sunless_c _ _) ?_)
  (refine yg ?_)
  (refine aops_call_to (sfirst_c (l := [_, _]) (Ints.last (l := [_, _]) 2) (by simp)) ?_)
  have e1 : firstErr [evErrL L M, (if decide ((2 : Int) ≤ (M.length : Int)) = true then 0 else 10)] = fewE L M := by
    unfold fewE
    have e0 : ((2 : Int) ≤ (M.length : Int)) = (2 ≤ M.length) := by simp; omega
    simp only [decide_eq_true_eq, e0]
  rw [e1]
  have x4 := x3.app [AObj.cells true 1 [.int .i64 (evErrL L M), .int .i64 (if decide ((2 : Int) ≤ (M.length : Int)) = true then 0 else 10)]]
  have k4 := at_app (N := [AObj.cells true 1 [.int .i64 (evErrL L M), .int .i64 (if decide ((2 : Int) ≤ (M.length : Int)) = true then 0 else 10)]]) k4
  have l4 : (G3 ++ [AObj.cells true 1 [.int .i64 (evErrL L M), .int .i64 (if decide ((2 : Int) ≤ (M.length : Int)) = true then 0 else 10)]]).length = a4 + 2 := by simp [l3]
  generalize (G3 ++ [AObj.cells true 1 [.int .i64 (evErrL L M), .int .i64 (if decide ((2 : Int) ≤ (M.length : Int)) = true then 0 else 10)]] : AHeap) = G4 at x4 k4 l4
  have xH4 := xG.trans x4
  have hl4 := hl.ext xH4
  have k0 := x4.cell g0
  have k1 := x4.cell g1
  by_cases hfe : fewE L M = 0
  rotate_left 1
  · have ee : fewErr L M = fewE L M := by unfold fewErr; rw [if_pos hfe]
    (repeat (first | refine yw ?_ | ((first | apply yd | apply ye); simp (disch := first|exact zz|fail) only [go_sem, dec_f hfe]; with_reducible rfl)))
    refine cond_f rfl ?_
    (repeat (first | refine yw ?_ | ((first | apply yd | apply ye); simp (disch := first|exact zz|fail) only [go_sem, dec_t (show fewE L M ≠ 0 from hfe)]; with_reducible rfl)))
    refine cond_t rfl ?_
    (repeat (first | refine yw ?_ | ((first | apply yd | apply ye); simp (disch := first|exact zz|fail) only [go_sem, fill_none, store_a1 (y := .slice none 0 0) k1 rfl]; with_reducible rfl)))
    exact fin_l2a rfl (get_set_self k1) ⟨xH4.set (by omega) _, _, [], _, rfl, pairs_nil _, .inl ⟨by rw [ee]; exact hfe, ee.symm, rfl⟩⟩
  obtain ⟨hk, h2⟩ := fewE_ok hfe
  have hlen := hk.len
  have hcw := containsM_c (H := G4) (g := 54) (ys := []) (p := wideB) hl4 hb (fun j J hj _ => wide_c (hk.t1 j hj) (hk.t2 j hj))
  (repeat (first | refine yw ?_ | ((first | apply yd | apply ye); simp (disch := first|exact zz|fail) only [go_sem, hl4.len, hl4.idx, hl4.load, load_at k0, evC, dec_t hfe]; with_reducible rfl)))
  (refine aops_call_to (hcw) ?_)
  cases hwd : (idxF wideB M 0 M.length).isSome with
  | true =>
    have ee : fewErr L M = 8 := by unfold fewErr; rw [if_neg (by rw [hfe]; decide), if_pos hwd]
    (refine yg ?_)
    refine cond_t rfl ?_
    (refine yg ?_)
    refine cond_t rfl ?_
    (repeat (first | refine yw ?_ | ((first | apply yd | apply ye); simp (disch := first|exact zz|fail) only [go_sem, fill_none, store_a1 (y := .slice none 0 0) k1 rfl]; with_reducible rfl)))
    exact fin_l2a rfl (get_set_self k1) ⟨xH4.set (by omega) _, _, [], _, rfl, pairs_nil _, .inl ⟨by rw [ee]; decide, ee.symm, rfl⟩⟩
  | false =>
  have ee : fewErr L M = 0 := by unfold fewErr; rw [if_neg (by rw [hfe]; decide), if_neg (by rw [hwd]; simp)]
  (refine yg ?_)
  refine cond_f rfl ?_
  (repeat (first | refine yw ?_ | ((first | apply yd | apply ye); simp (disch := first|exact zz|fail) only [go_sem, hfe]; with_reducible rfl)))
  refine cond_f rfl ?_
  obtain ⟨B, hB⟩ : ∃ B, B = G4 ++ [AObj.cells true 0 [.int .i64 ((M.length : Int) - 1)]] ++ [AObj.map []] ++ [AObj.cells true 0 [.map (some (a4 + 3))]] ++ [AObj.cells true 0 [.int .i64 0, .int .i64 0]] := ⟨_, rfl⟩
  have hgB : ∀ (i : Nat) (c : AObj), G4[i]? = some c → B[i]? = some c := fun i c h => by rw [hB]; exact at_app (at_app (at_app (at_app h)))
  have xB : Ext H B := by rw [hB]; exact (((xH4.app _).app _).app _).app _
  have lB : B.length = a4 + 6 := by rw [hB]; simp [l4]
  have n0 : B[a4 + 2]? = some (.cells true 0 [.int .i64 ((M.length : Int) - 1)]) := by rw [hB, ← l4]; simp
  have n1 : B[a4 + 3]? = some (.map []) := by rw [hB, show a4 + 3 = G4.length + 1 by omega]; simp
  have n2 : B[a4 + 4]? = some (.cells true 0 [.map (some (a4 + 3))]) := by rw [hB, show a4 + 4 = G4.length + 2 by omega]; simp
  have n3 : B[a4 + 5]? = some (.cells true 0 [.int .i64 0, .int .i64 0]) := by rw [hB, show a4 + 5 = G4.length + 3 by omega]; simp
  have b0 := hgB _ _ k0
  have b1 := hgB _ _ k1
  have b4 := hgB _ _ k4
  (repeat (first | refine yv ?_ | (apply yd; simp (disch := first|exact zz|fail) only [go_sem, hl4.len, hl4.idx, hl4.load, load_at k0, evC, store_newI, store_newM]; with_reducible rfl)))
  (simp only [List.length_append, List.length_cons, List.length_nil, Nat.zero_add, Nat.add_assoc, Nat.reduceAdd])
  rw [l4]
  simp only [Nat.add_assoc, Nat.reduceAdd]
  rw [← hB]
  clear hB hgB
  have hlB := hl.ext xB
  (repeat (first | refine yw ?_ | ((first | apply yd | apply ye); simp (disch := first|exact zz|fail) only [go_sem, load_at b0, evC]; with_reducible rfl)))
  refine aops_call ((backward_c (H := B) hl.atom).mono fun w G5 ⟨hw, hG5⟩ => ?_)
  subst hw
  have x5 : Ext B G5 := by rw [hG5]; exact (Ext.refl B).app _
  have c5 : G5[a4 + 6]? = some (.cells true 0 [v]) := by rw [hG5, ← lB]; exact at_new
  have l5 : G5.length = a4 + 7 := by rw [hG5]; simp [lB]
  rw [lB]
  clear hG5
  have o : FewIds H.length a4 (a4 + 2) (a4 + 3) (a4 + 4) (a4 + 5) (a4 + 6) (a4 + 7) := ⟨by omega, by omega, by omega, by omega, by omega, by omega, by omega⟩
  have hS5 : FewSt H a4 (a4 + 2) (a4 + 3) (a4 + 4) (a4 + 5) (a4 + 6) L M v [] (0, 0) G5 := ⟨xB.trans x5, x5.cell b0, x5.cell b1, x5.cell b4, x5.cell n0, x5.cell n1, x5.cell n2, x5.cell n3, c5⟩
  refine yx ?_
  refine awp_rangeA mo rfl (fun l h => by cases h) (back1_c (idb := a4 + 6) (M := M) (v := v) (by omega))
    (fun rest H' => ∃ i m best, rest = backM M i ∧ i ≤ M.length ∧ TabJ L M i m best ∧ FewSt H a4 (a4 + 2) (a4 + 3) (a4 + 4) (a4 + 5) (a4 + 6) L M v m best H')
    (fun _ _ => False) ?_ ?_ ?_ ?_ ?_ ?_ ?_
  · rintro rest H' c ⟨i, m, best, h1, h2, h3, h4⟩
    exact ⟨i, m, best, h1, h2, h3, h4.set o (by omega) _⟩
  · rintro x H' c h
    exact h.elim
  · rintro rest H' ⟨i, m, best, h1, h2, h3, h4⟩
    exact ⟨h4.bb, hl.ext h4.ext⟩
  · intro N
    exact ⟨M.length, [], (0, 0), rfl, Nat.le_refl _, ⟨fun h => by omega, fun h => ⟨MapAt.start (by omega) (Int.le_refl _), rfl⟩⟩, hS5.app N⟩
  · rintro a rest H1 ⟨i, m, best, h1, h2i, h3, h4⟩ hlt
    match i, h1 with
    | k + 1, h1 =>
    obtain ⟨rfl, rfl⟩ := List.cons.inj h1
    have hkl : k < M.length := by omega
    have h3 := h3.open
    obtain ⟨x, hx⟩ : ∃ x, M.getD k (0, 0, 0) = x := ⟨_, rfl⟩
    have t1 := hk.t1 k hkl
    have t2 := hk.t2 k hkl
    have t3 := hk.lohi k hkl
    have px := hk.pos k hkl
    have emp : mP M k = x.1 := by unfold mP; rw [hx]
    obtain ⟨n, hn⟩ : ∃ n, widthN M k = n := ⟨_, rfl⟩
    have hnx : (n : Int) = x.2.2 - x.2.1 + 1 := by rw [← hn, ← hx]; unfold widthN; rw [hx] at t3 ⊢; omega
    rw [hx] at t1 t2 t3 px h3 ⊢
    refine ⟨rfl, fun R Rb _ hR => ?_⟩
    simp only [assignParams, List.zip_cons_cons, List.zip_nil_left, List.foldl_cons, List.foldl_nil]
    have hstm : storeR 3 (.pointer (some ⟨H1.length, 0, none⟩)) (markV x) (H1 ++ [.cells true 0 [.int .i64 0, .int .i64 0, .int .i64 0]]) = some (undef, H1 ++ [.cells true 0 (markC x)]) := store_new3
    (repeat (first | refine yw ?_ | ((first | apply yd | apply ye); simp (disch := first|exact zz|fail) only [go_sem, hstm]; with_reducible rfl)))
    refine ⟨rfl, at_app hR, ?_⟩
    have hS := (h4.app [AObj.cells true 0 (markC x)]).set o (j := G5.length) (by omega) Rb
    have hRb : ((H1 ++ [AObj.cells true 0 (markC x)]).set G5.length Rb)[G5.length]? = some Rb := get_set_self (at_app hR)
    have c11 : ((H1 ++ [AObj.cells true 0 (markC x)]).set G5.length Rb)[H1.length]? = some (.cells true 0 (markC x)) := by rw [List.getElem?_set_ne (by omega)]; exact at_new
    obtain ⟨i11, h11⟩ : ∃ i11, H1.length = i11 := ⟨_, rfl⟩
    rw [h11] at c11 hlt ⊢
    generalize ((H1 ++ [AObj.cells true 0 (markC x)]).set G5.length Rb : AHeap) = Hb at hS hRb c11
    clear h4 hR hstm
    (repeat (first | refine yw ?_ | ((first | apply yd | apply ye); simp (disch := first|exact zz|fail) only [go_sem, load_at c11, markC]; with_reducible rfl)))
    refine awp_loop_n [false, true, true, false, true, false, false, true, true, true, true, true, true, false, false, false, false, false, false, false, false, false, false, false, false, false, false, false, false, false, false, false, false, false, false, false, false, false, false, false, false, false, false, false, false, false, false, false, false, false, false, false, false, false, false, false, false, false, false, false, false, false, false, false, false, false, false, false, false, false, false, false, false, false, false, false, false, false, false, false, false, false, false, false, false, false, false, false, false, false, false, false, false, false, false, false, false, false, false, false, false, false, false, false, false, false, false, false, false, false, false, false, false, false, false, false, false, false, false, false, false, false, false, false, false, false, false, false, false, false, false, false, false, false, false, false, false, false, false, false, false, false, false, false, false, false, false, false, false, false, false, false] n (fun q e H' => ∃ m best, e = [junk, .pointer (some ⟨H.length, 0, none⟩), .pointer (some ⟨H.length + 1, 0, none⟩), junk, .pointer (some ⟨a4, 0, none⟩), junk, junk, .pointer (some ⟨a4 + 2, 0, none⟩), .pointer (some ⟨a4 + 4, 0, none⟩), .pointer (some ⟨a4 + 5, 0, none⟩), .int .i64 (k : Int), .pointer (some ⟨i11, 0, none⟩), .int .i64 (x.2.1 + (q : Int)), junk, junk, junk, junk, junk, junk, junk, junk, junk, junk, junk, junk, junk, junk, junk, junk, junk, junk, junk, junk, junk, junk, junk, junk, junk, junk, junk, junk, junk, junk, junk, junk, junk, junk, junk, junk, junk, junk, junk, junk, junk, junk, junk, junk, junk, junk, junk, junk, junk, junk, junk, junk, junk, junk, junk, junk, junk, junk, junk, junk, junk, junk, junk, junk, junk, junk, junk, junk, junk, junk, junk, junk, junk, junk, junk, junk, junk, junk, junk, junk, junk, junk, junk, junk, junk, junk, junk, junk, junk, junk, junk, junk, junk, junk, junk, junk, junk, junk, junk, junk, junk, junk, junk, junk, junk, junk, junk, junk, junk, junk, junk, junk, junk, junk, junk, junk, junk, junk, junk, junk, junk, junk, junk, junk, junk, junk, junk, junk, junk, junk, junk, junk, junk, junk, junk, junk, junk, junk, junk] ∧
      TabI L M k (x.2.1 + (q : Int)) m best ∧ FewSt H a4 (a4 + 2) (a4 + 3) (a4 + 4) (a4 + 5) (a4 + 6) L M v m best H' ∧ H'[G5.length]? = some Rb ∧ H'[i11]? = some (.cells true 0 (markC x))) ?_ ?_
    · exact ⟨m, best, by simp [forget], by simpa using h3, hS, hRb, c11⟩
    rintro q e H2 hq ⟨m, best, rfl, hT, hS, hRb, c11⟩
    (repeat (first | refine yw ?_ | ((first | apply yd | apply ye); simp (disch := first|exact zz|fail) only [go_sem, load_at c11, markC]; with_reducible rfl)))
    refine cond_p rfl (fun hlt2 => ?_) (fun hge2 => ?_)
    rotate_left 1
    · have hqn : q = n := by omega
      subst hqn
      (refine yg ?_)
      refine rounded_n hRb ⟨k, m, best, rfl, by omega, ?_, hS⟩
      refine TabI.close ?_
      rw [hx]
      rw [show x.2.2 + 1 = x.2.1 + (q : Int) by omega]
      exact hT
    have hqn : q < n := by omega
    obtain ⟨t, ht⟩ : ∃ t, x.2.1 + (q : Int) = t := ⟨_, rfl⟩
    have hin : inR M k t := by unfold inR; rw [hx]; omega
    have ht2 : t + 1 = x.2.1 + ((q + 1 : Nat) : Int) := by omega
    rw [ht] at hT
    have lH2 : a4 + 7 ≤ H2.length ∧ G5.length < H2.length ∧ i11 < H2.length := by
      have q1 := (List.getElem?_eq_some_iff.1 hS.bb).1
      have q2 := (List.getElem?_eq_some_iff.1 hRb).1
      have q3 := (List.getElem?_eq_some_iff.1 c11).1
      omega
    (repeat (first | refine yv ?_ | (apply yd; simp (disch := first|exact zz|fail) only [go_sem, load_at c11, markC, ht, fill2i, store_new2]; with_reducible rfl)))
    have hS := hS.app [AObj.cells true 0 [.int .i64 x.1, .int .i64 t]]
    have hRb := at_app (N := [AObj.cells true 0 [.int .i64 x.1, .int .i64 t]]) hRb
    have c11 := at_app (N := [AObj.cells true 0 [.int .i64 x.1, .int .i64 t]]) c11
    have c13 : (H2 ++ [AObj.cells true 0 [.int .i64 x.1, .int .i64 t]])[H2.length]? = some (.cells true 0 [.int .i64 x.1, .int .i64 t]) := at_new
    obtain ⟨i13, h13⟩ : ∃ i13, H2.length = i13 := ⟨_, rfl⟩
    rw [h13] at c13 lH2 ⊢
    generalize (H2 ++ [AObj.cells true 0 [.int .i64 x.1, .int .i64 t]] : AHeap) = G6 at hS hRb c11 c13
    have hne : ∀ (c : AObj), (G6.set (a4 + 3) c)[G5.length]? = some Rb ∧ (G6.set (a4 + 3) c)[i11]? = some (.cells true 0 (markC x)) ∧ (G6.set (a4 + 3) c)[i13]? = some (.cells true 0 [.int .i64 x.1, .int .i64 t]) := fun c =>
      ⟨by rw [List.getElem?_set_ne (by omega)]; exact hRb, by rw [List.getElem?_set_ne (by omega)]; exact c11, by rw [List.getElem?_set_ne (by omega)]; exact c13⟩
    (repeat (first | refine yw ?_ | ((first | apply yd | apply ye); simp (disch := first|exact zz|fail) only [go_sem, load_at hS.b7]; with_reducible rfl)))
    refine cond_p rfl (fun hlast => ?_) (fun hnl => ?_)
    · have hkl1 : k + 1 = M.length := by omega
      have hw := tabK_last (L := L) hkl1 hin
      have hput : mapPutR [(0, false), (1, false)] (.map (some (a4 + 3))) (.agg ⟨[.int .i64 x.1, .int .i64 t]⟩) (.agg ⟨[.int .i64 1, .int .i64 0, .int .i64 0, .int .i64 0]⟩) G6 = some (undef, G6.set (a4 + 3) (.map (entsP (putP (x.1, t) (wayV (1, (0, 0), 0)) m)))) := map_put hS.mp x.1 t _
      have hT2 := hT.other hk hkl hin hw (by omega)
      rw [emp, ht2] at hT2
      obtain ⟨q1, q2, q3⟩ := hne (.map (entsP (putP (x.1, t) (wayV (1, (0, 0), 0)) m)))
      (repeat (first | refine yw ?_ | ((first | apply yd | apply ye); simp (disch := first|exact zz|fail) only [go_sem, load_at hS.b8, n2_at c13, hput, ht2]; with_reducible rfl)))
      exact ⟨by omega, _, best, by simp [forget], hT2, hS.put o _, q1, q2⟩
    have hkl1 : k + 1 < M.length := by omega
    have hl6 := hl.ext hS.ext
    have hsh : ACall Go.Proofs.Tryz.prog 57 [evV L v, .int .i64 k, .agg ⟨[.int .i64 (mP M k), .int .i64 t]⟩, .map (some (a4 + 3))] G6 fun w H' => w = .tuple #[wayV (outK L M k t), .bool (decide (0 < (outK L M k t).1))] ∧ H' = G6 :=
      shortest_c (T := tabN L M (M.length - (k + 1))) hl6 hk hkl hin hS.mp (fun a b h1 h2 h3 => by rw [tabK_of h2 (by omega) (by omega)]; exact hT.1.get a b h2 (.inl h1) h3) (fun a b w hw => tab_few (by omega) hlen hw)
    have hmid := tabK_mid (L := L) hkl1 hin
    obtain ⟨out, ho⟩ : ∃ out, outK L M k t = out := ⟨_, rfl⟩
    rw [ho] at hsh hmid
    rw [emp] at hsh
    have hst14 := store_newW (H := G6) (w := out) (vs := [.int .i64 0, .int .i64 0, .int .i64 0, .int .i64 0]) rfl
    (repeat (first | refine yw ?_ | ((first | apply yd | apply ye); simp (disch := first|exact zz|fail) only [go_sem, load_ev hS.b4, n2_at c13, load_at hS.b8]; with_reducible rfl)))
    (refine aops_call_to (hsh) ?_)
    (repeat (first | refine yv ?_ | (apply yd; simp (disch := first|exact zz|fail) only [go_sem, hst14]; with_reducible rfl)))
    have hS7 := hS.app [AObj.cells true 0 (wayC out)]
    have hRb := at_app (N := [AObj.cells true 0 (wayC out)]) hRb
    have c11 := at_app (N := [AObj.cells true 0 (wayC out)]) c11
    have l13 : i13 < G6.length := (List.getElem?_eq_some_iff.1 c13).1
    have c13 := at_app (N := [AObj.cells true 0 (wayC out)]) c13
    have c14 : (G6 ++ [AObj.cells true 0 (wayC out)])[G6.length]? = some (.cells true 0 (wayC out)) := at_new
    obtain ⟨i14, h14⟩ : ∃ i14, G6.length = i14 := ⟨_, rfl⟩
    rw [h14] at c14 l13 ⊢
    clear hne hst14
    generalize (G6 ++ [AObj.cells true 0 (wayC out)] : AHeap) = G7 at hS7 hRb c11 c13 c14
    refine cond_p (p := 0 < out.1) rfl (fun h0 => ?_) (fun h0 => ?_)
    rotate_left 1
    · rw [if_neg h0] at hmid
      have hT2 := hT.skip hk hkl hmid
      rw [ht2] at hT2
      (repeat (first | refine yw ?_ | ((first | apply yd | apply ye); simp (disch := first|exact zz|fail) only [go_sem, ht2]; with_reducible rfl)))
      exact ⟨by omega, m, best, by simp [forget], hT2, hS7, hRb, c11⟩
    rw [if_pos h0] at hmid
    obtain ⟨m', hm'⟩ : ∃ m', putP (x.1, t) (wayV out) m = m' := ⟨_, rfl⟩
    have hput : mapPutR [(0, false), (1, false)] (.map (some (a4 + 3))) (.agg ⟨[.int .i64 x.1, .int .i64 t]⟩) (wayV out) G7 = some (undef, G7.set (a4 + 3) (.map (entsP m'))) := by rw [← hm']; exact map_put hS7.mp x.1 t _
    have hS8 := hS7.put o m'
    have hRb := (show (G7.set (a4 + 3) (.map (entsP m')))[G5.length]? = some Rb by rw [List.getElem?_set_ne (by omega)]; exact hRb)
    have c11 := (show (G7.set (a4 + 3) (.map (entsP m')))[i11]? = some (.cells true 0 (markC x)) by rw [List.getElem?_set_ne (by omega)]; exact c11)
    have d13 := (show (G7.set (a4 + 3) (.map (entsP m')))[i13]? = some (.cells true 0 [.int .i64 x.1, .int .i64 t]) by rw [List.getElem?_set_ne (by omega)]; exact c13)
    have d14 := (show (G7.set (a4 + 3) (.map (entsP m')))[i14]? = some (.cells true 0 (wayC out)) by rw [List.getElem?_set_ne (by omega)]; exact c14)
    (repeat (first | refine yv ?_ | (apply yd; simp (disch := first|exact zz|fail) only [go_sem, load_at hS7.b8, n2_at c13, load_way c14, hput]; with_reducible rfl)))
    generalize (G7.set (a4 + 3) (.map (entsP m')) : AHeap) = G8 at hS8 hRb c11 d13 d14
    obtain ⟨og, hog, hcase⟩ : ∃ og : Option Way, getP m' best = og.map wayV ∧ ((k ≠ 0 ∧ TabI L M k (t + 1) m' best) ∨ (k = 0 ∧ ((og = none ∧ TabI L M k (t + 1) m' (x.1, t)) ∨ ∃ u : Way, og = some u ∧ best.1 = x.1 ∧ (out.1 < u.1 → TabI L M k (t + 1) m' (x.1, t)) ∧ (¬ out.1 < u.1 → TabI L M k (t + 1) m' best)))) := by
      by_cases hk0 : k = 0
      · subst hk0
        obtain ⟨og, h1, h2⟩ := hT.first hk (by omega) hin hmid
        rw [emp, hm'] at h1 h2
        exact ⟨og, h1, .inr ⟨rfl, h2⟩⟩
      · have h2 := hT.other hk hkl hin hmid hk0
        rw [emp, hm'] at h2
        obtain ⟨og, h1⟩ := h2.1.any best
        exact ⟨og, h1, .inl ⟨hk0, h2⟩⟩
    have hst16 := store_newW (H := G8) (w := og.getD zeroW) (vs := [.int .i64 0, .int .i64 0, .int .i64 0, .int .i64 0]) rfl
    (repeat (first | refine yv ?_ | (apply yd; simp (disch := first|exact zz|fail) only [go_sem, load_at hS8.b8, n2_at hS8.b9, get_way hS8.mp hog, hst16]; with_reducible rfl)))
    have hS9 := hS8.app [AObj.cells true 0 (wayC (og.getD zeroW))]
    have hRb := at_app (N := [AObj.cells true 0 (wayC (og.getD zeroW))]) hRb
    have c11 := at_app (N := [AObj.cells true 0 (wayC (og.getD zeroW))]) c11
    have d13 := at_app (N := [AObj.cells true 0 (wayC (og.getD zeroW))]) d13
    have d14 := at_app (N := [AObj.cells true 0 (wayC (og.getD zeroW))]) d14
    have d16 : (G8 ++ [AObj.cells true 0 (wayC (og.getD zeroW))])[G8.length]? = some (.cells true 0 (wayC (og.getD zeroW))) := at_new
    obtain ⟨i16, h16⟩ : ∃ i16, G8.length = i16 := ⟨_, rfl⟩
    rw [h16] at d16 ⊢
    clear hst16 hput
    generalize (G8 ++ [AObj.cells true 0 (wayC (og.getD zeroW))] : AHeap) = G9 at hS9 hRb c11 d13 d14 d16
    have better : TabI L M k (t + 1) m' (x.1, t) → ∃ m best, ([junk, .pointer (some ⟨H.length, 0, none⟩)] : List Value) = [junk, .pointer (some ⟨H.length, 0, none⟩)] ∧ TabI L M k (x.2.1 + ((q + 1 : Nat) : Int)) m best ∧ FewSt H a4 (a4 + 2) (a4 + 3) (a4 + 4) (a4 + 5) (a4 + 6) L M v m best (G9.set (a4 + 5) (.cells true 0 [.int .i64 x.1, .int .i64 t])) ∧ (G9.set (a4 + 5) (.cells true 0 [.int .i64 x.1, .int .i64 t]))[G5.length]? = some Rb ∧ (G9.set (a4 + 5) (.cells true 0 [.int .i64 x.1, .int .i64 t]))[i11]? = some (.cells true 0 (markC x)) := fun hT2 =>
      ⟨m', (x.1, t), rfl, ht2 ▸ hT2, hS9.setBest o (x.1, t), by rw [List.getElem?_set_ne (by omega)]; exact hRb, by rw [List.getElem?_set_ne (by omega)]; exact c11⟩
    rcases hcase with ⟨hk0, hT2⟩ | ⟨hk0, ⟨rfl, hT2⟩ | ⟨u, rfl, hb1, hT2, hT3⟩⟩
    · (repeat (first | refine yw ?_ | ((first | apply yd | apply ye); simp (disch := first|exact zz|fail) only [go_sem, dec_f (show ¬ (k : Int) = 0 by omega)]; with_reducible rfl)))
      refine cond_f rfl ?_
      (repeat (first | refine yw ?_ | ((first | apply yd | apply ye); simp (disch := first|exact zz|fail) only [go_sem, ht2]; with_reducible rfl)))
      exact ⟨by omega, m', best, by simp [forget], ht2 ▸ hT2, hS9, hRb, c11⟩
    · obtain ⟨m2, best2, _, r1, r2, r3, r4⟩ := better hT2
      (repeat (first | refine yw ?_ | ((first | apply yd | apply ye); simp (disch := first|exact zz|fail) only [go_sem, dec_t (show (k : Int) = 0 by omega)]; with_reducible rfl)))
      refine cond_t rfl ?_
      (repeat (first | refine yw ?_ | ((first | apply yd | apply ye); simp (disch := first|exact zz|fail) only [go_sem, n2_at d13, store_b2 hS9.b9, ht2]; with_reducible rfl)))
      exact ⟨by omega, m2, best2, by simp [forget], r1, r2, r3, r4⟩
    · have d16' : G9[i16]? = some (.cells true 0 (wayC u)) := d16
      by_cases hwu : out.1 < u.1
      · obtain ⟨m2, best2, _, r1, r2, r3, r4⟩ := better (hT2 hwu)
        (repeat (first | refine yw ?_ | ((first | apply yd | apply ye); simp (disch := first|exact zz|fail) only [go_sem, dec_t (show (k : Int) = 0 by omega), load_at hS9.b9, load_at c11, markC, hb1, load_at d14, load_at d16', wayC, dec_t (show (out.1 : Int) < (u.1 : Int) by omega)]; with_reducible rfl)))
        refine cond_t rfl ?_
        (repeat (first | refine yw ?_ | ((first | apply yd | apply ye); simp (disch := first|exact zz|fail) only [go_sem, n2_at d13, store_b2 hS9.b9, ht2]; with_reducible rfl)))
        exact ⟨by omega, m2, best2, by simp [forget], r1, r2, r3, r4⟩
      · (repeat (first | refine yw ?_ | ((first | apply yd | apply ye); simp (disch := first|exact zz|fail) only [go_sem, dec_t (show (k : Int) = 0 by omega), load_at hS9.b9, load_at c11, markC, hb1, load_at d14, load_at d16', wayC, dec_f (show ¬ (out.1 : Int) < (u.1 : Int) by omega)]; with_reducible rfl)))
        refine cond_f rfl ?_
        (repeat (first | refine yw ?_ | ((first | apply yd | apply ye); simp (disch := first|exact zz|fail) only [go_sem, ht2]; with_reducible rfl)))
        exact ⟨by omega, m', best, by simp [forget], ht2 ▸ hT3 hwu, hS9, hRb, c11⟩
  · rintro H' ⟨i, m, best, h1, h2i, h3, h4⟩
    match i, h1 with
    | 0, _ =>
    obtain ⟨hM, hBs⟩ := h3.1 rfl
    clear h3 x5 c5 l5 hS5 n0 n1 n2 n3 b0 b1 b4 xB lB hlB
    have hl9 := hl.ext h4.ext
    rcases hBs with ⟨e1, e2⟩ | ⟨b, w, e1, e2, e3, e4, e5⟩
    · have hg0 : getP m best = (none : Option Way).map wayV := by
        rw [e1]
        cases hp : getP m (0, 0) with
        | none => rfl
        | some x =>
          obtain ⟨k', b, e3, hk', hc, hrb⟩ := hM.only (0, 0) (by rw [hp]; simp)
          have hb1 : (0 : Int) = mP M k' := (Prod.mk.inj e3).1
          have p0 := hk.pos 0 (by omega)
          rcases hc with hc | ⟨rfl, hc⟩
          · have := hk.lt hc hk'
            unfold mP at hb1; omega
          · have := hM.get 0 b (by omega) (.inr ⟨rfl, hc⟩) hrb
            rw [← e3, hp, e2 b hrb hc] at this; cases this
      have hst := store_newW (H := H') (w := zeroW) (vs := [.int .i64 0, .int .i64 0, .int .i64 0, .int .i64 0]) rfl
      have hg1 := get_way h4.mp hg0
      (repeat (first | refine yw ?_ | ((first | apply yd | apply ye); simp (disch := first|exact zz|fail) only [go_sem, load_at h4.b8, n2_at h4.b9, hg1, Option.getD_none, hst]; with_reducible rfl)))
      refine cond_t rfl ?_
      have k1 := at_app (N := [AObj.cells true 0 (wayC zeroW)]) h4.b2
      (repeat (first | refine yw ?_ | ((first | apply yd | apply ye); simp (disch := first|exact zz|fail) only [go_sem, fill_none, store_a1 (y := .slice none 0 0) k1 rfl]; with_reducible rfl)))
      exact fin_l2a rfl (get_set_self k1) ⟨(h4.ext.app _).set (by omega) _, _, [], _, rfl, pairs_nil _, .inr (.inl ⟨ee, rfl, rfl, none_chain (by omega) e2⟩)⟩
    have hw12 := ((tabK_spec (show 0 < M.length by omega)).1 w e4).1.few
    have hg0 : getP m best = (some w).map wayV := by rw [e1, hM.get 0 b (by omega) (.inr ⟨rfl, e3⟩) e2, e4]
    have hst := store_newW (H := H') (w := w) (vs := [.int .i64 0, .int .i64 0, .int .i64 0, .int .i64 0]) rfl
    have hg1 := get_way h4.mp hg0
    subst e1
    (repeat (first | refine yv ?_ | (apply yd; simp (disch := first|exact zz|fail) only [go_sem, load_at h4.b8, n2_at h4.b9, hg1, Option.getD_some, hst]; with_reducible rfl)))
    have hS := h4.app [AObj.cells true 0 (wayC w)]
    have c18 : (H' ++ [AObj.cells true 0 (wayC w)])[H'.length]? = some (.cells true 0 (wayC w)) := at_new
    have li : a4 + 7 ≤ H'.length := (List.getElem?_eq_some_iff.1 h4.bb).1
    obtain ⟨i18, h18⟩ : ∃ i18, H'.length = i18 := ⟨_, rfl⟩
    have lF : (H' ++ [AObj.cells true 0 (wayC w)]).length = i18 + 1 := by simp [h18]
    rw [h18] at c18 li ⊢
    clear h4 hst hg1
    generalize (H' ++ [AObj.cells true 0 (wayC w)] : AHeap) = F at hS c18 lF
    have hl10 := hl.ext hS.ext
    have hm0 := (hl10.load (Ext.refl F) (i := 0) (by omega)).2.2.2.2.2.2.2.1
    have hf0 := (hl10.load (Ext.refl F) (i := 0) (by omega)).2.2.1
    have hix := hl10.idx (H' := F) (i := 0) (k := .i64) (by omega) (by omega)
    rw [show ((0 : Int).toNat * 3) = 0 * 3 from rfl] at hix
    (repeat (first | refine yw ?_ | ((first | apply yd | apply ye); simp (disch := first|exact zz|fail) only [go_sem, load_at hS.b9, load_at hS.b1, evC, hix, hf0, hm0]; with_reducible rfl)))
    refine cond_f rfl ?_
    have hsl : ∀ J : AHeap, storeR 1 (.pointer (some ⟨J.length, 0, none⟩)) (.agg ⟨[.slice (some ⟨i18 + 1, 0, none⟩) 1 1]⟩) (J ++ [.cells true 0 [.slice none 0 0]]) = some (undef, J ++ [.cells true 0 [.slice (some ⟨i18 + 1, 0, none⟩) 1 1]]) := fun J => store_newA rfl
    (repeat (first | refine yv ?_ | (apply yd; simp (disch := first|exact zz|fail) only [go_sem, n2_at hS.b9, fill_pair, fillA_slice, lF, hsl]; with_reducible rfl)))
    obtain ⟨F2, hF2⟩ : ∃ F2, F2 = F ++ [AObj.cells true 2 [.int .i64 (mP M 0), .int .i64 b]] ++ [AObj.cells true 0 [.slice (some ⟨i18 + 1, 0, none⟩) 1 1]] := ⟨_, rfl⟩
    have hS2 : FewSt H a4 (a4 + 2) (a4 + 3) (a4 + 4) (a4 + 5) (a4 + 6) L M v m (mP M 0, b) F2 := by rw [hF2]; exact (hS.app _).app _
    have c18 : F2[i18]? = some (.cells true 0 (wayC w)) := by rw [hF2]; exact at_app (at_app c18)
    have c19 : F2[i18 + 1]? = some (.cells true 2 [.int .i64 (mP M 0), .int .i64 b]) := by rw [hF2, ← lF]; exact at_app at_new
    have c20 : F2[i18 + 2]? = some (.cells true 0 [.slice (some ⟨i18 + 1, 0, none⟩) 1 1]) := by rw [hF2, show i18 + 2 = F.length + 1 by omega]; simp
    have hown : OwnP F F2 [(mP M 0, b)] (.slice (some ⟨i18 + 1, 0, none⟩) 1 1) := ⟨rfl, .inr ⟨i18 + 1, rfl, by omega, Nat.one_pos, c19⟩⟩
    try (simp only [List.length_append, List.length_cons, List.length_nil, Nat.zero_add, Nat.add_assoc, Nat.reduceAdd])
    try simp only [lF, Nat.add_assoc, Nat.reduceAdd]
    rw [← hF2]
    clear hF2 c19 hsl
    refine awp_loop_n [false, true, true, false, false, false, false, false, true, false, false, false, false, false, false, false, false, false, true, false, true, false, false, false, false, false, false, false, false, false, false, false, false, false, false, false, false, false, false, false, false, false, false, false, false, false, false, false, false, false, false, false, false, false, false, false, false, false, false, false, false, false, false, false, false, false, false, false, false, false, false, false, false, false, false, false, false, false, false, false, false, false, false, false, false, false, false, false, false, false, false, false, false, false, false, false, false, false, false, false, false, false, false, false, false, false, false, false, false, false, false, false, false, false, false, false, false, false, false, false, false, false, false, false, false, false, false, false, false, false, false, false, false, false, false, false, false, false, false, false, false, false, false, false, false, false, false, false, false, false, false, false] (w.1 - 1) (fun j e J => ∃ k c u pre sv, e = [junk, .pointer (some ⟨H.length, 0, none⟩), .pointer (some ⟨H.length + 1, 0, none⟩), junk, junk, junk, junk, junk, .pointer (some ⟨a4 + 4, 0, none⟩), junk, junk, junk, junk, junk, junk, junk, junk, junk, .pointer (some ⟨i18, 0, none⟩), junk, .pointer (some ⟨i18 + 2, 0, none⟩), junk, junk, junk, junk, junk, junk, junk, junk, junk, junk, junk, junk, junk, junk, junk, junk, junk, junk, junk, junk, junk, junk, junk, junk, junk, junk, junk, junk, junk, junk, junk, junk, junk, junk, junk, junk, junk, junk, junk, junk, junk, junk, junk, junk, junk, junk, junk, junk, junk, junk, junk, junk, junk, junk, junk, junk, junk, junk, junk, junk, junk, junk, junk, junk, junk, junk, junk, junk, junk, junk, junk, junk, junk, junk, junk, junk, junk, junk, junk, junk, junk, junk, junk, junk, junk, junk, junk, junk, junk, junk, junk, junk, junk, junk, junk, junk, junk, junk, junk, junk, junk, junk, junk, junk, junk, junk, junk, junk, junk, junk, junk, junk, junk, junk, junk, junk, junk, junk, junk, junk, junk, junk, junk, junk, junk, junk, junk, junk, junk, junk, junk] ∧
      k < M.length ∧ tabK L M k c = some u ∧ u.1 + j = w.1 ∧ pre.length = j ∧ (∀ l, ChainL L M k c l → ChainL L M 0 b (pre ++ l)) ∧ FewSt H a4 (a4 + 2) (a4 + 3) (a4 + 4) (a4 + 5) (a4 + 6) L M v m (mP M 0, b) J ∧ J[i18]? = some (.cells true 0 (wayC u)) ∧ J[i18 + 2]? = some (.cells true 0 [sv]) ∧ OwnP F J (pre ++ [(mP M k, c)]) sv ∧ idOf sv ≠ i18 + 2 ∧ i18 + 2 < J.length) ?_ ?_
    · exact ⟨0, b, w, [], _, by simp [forget], by omega, e4, rfl, rfl, fun l h => h, hS2, c18, c20, hown, by show i18 + 1 ≠ i18 + 2; omega, (List.getElem?_eq_some_iff.1 c20).1⟩
    clear hS2 c18 c20 hown
    rintro j e J hj ⟨k, c, u, pre, sv, rfl, hkl, hu, huj, hpl, hch, hS3, c18, c20, hown, hid, hlJ⟩
    have hu0 := ((tabK_spec hkl).1 u hu).1.lt.2
    have hpl2 : (pre ++ [(mP M k, c)]).length = j + 1 := by simp [hpl]
    (repeat (first | refine yw ?_ | ((first | apply yd | apply ye); simp (disch := first|exact zz|fail) only [go_sem, load_at c18, wayC]; with_reducible rfl)))
    refine cond_p (p := (1 : Int) < (u.1 : Int)) rfl (fun hlt => ?_) (fun hge => ?_)
    rotate_left 1
    · obtain ⟨hk1, hin⟩ := tab_one hkl hu (by omega)
      have hfin := hch _ (ChainL.last hk1 hin)
      have k1 := hS3.b2
      have hsv : isAtom sv = true := hown.pairs.atom
      (repeat (first | refine yw ?_ | ((first | apply yd | apply ye); simp (disch := first|exact zz|fail) only [go_sem, n1_at c20, store_a1 (y := sv) k1 hsv]; with_reducible rfl)))
      refine fin_l2a rfl (get_set_self k1) ⟨hS3.ext.set (by omega) _, sv, pre ++ [(mP M k, c)], 0, rfl, (hown.set_ne (hown.aside (by omega)) _).pairs, .inr (.inr ⟨ee, rfl, b, hfin, fun s' n hc => ?_⟩)⟩
      have := first_min (by omega) e5 s' n hc
      omega
    obtain ⟨a, d, w', n1, n2, n3, n4, n5, n6, n7⟩ := tab_next hkl hu (by omega)
    have en1 : u.2.1.1 = mP M a := by rw [n5]
    have en2 : u.2.1.2 = d := by rw [n5]
    have hgw : getP m (mP M a, d) = (some w').map wayV := by
      rw [hM.get a d n2 ?_ n3, n6]
      by_cases ha : a = 0
      · omega
      · exact .inl (by omega)
    have hpush := hown.push (by rw [hpl2]; omega) (mP M a) d
    have hlF : F.length ≤ J.length := by omega
    have own2 := hown.pushedL hlF (mP M a, d)
    have hasd : ∀ i, i < i18 + 1 → sv = .slice none 0 0 ∨ idOf sv ≠ i := fun i hi => hown.aside (by omega)
    have p20 := pushP_at (l := pre ++ [(mP M k, c)]) (x := (mP M a, d)) c20 (.inr hid)
    have p18 := pushP_at (l := pre ++ [(mP M k, c)]) (x := (mP M a, d)) c18 (hasd _ (by omega))
    have hst20 := store_b1 (y := pushV J (pre ++ [(mP M k, c)]).length) p20 rfl rfl
    rw [hpl2] at hpush own2 hst20
    have hS4 := (hS3.push o hown (by omega) (mP M a, d)).set o (j := i18 + 2) (by omega) (.cells true 0 [pushV J (j + 1)])
    have q18 := (show ((pushPH J sv (pre ++ [(mP M k, c)]) (mP M a, d)).set (i18 + 2) (.cells true 0 [pushV J (j + 1)]))[i18]? = some (.cells true 0 (wayC u)) by rw [List.getElem?_set_ne (by omega)]; exact p18)
    have q20 := (show ((pushPH J sv (pre ++ [(mP M k, c)]) (mP M a, d)).set (i18 + 2) (.cells true 0 [pushV J (j + 1)]))[i18 + 2]? = some (.cells true 0 [pushV J (j + 1)]) from get_set_self p20)
    have own3 := own2.set_ne (j := i18 + 2) (.inr (by show J.length + 1 ≠ i18 + 2; omega)) (.cells true 0 [pushV J (j + 1)])
    have l4' : ((pushPH J sv (pre ++ [(mP M k, c)]) (mP M a, d)).set (i18 + 2) (.cells true 0 [pushV J (j + 1)])).length = J.length + 2 := by rw [List.length_set, pushP_len]
    (repeat (first | refine yv ?_ | (apply yd; simp (disch := first|exact zz|fail) only [go_sem, load1 c20, load_way2 c18, en1, en2, fill_pair, hpush, hst20]; with_reducible rfl)))
    generalize ((pushPH J sv (pre ++ [(mP M k, c)]) (mP M a, d)).set (i18 + 2) (.cells true 0 [pushV J (j + 1)]) : AHeap) = J2 at hS4 q18 q20 own3 l4'
    have hst18 := store_atW (w := w') q18
    (repeat (first | refine yw ?_ | ((first | apply yd | apply ye); simp (disch := first|exact zz|fail) only [go_sem, load_at hS4.b8, load_way2 q18, en1, en2, get_way1 hS4.mp hgw, Option.getD_some, hst18]; with_reducible rfl)))
    refine ⟨by omega, a, d, w', pre ++ [(mP M k, c)], pushV J (j + 1), by simp [forget], n2, n6, by omega, hpl2, fun l hl => ?_, hS4.set o (by omega) _, get_set_self q18, ?_, own3.set_ne (.inr ?_) _, ?_, ?_⟩
    · rw [List.append_assoc]
      exact hch _ (ChainL.step ((tabK_spec hkl).1 u hu).1.inR n1 n4 hl)
    · rw [List.getElem?_set_ne (by omega)]; exact q20
    · show J.length + 1 ≠ i18; omega
    · show J.length + 1 ≠ i18 + 2; omega
    · rw [List.length_set]; omega
  · rintro x H' hx h
    exact h.elim
end
end Go.Lq

namespace Go.Lq
open Go
open Go.Proofs

def mapX : List (Int × Int) := [(0, 0), (10, 100), (20, 220)]
def evX : List Mark := [(0, 0, 0), (10, 90, 130), (20, 150, 210)]
def bentX : List Mark := [(0, 0, 0), (10, 90, 92), (20, 200, 204)]
theorem posX : posAtL mapX 105 = ((666, 667), 0) := by decide +kernel
theorem encX : encAtL (8, 12) evX 10 = ((90, 120), 0) := by decide +kernel
theorem wowX : wowL mapX = ((10, 1), 1, 0) := by decide +kernel
theorem fewX : fewErr (8, 12) bentX = 0 := by decide +kernel
theorem bentChain : Chain (8, 12) bentX 0 0 3 :=
  .step ⟨by decide, by decide⟩ (k := 1) (t := 90) (by decide) ⟨by decide, fun j a b => by omega⟩
    (.step ⟨by decide, by decide⟩ (k := 2) (t := 204) (by decide) ⟨by decide, fun j a b => by omega⟩ (.last rfl ⟨by decide, by decide⟩))
theorem bentRes {l : List (Int × Int)} {e : Int} (h : FewRes (8, 12) bentX l e) : e = 0 ∧ l.length = 3 := by
  rcases h with ⟨h, _⟩ | ⟨_, _, _, h⟩ | ⟨_, h, s, hc, hm⟩
  · exact absurd fewX h
  · exact absurd bentChain (h 0 3)
  · refine ⟨h, ?_⟩
    have h3 := hm 0 3 bentChain
    cases hc with
    | last hi _ => cases hi
    | @step _ k _ t l hr hik hj hc =>
      cases hc with
      | last hi hr2 =>
        have hi : k + 1 = 3 := hi
        obtain rfl : k = 2 := by omega
        have hm1 : meetsB ((0, s), (20, t)) (10, 90, 92) = true := hj.meets 1 (by decide) (by decide)
        have hm2 : (90 : Int) * (20 - 0) ≤ s * (20 - 0) + (t - s) * (10 - 0) ∧ s * (20 - 0) + (t - s) * (10 - 0) ≤ 92 * (20 - 0) := of_decide_eq_true hm1
        have r1 : (0 : Int) ≤ s ∧ s ≤ 0 := hr
        have r2 : (200 : Int) ≤ t ∧ t ≤ 204 := hr2
        omega
      | step hr2 hik2 hj2 hc2 =>
        have := hc2.chain.lt.2
        simp only [List.length_cons] at h3 ⊢
        omega
theorem fbt : (false != true) = true := rfl
section
variable {H : AHeap}
theorem map0_c : ACall Go.Proofs.Tryz.prog 20 [] H fun w H' => ∃ s, w = .agg ⟨[s]⟩ ∧ Pairs H' mapX s ∧ Ext H H' := by
  (refine a20 ?_; simp only [n20, List.replicate, yq, yr, yt, yu]; first | refine q1 ?_ | refine q2 ?_ | refine q6 ?_ | refine q7 ?_ | refine qh rfl ?_ | skip)
  have g0 : (H ++ [AObj.cells true 0 [.slice none 0 0]])[H.length]? = some (.cells true 0 [.slice none 0 0]) := at_new
  have xG : Ext H (H ++ [AObj.cells true 0 [.slice none 0 0]]) := (Ext.refl H).app _
  (refine yh ?_)
  generalize (H ++ [AObj.cells true 0 [.slice none 0 0]] : AHeap) = G at g0 xG
  have hf : fillA [.int .i64 0, .int .i64 0, .int .i64 0, .int .i64 0, .int .i64 0, .int .i64 0] [(0, 2, .agg ⟨[.int .i64 0, .int .i64 0]⟩), (2, 2, .agg ⟨[.int .i64 10, .int .i64 100]⟩), (4, 2, .agg ⟨[.int .i64 20, .int .i64 220]⟩)] = some (flatP mapX) := rfl
  have hm : mkSliceL 2 3 (some (flatP mapX)) G = some (.slice (some ⟨G.length, 0, none⟩) 3 3, G ++ [.cells true 2 (flatP mapX)]) := mkSliceL_some rfl
  have k0 := at_app (N := [AObj.cells true 2 (flatP mapX)]) g0
  have hP : Pairs (G ++ [AObj.cells true 2 (flatP mapX)]) mapX (.slice (some ⟨G.length, 0, none⟩) 3 3) := Pairs.last (l := mapX) 3
  have hst := store_a1 (y := .slice (some ⟨G.length, 0, none⟩) 3 3) k0 rfl
  (repeat (first | refine yw ?_ | ((first | apply yd | apply ye); simp (disch := first|exact zz|fail) only [go_sem, fill_none, fill2i, hf, hm, fillA_slice, hst]; with_reducible rfl)))
  refine fin_l1 (u := .agg ⟨[.slice (some ⟨G.length, 0, none⟩) 3 3]⟩) (n1_at (get_set_self k0)) ⟨_, rfl, ?_, (xG.app _).set (Nat.le_refl _) _⟩
  have hl := (List.getElem?_eq_some_iff.1 g0).1
  exact Sl.of (e := 2) (o := true) (by rw [List.getElem?_set_ne (by omega)]; exact at_new) rfl
theorem ev0_c : ACall Go.Proofs.Tryz.prog 22 [] H fun w H' => ∃ s, w = evV (8, 12) s ∧ Tris H' evX s ∧ Ext H H' := by
  (refine a22 ?_; simp only [n22, List.replicate, yq, yr, yt, yu]; first | refine q1 ?_ | refine q2 ?_ | refine q6 ?_ | refine q7 ?_ | refine qh rfl ?_ | skip)
  have g0 : (H ++ [AObj.cells true 0 [.int .i64 0, .int .i64 0, .slice none 0 0]])[H.length]? = some (.cells true 0 [.int .i64 0, .int .i64 0, .slice none 0 0]) := at_new
  have xG : Ext H (H ++ [AObj.cells true 0 [.int .i64 0, .int .i64 0, .slice none 0 0]]) := (Ext.refl H).app _
  (refine yh ?_)
  generalize (H ++ [AObj.cells true 0 [.int .i64 0, .int .i64 0, .slice none 0 0]] : AHeap) = G at g0 xG
  have hf1 : ∀ a b c : Int, fillA [.int .i64 0, .int .i64 0, .int .i64 0] [(0, 1, .int .i64 a), (1, 2, .agg ⟨[.int .i64 b, .int .i64 c]⟩)] = some [.int .i64 a, .int .i64 b, .int .i64 c] := fun _ _ _ => rfl
  have hf : fillA [.int .i64 0, .int .i64 0, .int .i64 0, .int .i64 0, .int .i64 0, .int .i64 0, .int .i64 0, .int .i64 0, .int .i64 0] [(0, 3, .agg ⟨[.int .i64 0, .int .i64 0, .int .i64 0]⟩), (3, 3, .agg ⟨[.int .i64 10, .int .i64 90, .int .i64 130]⟩), (6, 3, .agg ⟨[.int .i64 20, .int .i64 150, .int .i64 210]⟩)] = some (flat3 evX) := rfl
  have hm : mkSliceL 3 3 (some (flat3 evX)) G = some (.slice (some ⟨G.length, 0, none⟩) 3 3, G ++ [.cells true 3 (flat3 evX)]) := mkSliceL_some rfl
  have hf2 : fillA [.int .i64 0, .int .i64 0, .slice none 0 0] [(0, 2, .agg ⟨[.int .i64 8, .int .i64 12]⟩), (2, 1, .slice (some ⟨G.length, 0, none⟩) 3 3)] = some (evC (8, 12) (.slice (some ⟨G.length, 0, none⟩) 3 3)) := rfl
  have k0 := at_app (N := [AObj.cells true 3 (flat3 evX)]) g0
  have hst := store_all (n := 3) (us := evC (8, 12) (.slice (some ⟨G.length, 0, none⟩) 3 3)) k0 rfl rfl rfl
  (repeat (first | refine yw ?_ | ((first | apply yd | apply ye); simp (disch := first|exact zz|fail) only [go_sem, fill_none, fill2i, hf1, hf, hm, hf2, hst]; with_reducible rfl)))
  refine fin_l1 (u := evV (8, 12) (.slice (some ⟨G.length, 0, none⟩) 3 3)) (load_ev (get_set_self k0)) ⟨_, rfl, ?_, (xG.app _).set (Nat.le_refl _) _⟩
  have hl := (List.getElem?_eq_some_iff.1 g0).1
  exact Sl.of (e := 3) (o := true) (by rw [List.getElem?_set_ne (by omega)]; exact at_new) rfl
theorem bent_c : ACall Go.Proofs.Tryz.prog 24 [] H fun w H' => ∃ s, w = evV (8, 12) s ∧ Tris H' bentX s ∧ Ext H H' := by
  (refine a24 ?_; simp only [n24, List.replicate, yq, yr, yt, yu]; first | refine q1 ?_ | refine q2 ?_ | refine q6 ?_ | refine q7 ?_ | refine qh rfl ?_ | skip)
  have g0 : (H ++ [AObj.cells true 0 [.int .i64 0, .int .i64 0, .slice none 0 0]])[H.length]? = some (.cells true 0 [.int .i64 0, .int .i64 0, .slice none 0 0]) := at_new
  have xG : Ext H (H ++ [AObj.cells true 0 [.int .i64 0, .int .i64 0, .slice none 0 0]]) := (Ext.refl H).app _
  (refine yh ?_)
  generalize (H ++ [AObj.cells true 0 [.int .i64 0, .int .i64 0, .slice none 0 0]] : AHeap) = G at g0 xG
  have hf1 : ∀ a b c : Int, fillA [.int .i64 0, .int .i64 0, .int .i64 0] [(0, 1, .int .i64 a), (1, 2, .agg ⟨[.int .i64 b, .int .i64 c]⟩)] = some [.int .i64 a, .int .i64 b, .int .i64 c] := fun _ _ _ => rfl
  have hf : fillA [.int .i64 0, .int .i64 0, .int .i64 0, .int .i64 0, .int .i64 0, .int .i64 0, .int .i64 0, .int .i64 0, .int .i64 0] [(0, 3, .agg ⟨[.int .i64 0, .int .i64 0, .int .i64 0]⟩), (3, 3, .agg ⟨[.int .i64 10, .int .i64 90, .int .i64 92]⟩), (6, 3, .agg ⟨[.int .i64 20, .int .i64 200, .int .i64 204]⟩)] = some (flat3 bentX) := rfl
  have hm : mkSliceL 3 3 (some (flat3 bentX)) G = some (.slice (some ⟨G.length, 0, none⟩) 3 3, G ++ [.cells true 3 (flat3 bentX)]) := mkSliceL_some rfl
  have hf2 : fillA [.int .i64 0, .int .i64 0, .slice none 0 0] [(0, 2, .agg ⟨[.int .i64 8, .int .i64 12]⟩), (2, 1, .slice (some ⟨G.length, 0, none⟩) 3 3)] = some (evC (8, 12) (.slice (some ⟨G.length, 0, none⟩) 3 3)) := rfl
  have k0 := at_app (N := [AObj.cells true 3 (flat3 bentX)]) g0
  have hst := store_all (n := 3) (us := evC (8, 12) (.slice (some ⟨G.length, 0, none⟩) 3 3)) k0 rfl rfl rfl
  (repeat (first | refine yw ?_ | ((first | apply yd | apply ye); simp (disch := first|exact zz|fail) only [go_sem, fill_none, fill2i, hf1, hf, hm, hf2, hst]; with_reducible rfl)))
  refine fin_l1 (u := evV (8, 12) (.slice (some ⟨G.length, 0, none⟩) 3 3)) (load_ev (get_set_self k0)) ⟨_, rfl, ?_, (xG.app _).set (Nat.le_refl _) _⟩
  have hl := (List.getElem?_eq_some_iff.1 g0).1
  exact Sl.of (e := 3) (o := true) (by rw [List.getElem?_set_ne (by omega)]; exact at_new) rfl
set_option maxHeartbeats 4000000 in
theorem awake_c : ACall Go.Proofs.Tryz.prog 5 [] H fun w H' => w = .bool true ∧ H' = H := by
  refine ACall.drop (.bool _) ?_
  (refine a5 ?_; simp only [n5, List.replicate, yq, yr, yt, yu]; first | refine q1 ?_ | refine q2 ?_ | refine q6 ?_ | refine q7 ?_ | refine qh rfl ?_ | skip)
  (refine yg ?_)
  refine aops_call (map0_c.mono fun w G1 ⟨s1, hw, hP, x1⟩ => ?_)
  subst hw
  (refine yg ?_)
  (refine aops_call_to (positionAt_c hP (by decide)) ?_)
  rw [posX]
  (repeat (first | refine yw ?_ | ((first | apply yd | apply ye); simp (disch := first|exact zz|fail) only [go_sem, store_newF]; with_reducible rfl)))
  have c1 : (G1 ++ [AObj.cells true 0 [.int .i64 666, .int .i64 667]])[G1.length]? = some (.cells true 0 [.int .i64 666, .int .i64 667]) := at_new
  have xH1 := x1.app [AObj.cells true 0 [.int .i64 666, .int .i64 667]]
  obtain ⟨i1, h1⟩ : ∃ i1, G1.length = i1 := ⟨_, rfl⟩
  rw [h1] at c1 ⊢
  generalize (G1 ++ [AObj.cells true 0 [.int .i64 666, .int .i64 667]] : AHeap) = G2 at c1 xH1
  refine aops_call (ev0_c.mono fun w G3 ⟨s3, hw, hE, x3⟩ => ?_)
  subst hw
  have c1 := x3.cell c1
  have xH3 := xH1.trans x3
  (refine yg ?_)
  (refine aops_call_to (encAt_c hE (by decide)) ?_)
  rw [encX]
  (repeat (first | refine yw ?_ | ((first | apply yd | apply ye); simp (disch := first|exact zz|fail) only [go_sem, store_newF]; with_reducible rfl)))
  have c3 : (G3 ++ [AObj.cells true 0 [.int .i64 90, .int .i64 120]])[G3.length]? = some (.cells true 0 [.int .i64 90, .int .i64 120]) := at_new
  have c1 := at_app (N := [AObj.cells true 0 [.int .i64 90, .int .i64 120]]) c1
  have xH4 := xH3.app [AObj.cells true 0 [.int .i64 90, .int .i64 120]]
  obtain ⟨i3, h3⟩ : ∃ i3, G3.length = i3 := ⟨_, rfl⟩
  rw [h3] at c3 ⊢
  generalize (G3 ++ [AObj.cells true 0 [.int .i64 90, .int .i64 120]] : AHeap) = G4 at c1 c3 xH4
  refine aops_call (bent_c.mono fun w G5 ⟨s5, hw, hB, x5⟩ => ?_)
  subst hw
  have c1 := x5.cell c1
  have c3 := x5.cell c3
  have xH5 := xH4.trans x5
  (refine yg ?_)
  refine aops_call ((fewest_c hB (by decide)).mono fun w G6 ⟨x6, s6, l, e, hw, hL, hF⟩ => ?_)
  subst hw
  obtain ⟨rfl, hl3⟩ := bentRes hF
  have c1 := x6.cell c1
  have c3 := x6.cell c3
  have xH6 := xH5.trans x6
  have hst : storeR 1 (.pointer (some ⟨G6.length, 0, none⟩)) (.agg ⟨[s6]⟩) (G6 ++ [.cells true 0 [.slice none 0 0]]) = some (undef, G6 ++ [.cells true 0 [s6]]) := store_newA hL.atom
  (repeat (first | refine yw ?_ | ((first | apply yd | apply ye); simp (disch := first|exact zz|fail) only [go_sem, hst]; with_reducible rfl)))
  have c5 : (G6 ++ [AObj.cells true 0 [s6]])[G6.length]? = some (.cells true 0 [s6]) := at_new
  have hL := hL.ext ((Ext.refl G6).app [AObj.cells true 0 [s6]])
  have c1 := at_app (N := [AObj.cells true 0 [s6]]) c1
  have c3 := at_app (N := [AObj.cells true 0 [s6]]) c3
  have xH7 := xH6.app [AObj.cells true 0 [s6]]
  obtain ⟨i5, h5⟩ : ∃ i5, G6.length = i5 := ⟨_, rfl⟩
  rw [h5] at c5 ⊢
  clear hst
  generalize (G6 ++ [AObj.cells true 0 [s6]] : AHeap) = G7 at c1 c3 c5 xH7 hL
  refine aops_call (map0_c.mono fun w G8 ⟨s8, hw, hP8, x8⟩ => ?_)
  subst hw
  have c1 := x8.cell c1
  have c3 := x8.cell c3
  have c5 := x8.cell c5
  have hL := hL.ext x8
  have xH8 := xH7.trans x8
  (refine yg ?_)
  (refine aops_call_to (wowOf_c hP8 (by decide)) ?_)
  rw [wowX]
  (repeat (first | refine yw ?_ | ((first | apply yd | apply ye); simp (disch := first|exact zz|fail) only [go_sem, store_newF]; with_reducible rfl)))
  have c7 : (G8 ++ [AObj.cells true 0 [.int .i64 10, .int .i64 1]])[G8.length]? = some (.cells true 0 [.int .i64 10, .int .i64 1]) := at_new
  have c1 := at_app (N := [AObj.cells true 0 [.int .i64 10, .int .i64 1]]) c1
  have c3 := at_app (N := [AObj.cells true 0 [.int .i64 10, .int .i64 1]]) c3
  have c5 := at_app (N := [AObj.cells true 0 [.int .i64 10, .int .i64 1]]) c5
  have hL := hL.ext ((Ext.refl G8).app [AObj.cells true 0 [.int .i64 10, .int .i64 1]])
  have xH9 := xH8.app [AObj.cells true 0 [.int .i64 10, .int .i64 1]]
  obtain ⟨i7, h7⟩ : ∃ i7, G8.length = i7 := ⟨_, rfl⟩
  rw [h7] at c7 ⊢
  generalize (G8 ++ [AObj.cells true 0 [.int .i64 10, .int .i64 1]] : AHeap) = G9 at c1 c3 c5 c7 xH9 hL
  have d3 : decide (((l.length : Nat) : Int) = 3) = true := dec_t (by omega)
  (repeat (first | refine yw ?_ | ((first | apply yd | apply ye); simp (disch := first|exact zz|fail) only [go_sem, hL.len, hL.idx, hL.load, n2_at c1, n2_at c3, load_at c5, n2_at c7, fill2i, d3, fbt]; with_reducible rfl)))
  (refine adraw_call (N := []) (firstD (whole_c 10)) ?_; rw [List.append_nil])
  (repeat (first | refine yw ?_ | ((first | apply yd | apply ye); simp (disch := first|exact zz|fail) only [go_sem, fracV, fbt]; with_reducible rfl)))
  exact fin_1 ⟨rfl, xH9⟩
end
end Go.Lq

namespace Go.Lq
open Go
open Go.Proofs

theorem Tris.mark {H H' : AHeap} {M : List Mark} {v : Value} (h : Tris H M v) (hx : Ext H H') {i : Nat} (hi : i < M.length) : loadNR 3 (addrOf v (i * 3)) H' = some (markV (M.getD i (0, 0, 0)), H') := (h.load hx hi).1
section
variable {H : AHeap} {L : Int × Int} {M : List Mark} {v : Value}
end
end Go.Lq


namespace Go.Lq
open Go
open Go.Proofs

theorem OwnT.aside {H0 H : AHeap} {l : List (Int × Int × Int)} {v : Value} (h : OwnT H0 H l v) {j : Nat} (hj : j < H0.length) : v = .slice none 0 0 ∨ idOf v ≠ j := by
  rcases h.2 with ⟨rfl, h0⟩ | ⟨id, rfl, h1, _, _⟩
  · exact .inl rfl
  · exact .inr (by show id ≠ j; omega)
theorem OwnT.set_ne {H0 H : AHeap} {l : List (Int × Int × Int)} {v : Value} (h : OwnT H0 H l v) {j : Nat} (hj : v = .slice none 0 0 ∨ idOf v ≠ j) (c : AObj) : OwnT H0 (H.set j c) l v := by
  refine Own.set_ne h ?_ c
  rcases hj with rfl | hj
  · rcases h.2 with ⟨_, h0⟩ | ⟨id, e, _⟩
    · exact .inl h0
    · cases e
  · exact .inr hj
theorem OwnT.pushedL {H0 H : AHeap} {l : List (Int × Int × Int)} {v : Value} (h : OwnT H0 H l v) (hx : H0.length ≤ H.length) (x : Int × Int × Int) : OwnT H0 (pushTH H v l x) (l ++ [x]) (pushV H l.length) := by
  have := Own.appended (h.app [.cells true 3 [.int .i64 x.1, .int .i64 x.2.1, .int .i64 x.2.2]]) (m := 1) (cs := [.int .i64 x.1, .int .i64 x.2.1, .int .i64 x.2.2]) rfl (by omega) (by simp; omega)
  unfold OwnT
  simpa [pushV, pushTH, flat3] using this
section
variable {H : AHeap} {L : Int × Int} {M : List Mark} {v kv : Value} {K : List Int}
end
end Go.Lq









namespace Go.Lq
open Go
open Go.Proofs

def accRate (L : Int × Int) (l : List (Int × Int)) (i : Nat) : Nat → Option Nat
  | 0 => none
  | n + 1 => if keepsB L (pieceOf l i) = true then accRate L l (i + 1) n else some i
theorem accRate_succ {L : Int × Int} {l : List (Int × Int)} {i n : Nat} : accRate L l i (n + 1) = if keepsB L (pieceOf l i) = true then accRate L l (i + 1) n else some i := rfl
def accMark (M : List Mark) (l : List (Int × Int)) (i : Nat) : Nat → Int × Int
  | 0 => (0, 0)
  | n + 1 => if (l.getD 0 (0, 0)).1 ≤ (M.getD i (0, 0, 0)).1 ∧ (M.getD i (0, 0, 0)).1 ≤ (l.getD (l.length - 1) (0, 0)).1 then
      (if meetsB (pieceP l (M.getD i (0, 0, 0)).1) (M.getD i (0, 0, 0)) = true then accMark M l (i + 1) n else ((i : Int), 13)) else ((i : Int), 14)
theorem accMark_succ {M : List Mark} {l : List (Int × Int)} {i n : Nat} : accMark M l i (n + 1) = if (l.getD 0 (0, 0)).1 ≤ (M.getD i (0, 0, 0)).1 ∧ (M.getD i (0, 0, 0)).1 ≤ (l.getD (l.length - 1) (0, 0)).1 then
      (if meetsB (pieceP l (M.getD i (0, 0, 0)).1) (M.getD i (0, 0, 0)) = true then accMark M l (i + 1) n else ((i : Int), 13)) else ((i : Int), 14) := rfl
def accGo (L : Int × Int) (M : List Mark) (l : List (Int × Int)) : Int × Int := match accRate L l 0 (l.length - 1) with | some i => ((i : Int), 23) | none => accMark M l 0 M.length
section
variable {H : AHeap} {L : Int × Int} {M : List Mark} {v u : Value} {l : List (Int × Int)}
end
end Go.Lq


namespace Go.Lq
open Go
open Go.Proofs

theorem meets_iff {p : (Int × Int) × (Int × Int)} {x : Mark} : meetsB p x = true ↔ atLeast p x.1 x.2.1 ∧ atMost p x.1 x.2.2 := decide_eq_true_iff
section
variable {H : AHeap} {L : Int × Int} {M : List Mark} {v u : Value} {l : List (Int × Int)}
end
end Go.Lq

namespace Go.Lq

theorem accRate_all {L : Int × Int} {l : List (Int × Int)} : ∀ {n i : Nat}, accRate L l i n = none → ∀ j, i ≤ j → j < i + n → keepsB L (pieceOf l j) = true
  | 0, i, _, j, h1, h2 => by omega
  | n + 1, i, h, j, h1, h2 => by
    rw [accRate_succ] at h
    by_cases hk : keepsB L (pieceOf l i) = true
    · rw [if_pos hk] at h
      by_cases e : j = i
      · subst e; exact hk
      · exact accRate_all h j (by omega) (by omega)
    · rw [if_neg hk] at h; cases h
theorem accMark_all {M : List Mark} {l : List (Int × Int)} : ∀ {n i : Nat}, (accMark M l i n).2 = 0 → ∀ j, i ≤ j → j < i + n → ((l.getD 0 (0, 0)).1 ≤ mP M j ∧ mP M j ≤ (l.getD (l.length - 1) (0, 0)).1) ∧ meetsB (pieceP l (mP M j)) (M.getD j (0, 0, 0)) = true
  | 0, i, _, j, h1, h2 => by omega
  | n + 1, i, h, j, h1, h2 => by
    rw [accMark_succ] at h
    by_cases hr : (l.getD 0 (0, 0)).1 ≤ (M.getD i (0, 0, 0)).1 ∧ (M.getD i (0, 0, 0)).1 ≤ (l.getD (l.length - 1) (0, 0)).1
    · rw [if_pos hr] at h
      by_cases hm : meetsB (pieceP l (M.getD i (0, 0, 0)).1) (M.getD i (0, 0, 0)) = true
      · rw [if_pos hm] at h
        by_cases e : j = i
        · subst e; exact ⟨hr, hm⟩
        · exact accMark_all h j (by omega) (by omega)
      · rw [if_neg hm] at h; exact absurd (show (13 : Int) = 0 from h) (by decide)
    · rw [if_neg hr] at h; exact absurd (show (14 : Int) = 0 from h) (by decide)
structure AccOk (L : Int × Int) (M : List Mark) (l : List (Int × Int)) : Prop where
  ok : MapOk l
  rate : RateOk L l
  marks : ∀ j, j < M.length → ((l.getD 0 (0, 0)).1 ≤ mP M j ∧ mP M j ≤ (l.getD (l.length - 1) (0, 0)).1) ∧ (atLeast (pieceP l (mP M j)) (mP M j) (M.getD j (0, 0, 0)).2.1 ∧ atMost (pieceP l (mP M j)) (mP M j) (M.getD j (0, 0, 0)).2.2)
theorem AccOk.of {L : Int × Int} {M : List Mark} {l : List (Int × Int)} (hok : MapOk l) (h : (accGo L M l).2 = 0) : AccOk L M l := by
  unfold accGo at h
  cases hr : accRate L l 0 (l.length - 1) with
  | some i => rw [hr] at h; exact absurd h (by show ¬ ((23 : Int) = 0); decide)
  | none =>
    rw [hr] at h
    have hk := accRate_all hr
    have hm := accMark_all (i := 0) (n := M.length) h
    exact ⟨hok, fun i hi => of_decide_eq_true (hk i (Nat.zero_le _) (by omega)), fun j hj => ⟨(hm j (Nat.zero_le _) (by omega)).1, meets_iff.1 (hm j (Nat.zero_le _) (by omega)).2⟩⟩
section
variable {L : Int × Int} {M : List Mark} {l : List (Int × Int)} (ha : AccOk L M l) (he : EvOk L M)
include ha he
theorem AccOk.one {i : Nat} (hi : i < M.length) {q : Int} (hq : (l.getD 0 (0, 0)).1 ≤ q ∧ q ≤ (l.getD (l.length - 1) (0, 0)).1) : (byR L (M.getD i (0, 0, 0)) q).1 ≤ mapTimLo l q ∧ mapTimHi l q ≤ (byR L (M.getD i (0, 0, 0)) q).2 := by
  have hm := ha.ok
  have hlo := hm.lo
  obtain ⟨m1, m2⟩ := ha.marks i hi
  obtain ⟨b1, b2⟩ := by_encloses hm ha.rate he.le (x := M.getD i (0, 0, 0)) (q := q) m1 hq m2
  obtain ⟨a1, _⟩ := atPos_in (l := l) (t := q) (k := l.length - 2) (i := 0) (by omega) hq.1
  have hp : (pieceP l q).1.1 < (pieceP l q).2.1 := (hm.piece a1).pos
  rw [least_lo hp] at b1
  rw [most_hi hp] at b2
  exact ⟨b1, b2⟩
theorem AccOk.enc (h0 : 0 < M.length) {q : Int} (hq : (l.getD 0 (0, 0)).1 ≤ q ∧ q ≤ (l.getD (l.length - 1) (0, 0)).1) : (encTo L M q M.length).1 ≤ mapTimLo l q ∧ mapTimHi l q ≤ (encTo L M q M.length).2 :=
  enc_le h0 fun _ hi => ha.one he hi hq
end
/-! ### Fewer marks -/
theorem mark_mem {M : List Mark} {x : Mark} (h : x ∈ M) : ∃ k, k < M.length ∧ M.getD k (0, 0, 0) = x := by
  obtain ⟨k, hk, e⟩ := List.getElem_of_mem h
  exact ⟨k, hk, by rw [List.getD_eq_getElem?_getD, List.getElem?_eq_getElem hk]; exact e⟩
theorem getD_mem {M : List Mark} {k : Nat} (h : k < M.length) : M.getD k (0, 0, 0) ∈ M := by
  rw [List.getD_eq_getElem?_getD, List.getElem?_eq_getElem h]; exact List.getElem_mem h
theorem pair_iff {M : List Mark} {R : Mark → Mark → Prop} : M.Pairwise R ↔ ∀ i k, i < k → k < M.length → R (M.getD i (0, 0, 0)) (M.getD k (0, 0, 0)) := by
  rw [List.pairwise_iff_getElem]
  constructor
  · intro h i k hik hk
    rw [List.getD_eq_getElem?_getD, List.getElem?_eq_getElem (show i < M.length by omega), List.getD_eq_getElem?_getD, List.getElem?_eq_getElem hk]
    exact h i k _ _ hik
  · intro h i k hi hk hik
    have := h i k hik hk
    rw [List.getD_eq_getElem?_getD, List.getElem?_eq_getElem hi, List.getD_eq_getElem?_getD, List.getElem?_eq_getElem hk] at this
    exact this
theorem EvOk.sub {L : Int × Int} {M N : List Mark} (h : EvOk L M) (hs : N.Sublist M) : EvOk L N := by
  have hm : ∀ i, i < N.length → ∃ k, k < M.length ∧ M.getD k (0, 0, 0) = N.getD i (0, 0, 0) := fun i hi => mark_mem (hs.subset (getD_mem hi))
  refine ⟨h.lo, h.hi, h.le, Nat.le_trans hs.length_le h.len, fun i hi => ?_, fun i hi => ?_, fun i hi => ?_, fun i hi => ?_, fun i hi => ?_⟩
  · obtain ⟨k, hk, e⟩ := hm i hi; rw [← e]; exact h.pos k hk
  · obtain ⟨k, hk, e⟩ := hm i hi; rw [← e]; exact h.t1 k hk
  · obtain ⟨k, hk, e⟩ := hm i hi; rw [← e]; exact h.t2 k hk
  · obtain ⟨k, hk, e⟩ := hm i hi; rw [← e]; exact h.lohi k hk
  · have hp : M.Pairwise (fun a b => a.1 < b.1) := pair_iff.2 fun i k hik hk => h.lt hik hk
    exact pair_iff.1 (hp.sublist hs) i (i + 1) (by omega) hi
theorem NoClash.sub {L : Int × Int} {M N : List Mark} (h : NoClash L M) (hs : N.Sublist M) : NoClash L N := by
  have hp : M.Pairwise (fun a b => clashB L a b = false) := pair_iff.2 h
  exact pair_iff.1 (hp.sublist hs)
end Go.Lq





namespace Go.Lq
open Go
open Go.Proofs

def midV (sz : Nat) (v : Value) (lo hi : Nat) : Value := match v with | .slice (some ⟨id, off, none⟩) _ _ => .slice (some ⟨id, off + lo * sz, none⟩) (hi - lo) (if hi = lo then 1 else hi - lo) | v => v
theorem Sl.inner {H : AHeap} {sz n : Nat} {vs : List Value} {v : Value} (h : Sl H sz n vs v) {lo hi : Nat} (h1 : lo ≤ hi) (h2 : hi ≤ n) : Sl H sz (hi - lo) ((vs.drop (lo * sz)).take ((hi - lo) * sz)) (midV sz v lo hi) := by
  obtain ⟨hl, h⟩ := h
  have m1 := Nat.mul_le_mul_right sz h1
  have m2 := Nat.mul_le_mul_right sz h2
  refine ⟨by rw [List.length_take, List.length_drop, hl, Nat.sub_mul]; omega, ?_⟩
  rcases h with ⟨rfl, rfl⟩ | ⟨id, off, c, rfl, hc⟩
  · exact .inl ⟨rfl, by omega⟩
  · refine .inr ⟨id, off + lo * sz, _, rfl, fun hn => ?_⟩
    exact cellsAt_sub (hc (by omega)) (i := lo * sz) (m := (hi - lo) * sz) (by rw [Nat.sub_mul]; omega)
theorem flatP_take (l : List (Int × Int)) (n : Nat) : flatP (l.take n) = (flatP l).take (n * 2) := by
  induction l generalizing n with
  | nil => simp [flatP]
  | cons p l ih =>
    cases n with
    | zero => simp [flatP]
    | succ n =>
      have e : flatP (p :: l) = .int .i64 p.1 :: .int .i64 p.2 :: flatP l := rfl
      have e2 : flatP (p :: l.take n) = .int .i64 p.1 :: .int .i64 p.2 :: flatP (l.take n) := rfl
      rw [List.take_succ_cons, e2, e, ih, show (n + 1) * 2 = n * 2 + 1 + 1 by omega, List.take_succ_cons, List.take_succ_cons]
theorem flatP_drop2 (l : List (Int × Int)) (n : Nat) : flatP (l.drop n) = (flatP l).drop (n * 2) := by
  induction l generalizing n with
  | nil => simp [flatP]
  | cons p l ih =>
    cases n with
    | zero => simp
    | succ n =>
      have e : flatP (p :: l) = .int .i64 p.1 :: .int .i64 p.2 :: flatP l := rfl
      rw [List.drop_succ_cons, e, ih, show (n + 1) * 2 = n * 2 + 1 + 1 by omega, List.drop_succ_cons, List.drop_succ_cons]
theorem Pairs.inner {H : AHeap} {l : List (Int × Int)} {v : Value} (h : Pairs H l v) {lo hi : Nat} (h1 : lo ≤ hi) (h2 : hi ≤ l.length) : Pairs H ((l.drop lo).take (hi - lo)) (midV 2 v lo hi) := by
  have := Sl.inner h h1 h2
  unfold Pairs
  rw [flatP_take, flatP_drop2, List.length_take, List.length_drop, Nat.min_eq_left (by omega)]
  exact this
section
variable {H : AHeap}
end
end Go.Lq

namespace Go.Lq
open Go
open Go.Proofs

theorem dec_pair {p q : Int × Int} : decide (p.1 = q.1 ∧ p.2 = q.2) = decide (p = q) := decide_eq_decide.2 ⟨fun h => Prod.ext h.1 h.2, fun h => by rw [h]; exact ⟨rfl, rfl⟩⟩
section
variable {H : AHeap}
set_option maxHeartbeats 4000000 in
theorem sameMap_c {a b : List (Int × Int)} {va vb : Value} (ha : Pairs H a va) (hb : Pairs H b vb) (hl : a.length ≤ 1000000) :
    ACall Go.Proofs.Tryz.prog 12 [.agg ⟨[va]⟩, .agg ⟨[vb]⟩] H fun v H' => v = .bool (decide (a = b)) ∧ H' = H := by
  refine ACall.drop (.bool _) ?_
  (refine a12 ?_; simp only [n12, List.replicate, yq, yr, yt, yu]; first | refine q1 ?_ | refine q2 ?_ | refine q6 ?_ | refine q7 ?_ | refine qh rfl ?_ | skip)
  obtain ⟨G, hG⟩ : ∃ G, G = H ++ [AObj.cells true 0 [va]] ++ [AObj.cells true 0 [vb]] := ⟨_, rfl⟩
  have g0 : G[H.length]? = some (.cells true 0 [va]) := by rw [hG]; simp
  have g1 : G[H.length + 1]? = some (.cells true 0 [vb]) := by rw [hG]; simp
  have xG : Ext H G := by rw [hG]; exact ((Ext.refl H).app _).app _
  (repeat (first | refine yv ?_ | (apply yd; simp (disch := first|exact zz|fail) only [go_sem, ha.box1, hb.box1]; with_reducible rfl)))
  (simp only [List.length_append, List.length_cons, List.length_nil, Nat.zero_add, Nat.add_assoc, Nat.reduceAdd])
  rw [← hG]
  clear hG
  have ka := ha.ext xG
  have kb := hb.ext xG
  (repeat (first | refine yw ?_ | ((first | apply yd | apply ye); simp (disch := first|exact zz|fail) only [go_sem, ka.len, ka.idx, ka.load, kb.len, kb.idx, kb.load, load_at g0, load_at g1]; with_reducible rfl)))
  refine cond_p rfl (fun hne => ?_) (fun heq => ?_)
  · (refine yg ?_)
    exact fin_1 ⟨congrArg Value.bool (dec_f (fun h => by subst h; omega)).symm, xG⟩
  have he : a.length = b.length := by omega
  (refine yg ?_)
  refine awp_loop_n [false, false, true, true, false, true, false, false, false, false, false, false, false, false, false, false, false, false, false, false, false, false, false, false, false, false, false, false, false, false, false] a.length (fun i e J => J = G ∧ e = [junk, junk, .pointer (some ⟨H.length, 0, none⟩), .pointer (some ⟨H.length + 1, 0, none⟩), junk, .int .i64 (i : Nat), junk, junk, junk, junk, junk, junk, junk, junk, junk, junk, junk, junk, junk, junk, junk, junk, junk, junk, junk, junk, junk, junk, junk, junk, junk] ∧ ∀ j : Nat, j < i → a.getD j (0, 0) = b.getD j (0, 0)) ?_ ?_
  · exact ⟨rfl, by simp [forget], by omega⟩
  rintro i e J hi ⟨rfl, rfl, hbef⟩
  have e1 : (i : Int) + 1 = ((i + 1 : Nat) : Int) := by omega
  (repeat (first | refine yw ?_ | ((first | apply yd | apply ye); simp (disch := first|exact zz|fail) only [go_sem, ka.len, ka.idx, ka.load, load_at g0]; with_reducible rfl)))
  refine cond_p rfl (fun hlt => ?_) (fun hge => ?_)
  rotate_left 1
  · (refine yg ?_)
    exact fin_1 ⟨congrArg Value.bool (dec_t (ext_getD (d := (0, 0)) he fun j hj => hbef j (by omega))).symm, xG⟩
  have hi' : i < a.length := by omega
  by_cases hab : a.getD i (0, 0) = b.getD i (0, 0)
  · (repeat (first | refine yw ?_ | ((first | apply yd | apply ye); simp (disch := first|exact zz|fail) only [go_sem, ka.len, ka.idx, ka.load, kb.len, kb.idx, kb.load, load_at g0, load_at g1, eq_pair, dec_pair, dec_t hab]; with_reducible rfl)))
    refine cond_f rfl ?_
    (repeat (first | refine yw ?_ | ((first | apply yd | apply ye); simp (disch := first|exact zz|fail) only [go_sem, e1]; with_reducible rfl)))
    refine ⟨hi', rfl, by simp [forget], fun j hj => ?_⟩
    by_cases hji : j = i
    · subst hji; exact hab
    · exact hbef j (by omega)
  · (repeat (first | refine yw ?_ | ((first | apply yd | apply ye); simp (disch := first|exact zz|fail) only [go_sem, ka.len, ka.idx, ka.load, kb.len, kb.idx, kb.load, load_at g0, load_at g1, eq_pair, dec_pair, dec_f hab]; with_reducible rfl)))
    refine cond_t rfl ?_
    (refine yg ?_)
    exact fin_1 ⟨congrArg Value.bool (dec_f (fun h => hab (by rw [h]))).symm, xG⟩
end
end Go.Lq

namespace Go.Lq
open Go
attribute [go_sem] bs_lit bs_size idxS_b sliceS_b sliceS_from sliceS_to add_b eql_b neq_b r_byteS byteS_1 eqvI_n eqvI_i neqI_n neqI_i
attribute [go_sem high] r_eqvI
attribute [go_sem] isAtom_string constOk_string fillA_str fillA_ptr isAtom_pointer constOk_ptrNil
end Go.Lq

namespace Go.Proofs
open Go.Shelf Go.Lib Go.RowKit Go.Sort
def Tryz.lays156_ren : Go.Shelf.Ren := ⟨fun | 156 => 28 | 165 => 61 | 166 => 62 | 169 => 63 | 240 => 83 | 241 => 84 | 276 => 104 | 277 => 105 | n => n, fun | 31 => 62 | 9 => 9 | 3 => 3 | 4 => 4 | 0 => 0 | 20 => 20 | 72 => 118 | 76 => 122 | 70 => 115 | 37 => 116 | 75 => 121 | 127 => 143 | 164 => 158 | 5 => 5 | 80 => 124 | n => n, fun | n => n⟩
theorem Tryz.lays156 : Go.Proofs.Lays.n156 Tryz.prog Tryz.lays156_ren := {
  mixed := by kernel_rfl
  f156 := Tryz.func28.trans (congrArg some (by kernel_rfl))
  f165 := Tryz.func61.trans (congrArg some (by kernel_rfl))
  f166 := Tryz.func62.trans (congrArg some (by kernel_rfl))
  f169 := Tryz.func63.trans (congrArg some (by kernel_rfl))
  f240 := Tryz.func83.trans (congrArg some (by kernel_rfl))
  f241 := Tryz.func84.trans (congrArg some (by kernel_rfl))
  f276 := Tryz.func104.trans (congrArg some (by kernel_rfl))
  f277 := Tryz.func105.trans (congrArg some (by kernel_rfl))
  t0 := Tryz.underlying0
  a0 := Tryz.isAgg0
  z0 := Tryz.sizeOf0
  v0 := Tryz.zeroValue0
  t3 := Tryz.underlying3
  a3 := Tryz.isAgg3
  z3 := Tryz.sizeOf3
  v3 := Tryz.zeroValue3
  t4 := Tryz.underlying4
  a4 := Tryz.isAgg4
  z4 := Tryz.sizeOf4
  v4 := Tryz.zeroValue4
  t9 := Tryz.underlying9
  a9 := Tryz.isAgg9
  z9 := Tryz.sizeOf9
  v9 := Tryz.zeroValue9
  t20 := Tryz.underlying20
  a20 := Tryz.isAgg20
  z20 := Tryz.sizeOf20
  v20 := Tryz.zeroValue20
  t31 := Tryz.underlying62
  a31 := Tryz.isAgg62
  z31 := Tryz.sizeOf62
  v31 := Tryz.zeroValue62
  t37 := Tryz.underlying116
  a37 := Tryz.isAgg116
  z37 := Tryz.sizeOf116
  v37 := Tryz.zeroValue116
  t70 := Tryz.underlying115
  a70 := Tryz.isAgg115
  z70 := Tryz.sizeOf115
  v70 := Tryz.zeroValue115
  t72 := Tryz.underlying118
  a72 := Tryz.isAgg118
  z72 := Tryz.sizeOf118
  v72 := Tryz.zeroValue118
  t75 := Tryz.underlying121
  a75 := Tryz.isAgg121
  z75 := Tryz.sizeOf121
  v75 := Tryz.zeroValue121
  t76 := Tryz.underlying122
  a76 := Tryz.isAgg122
  z76 := Tryz.sizeOf122
  v76 := Tryz.zeroValue122
  t127 := Tryz.underlying143
  a127 := Tryz.isAgg143
  z127 := Tryz.sizeOf143
  v127 := Tryz.zeroValue143
  t164 := Tryz.underlying158
  a164 := Tryz.isAgg158
  z164 := Tryz.sizeOf158
  v164 := Tryz.zeroValue158 }
theorem Tryz.Builder_Extra_156 : Builder.Extra Tryz.prog Tryz.lays156_ren := {
  sizeBuilder := by kernel_rfl
  liesBuilder := by kernel_rfl
  t5 := Tryz.underlying5
  a5 := Tryz.isAgg5
  z5 := Tryz.sizeOf5
  v5 := Tryz.zeroValue5
  infoByte := by kernel_rfl
  cellsByte := by kernel_rfl
  sizeByte := by kernel_rfl
  neB5 := by decide }
theorem Tryz.strings_Join_none (a : Option Addr) (c : Nat) (sep : ByteArray) (w : World) :
    Calls Tryz.prog 28 #[.slice a 0 c, .string sep] w fun e w' => e = .returned (.string ⟨#[]⟩) ∧ w' = w := Any.strings_Join_none Tryz.lays156 Tryz.Builder_Extra_156 a c sep w
theorem Tryz.strings_Join (bk o c : Nat) (xs : List ByteArray) (sep : ByteArray) (w : World) (hcells : ∀ (j : Nat) x, xs[j]? = some x → w.cell? ⟨bk, o + j, none⟩ = some (.string x)) (hbk : bk < w.heap.size) (hN : xs.length ≤ 140737488355328) (hcap : xs.length ≤ c) (hlen : (Lib.join (xs.map (·.data.toList)) sep.data.toList).length ≤ 140737488355328) :
    Calls Tryz.prog 28 #[.slice (some ⟨bk, o, none⟩) xs.length c, .string sep] w fun e w' => e = .returned (.string ⟨(Lib.join (xs.map (·.data.toList)) sep.data.toList).toArray⟩) ∧ Below w.heap.size w w' := Any.strings_Join Tryz.lays156 Tryz.Builder_Extra_156 bk o c xs sep w hcells hbk hN hcap hlen
def Tryz.laysM171_ren : Go.Shelf.Ren := ⟨fun | 171 => 27 | 243 => 60 | 246 => 82 | 283 => 100 | 284 => 101 | 285 => 102 | 286 => 103 | 129 => 94 | 317 => 118 | 318 => 119 | 319 => 120 | 320 => 121 | 337 => 127 | 338 => 128 | n => n, fun | 3 => 3 | 9 => 9 | 2 => 2 | 4 => 4 | 171 => 154 | 0 => 0 | 53 => 90 | 37 => 116 | 5 => 5 | 173 => 156 | 212 => 170 | 51 => 171 | 20 => 20 | 213 => 172 | 46 => 133 | 232 => 191 | 233 => 192 | n => n, fun | 17 => 3 | 18 => 8 | 19 => 9 | n => n⟩
theorem Tryz.laysM171 : Go.Proofs.LaysM.n171 Tryz.prog Tryz.laysM171_ren := {
  mixed := by kernel_rfl
  f129 := Tryz.func94.trans (congrArg some (by kernel_rfl))
  f171 := Tryz.func27.trans (congrArg some (by kernel_rfl))
  f243 := Tryz.func60.trans (congrArg some (by kernel_rfl))
  f246 := Tryz.func82.trans (congrArg some (by kernel_rfl))
  f283 := Tryz.func100.trans (congrArg some (by kernel_rfl))
  f284 := Tryz.func101.trans (congrArg some (by kernel_rfl))
  f285 := Tryz.func102.trans (congrArg some (by kernel_rfl))
  f286 := Tryz.func103.trans (congrArg some (by kernel_rfl))
  f317 := Tryz.func118.trans (congrArg some (by kernel_rfl))
  f318 := Tryz.func119.trans (congrArg some (by kernel_rfl))
  f319 := Tryz.func120.trans (congrArg some (by kernel_rfl))
  f320 := Tryz.func121.trans (congrArg some (by kernel_rfl))
  f337 := Tryz.func127.trans (congrArg some (by kernel_rfl))
  f338 := Tryz.func128.trans (congrArg some (by kernel_rfl))
  t0 := Tryz.underlying0
  a0 := Tryz.isAgg0
  z0 := Tryz.sizeOf0
  v0 := Tryz.zeroValue0
  t2 := Tryz.underlying2
  a2 := Tryz.isAgg2
  z2 := Tryz.sizeOf2
  v2 := Tryz.zeroValue2
  t3 := Tryz.underlying3
  a3 := Tryz.isAgg3
  z3 := Tryz.sizeOf3
  v3 := Tryz.zeroValue3
  t4 := Tryz.underlying4
  a4 := Tryz.isAgg4
  z4 := Tryz.sizeOf4
  v4 := Tryz.zeroValue4
  t5 := Tryz.underlying5
  a5 := Tryz.isAgg5
  z5 := Tryz.sizeOf5
  v5 := Tryz.zeroValue5
  t9 := Tryz.underlying9
  a9 := Tryz.isAgg9
  z9 := Tryz.sizeOf9
  v9 := Tryz.zeroValue9
  t20 := Tryz.underlying20
  a20 := Tryz.isAgg20
  z20 := Tryz.sizeOf20
  v20 := Tryz.zeroValue20
  t37 := Tryz.underlying116
  a37 := Tryz.isAgg116
  z37 := Tryz.sizeOf116
  v37 := Tryz.zeroValue116
  t46 := Tryz.underlying133
  a46 := Tryz.isAgg133
  z46 := Tryz.sizeOf133
  v46 := Tryz.zeroValue133
  t51 := Tryz.underlying171
  a51 := Tryz.isAgg171
  z51 := Tryz.sizeOf171
  v51 := Tryz.zeroValue171
  t53 := Tryz.underlying90
  a53 := Tryz.isAgg90
  z53 := Tryz.sizeOf90
  v53 := Tryz.zeroValue90
  t171 := Tryz.underlying154
  a171 := Tryz.isAgg154
  z171 := Tryz.sizeOf154
  v171 := Tryz.zeroValue154
  t173 := Tryz.underlying156
  a173 := Tryz.isAgg156
  z173 := Tryz.sizeOf156
  v173 := Tryz.zeroValue156
  t212 := Tryz.underlying170
  a212 := Tryz.isAgg170
  z212 := Tryz.sizeOf170
  v212 := Tryz.zeroValue170
  t213 := Tryz.underlying172
  a213 := Tryz.isAgg172
  z213 := Tryz.sizeOf172
  t232 := Tryz.underlying191
  a232 := Tryz.isAgg191
  z232 := Tryz.sizeOf191
  v232 := Tryz.zeroValue191
  t233 := Tryz.underlying192
  a233 := Tryz.isAgg192
  z233 := Tryz.sizeOf192
  v233 := Tryz.zeroValue192
  g17 := by kernel_rfl
  g18 := by kernel_rfl
  g19 := by kernel_rfl
  i0 := by kernel_rfl
  i2 := by kernel_rfl
  i3 := by kernel_rfl
  i4 := by kernel_rfl
  i5 := by kernel_rfl
  i9 := by kernel_rfl
  i20 := by kernel_rfl
  i37 := by kernel_rfl
  i46 := by kernel_rfl
  i51 := by kernel_rfl
  i53 := by kernel_rfl
  i171 := by kernel_rfl
  i173 := by kernel_rfl
  i212 := by kernel_rfl
  i232 := by kernel_rfl
  i233 := by kernel_rfl
  m17 := by kernel_rfl
  m18 := by kernel_rfl
  m19 := by kernel_rfl }
theorem Tryz.strconv_Itoa (n : Int) (h0 : -9223372036854775808 ≤ n) (h1 : n ≤ 9223372036854775807) (w : World) (htab : Lib.TabIs Tryz.prog w "internal/strconv.uint64pow10" .u64 Lib.pow10Tab) :
    Calls Tryz.prog 27 #[.int .i64 n] w fun e w' => e = .returned (.string ⟨(Lib.itoa n).toArray⟩) ∧ ∃ k os, w' = grow (w.drewN k) os := Any.strconv_Itoa Tryz.laysM171 n h0 h1 w htab
def Tryz.laysC172_ren : Go.Shelf.Ren := ⟨fun | 172 => 66 | 244 => 89 | 245 => 90 | 247 => 111 | 279 => 112 | 280 => 113 | 281 => 114 | 282 => 115 | 287 => 124 | 316 => 125 | 171 => 27 | 205 => 126 | 321 => 129 | 322 => 130 | 243 => 60 | 246 => 82 | 283 => 100 | 284 => 101 | 285 => 102 | 286 => 103 | 129 => 94 | 317 => 118 | 318 => 119 | 319 => 120 | 320 => 121 | 337 => 127 | 338 => 128 | n => n, fun | 9 => 9 | 3 => 3 | 75 => 121 | 76 => 122 | 4 => 4 | 5 => 5 | 167 => 162 | 37 => 116 | 0 => 0 | 85 => 163 | 2 => 2 | 168 => 165 | 53 => 90 | 175 => 180 | 46 => 133 | 210 => 184 | 127 => 143 | 145 => 190 | 143 => 188 | 21 => 21 | 171 => 154 | 173 => 156 | 212 => 170 | 51 => 171 | 20 => 20 | 213 => 172 | 232 => 191 | 233 => 192 | 80 => 124 | n => n, fun | 15 => 6 | 16 => 7 | 17 => 3 | 18 => 8 | 19 => 9 | n => n⟩
theorem Tryz.laysC172 : Go.Proofs.LaysC.n172 Tryz.prog Tryz.laysC172_ren := {
  mixed := by kernel_rfl
  f129 := Tryz.func94.trans (congrArg some (by kernel_rfl))
  f171 := Tryz.func27.trans (congrArg some (by kernel_rfl))
  f172 := Tryz.func66.trans (congrArg some (by kernel_rfl))
  f205 := Tryz.func126.trans (congrArg some (by kernel_rfl))
  f243 := Tryz.func60.trans (congrArg some (by kernel_rfl))
  f244 := Tryz.func89.trans (congrArg some (by kernel_rfl))
  f245 := Tryz.func90.trans (congrArg some (by kernel_rfl))
  f246 := Tryz.func82.trans (congrArg some (by kernel_rfl))
  f247 := Tryz.func111.trans (congrArg some (by kernel_rfl))
  f279 := Tryz.func112.trans (congrArg some (by kernel_rfl))
  f280 := Tryz.func113.trans (congrArg some (by kernel_rfl))
  f281 := Tryz.func114.trans (congrArg some (by kernel_rfl))
  f282 := Tryz.func115.trans (congrArg some (by kernel_rfl))
  f283 := Tryz.func100.trans (congrArg some (by kernel_rfl))
  f284 := Tryz.func101.trans (congrArg some (by kernel_rfl))
  f285 := Tryz.func102.trans (congrArg some (by kernel_rfl))
  f286 := Tryz.func103.trans (congrArg some (by kernel_rfl))
  f287 := Tryz.func124.trans (congrArg some (by kernel_rfl))
  f316 := Tryz.func125.trans (congrArg some (by kernel_rfl))
  f317 := Tryz.func118.trans (congrArg some (by kernel_rfl))
  f318 := Tryz.func119.trans (congrArg some (by kernel_rfl))
  f319 := Tryz.func120.trans (congrArg some (by kernel_rfl))
  f320 := Tryz.func121.trans (congrArg some (by kernel_rfl))
  f321 := Tryz.func129.trans (congrArg some (by kernel_rfl))
  f322 := Tryz.func130.trans (congrArg some (by kernel_rfl))
  f337 := Tryz.func127.trans (congrArg some (by kernel_rfl))
  f338 := Tryz.func128.trans (congrArg some (by kernel_rfl))
  t0 := Tryz.underlying0
  a0 := Tryz.isAgg0
  z0 := Tryz.sizeOf0
  v0 := Tryz.zeroValue0
  t2 := Tryz.underlying2
  a2 := Tryz.isAgg2
  z2 := Tryz.sizeOf2
  v2 := Tryz.zeroValue2
  t3 := Tryz.underlying3
  a3 := Tryz.isAgg3
  z3 := Tryz.sizeOf3
  v3 := Tryz.zeroValue3
  t4 := Tryz.underlying4
  a4 := Tryz.isAgg4
  z4 := Tryz.sizeOf4
  v4 := Tryz.zeroValue4
  t5 := Tryz.underlying5
  a5 := Tryz.isAgg5
  z5 := Tryz.sizeOf5
  v5 := Tryz.zeroValue5
  t9 := Tryz.underlying9
  a9 := Tryz.isAgg9
  z9 := Tryz.sizeOf9
  v9 := Tryz.zeroValue9
  t20 := Tryz.underlying20
  a20 := Tryz.isAgg20
  z20 := Tryz.sizeOf20
  v20 := Tryz.zeroValue20
  t21 := Tryz.underlying21
  a21 := Tryz.isAgg21
  z21 := Tryz.sizeOf21
  v21 := Tryz.zeroValue21
  t37 := Tryz.underlying116
  a37 := Tryz.isAgg116
  z37 := Tryz.sizeOf116
  v37 := Tryz.zeroValue116
  t46 := Tryz.underlying133
  a46 := Tryz.isAgg133
  z46 := Tryz.sizeOf133
  v46 := Tryz.zeroValue133
  t51 := Tryz.underlying171
  a51 := Tryz.isAgg171
  z51 := Tryz.sizeOf171
  v51 := Tryz.zeroValue171
  t53 := Tryz.underlying90
  a53 := Tryz.isAgg90
  z53 := Tryz.sizeOf90
  v53 := Tryz.zeroValue90
  t75 := Tryz.underlying121
  a75 := Tryz.isAgg121
  z75 := Tryz.sizeOf121
  v75 := Tryz.zeroValue121
  t76 := Tryz.underlying122
  a76 := Tryz.isAgg122
  z76 := Tryz.sizeOf122
  v76 := Tryz.zeroValue122
  t85 := Tryz.underlying163
  a85 := Tryz.isAgg163
  z85 := Tryz.sizeOf163
  v85 := Tryz.zeroValue163
  t127 := Tryz.underlying143
  a127 := Tryz.isAgg143
  z127 := Tryz.sizeOf143
  v127 := Tryz.zeroValue143
  t143 := Tryz.underlying188
  a143 := Tryz.isAgg188
  z143 := Tryz.sizeOf188
  v143 := Tryz.zeroValue188
  t145 := Tryz.underlying190
  a145 := Tryz.isAgg190
  z145 := Tryz.sizeOf190
  v145 := Tryz.zeroValue190
  t167 := Tryz.underlying162
  a167 := Tryz.isAgg162
  z167 := Tryz.sizeOf162
  v167 := Tryz.zeroValue162
  t168 := Tryz.underlying165
  a168 := Tryz.isAgg165
  z168 := Tryz.sizeOf165
  v168 := Tryz.zeroValue165
  t171 := Tryz.underlying154
  a171 := Tryz.isAgg154
  z171 := Tryz.sizeOf154
  v171 := Tryz.zeroValue154
  t173 := Tryz.underlying156
  a173 := Tryz.isAgg156
  z173 := Tryz.sizeOf156
  v173 := Tryz.zeroValue156
  t175 := Tryz.underlying180
  a175 := Tryz.isAgg180
  z175 := Tryz.sizeOf180
  v175 := Tryz.zeroValue180
  t210 := Tryz.underlying184
  a210 := Tryz.isAgg184
  z210 := Tryz.sizeOf184
  v210 := Tryz.zeroValue184
  t212 := Tryz.underlying170
  a212 := Tryz.isAgg170
  z212 := Tryz.sizeOf170
  v212 := Tryz.zeroValue170
  t213 := Tryz.underlying172
  a213 := Tryz.isAgg172
  z213 := Tryz.sizeOf172
  t232 := Tryz.underlying191
  a232 := Tryz.isAgg191
  z232 := Tryz.sizeOf191
  v232 := Tryz.zeroValue191
  t233 := Tryz.underlying192
  a233 := Tryz.isAgg192
  z233 := Tryz.sizeOf192
  v233 := Tryz.zeroValue192
  g15 := by kernel_rfl
  g16 := by kernel_rfl
  g17 := by kernel_rfl
  g18 := by kernel_rfl
  g19 := by kernel_rfl
  t80 := Tryz.underlying124
  a80 := Tryz.isAgg124
  z80 := Tryz.sizeOf124
  v80 := Tryz.zeroValue124
  i0 := by kernel_rfl
  i2 := by kernel_rfl
  i3 := by kernel_rfl
  i4 := by kernel_rfl
  i5 := by kernel_rfl
  i9 := by kernel_rfl
  i20 := by kernel_rfl
  i21 := by kernel_rfl
  i37 := by kernel_rfl
  i46 := by kernel_rfl
  i51 := by kernel_rfl
  i53 := by kernel_rfl
  i75 := by kernel_rfl
  i76 := by kernel_rfl
  i80 := by kernel_rfl
  i85 := by kernel_rfl
  i127 := by kernel_rfl
  i143 := by kernel_rfl
  i145 := by kernel_rfl
  i167 := by kernel_rfl
  i168 := by kernel_rfl
  i171 := by kernel_rfl
  i173 := by kernel_rfl
  i175 := by kernel_rfl
  i210 := by kernel_rfl
  i212 := by kernel_rfl
  i232 := by kernel_rfl
  i233 := by kernel_rfl
  m15 := by kernel_rfl
  m16 := by kernel_rfl
  m17 := by kernel_rfl
  m18 := by kernel_rfl
  m19 := by kernel_rfl
  c0 := by kernel_rfl
  c2 := by kernel_rfl
  c3 := by kernel_rfl
  c4 := by kernel_rfl
  c5 := by kernel_rfl
  c9 := by kernel_rfl
  c20 := by kernel_rfl
  c21 := by kernel_rfl
  c37 := by kernel_rfl
  c46 := by kernel_rfl
  c51 := by kernel_rfl
  c53 := by kernel_rfl
  c75 := by kernel_rfl
  c76 := by kernel_rfl
  c80 := by kernel_rfl
  c85 := by kernel_rfl
  c127 := by kernel_rfl
  c143 := by kernel_rfl
  c145 := by kernel_rfl
  c167 := by kernel_rfl
  c168 := by kernel_rfl
  c171 := by kernel_rfl
  c173 := by kernel_rfl
  c175 := by kernel_rfl
  c210 := by kernel_rfl
  c212 := by kernel_rfl
  c213 := by kernel_rfl
  c232 := by kernel_rfl
  c233 := by kernel_rfl }
theorem Tryz.strconv_Atoi_ok (s : ByteArray) (hmax : s.size ≤ 9223372036854775806) (v : Int) (h : Lib.atoiAll s.data.toList = .ok v) (w : World) :
    Calls Tryz.prog 66 #[.string s] w fun e w' => e = .returned (.tuple #[.int .i64 v, .nilIface]) ∧ (w' = w ∨ ∃ t, w' = Lib.bytesWorld w 5 t) := Any.strconv_Atoi_ok Tryz.laysC172 s hmax v h w
theorem Tryz.strconv_Atoi_syntax (s : ByteArray) (hlim : s.size ≤ 281474976710656) (h : Lib.atoiAll s.data.toList = Lib.atoiAll []) (ev : Value) (w : World) (hv : w.cell? ⟨6, 0, none⟩ = some ev) (hev : ev = .nilIface ∨ ∃ te pe, ev = .iface te pe) :
    Calls Tryz.prog 66 #[.string s] w fun e w' => ∃ N, e = .returned (.tuple #[.int .i64 (0), .iface 165 (.pointer (some ⟨N, 0, none⟩))]) ∧ w.heap.size ≤ N ∧ w'.heap[N]? = some (.cells #[.string ⟨#[65, 116, 111, 105]⟩, .string s, ev] 184 (0, 0)) ∧ Below w.heap.size w w' := Any.strconv_Atoi_syntax Tryz.laysC172 s hlim h ev w hv hev
theorem Tryz.strconv_Atoi_range (s : ByteArray) (hlim : s.size ≤ 281474976710656) (h : Lib.atoiAll s.data.toList = .range) (ev : Value) (w : World) (hv : w.cell? ⟨7, 0, none⟩ = some ev) (hev : ev = .nilIface ∨ ∃ te pe, ev = .iface te pe) :
    Calls Tryz.prog 66 #[.string s] w fun e w' => ∃ N, e = .returned (.tuple #[.int .i64 (Lib.atoiSat s.data.toList), .iface 165 (.pointer (some ⟨N, 0, none⟩))]) ∧ w.heap.size ≤ N ∧ w'.heap[N]? = some (.cells #[.string ⟨#[65, 116, 111, 105]⟩, .string s, ev] 184 (0, 0)) ∧ Below w.heap.size w w' := Any.strconv_Atoi_range Tryz.laysC172 s hlim h ev w hv hev
def Tryz.lays143_ren : Go.Shelf.Ren := ⟨fun | 143 => 87 | 219 => 88 | 217 => 107 | 225 => 108 | 224 => 109 | 267 => 110 | 266 => 122 | 314 => 123 | n => n, fun | 9 => 9 | 3 => 3 | 4 => 4 | 5 => 5 | 46 => 133 | 146 => 178 | 51 => 171 | n => n, fun | 1 => 2 | n => n⟩
theorem Tryz.lays143 : Go.Proofs.Lays.n143 Tryz.prog Tryz.lays143_ren := {
  mixed := by kernel_rfl
  f143 := Tryz.func87.trans (congrArg some (by kernel_rfl))
  f217 := Tryz.func107.trans (congrArg some (by kernel_rfl))
  f219 := Tryz.func88.trans (congrArg some (by kernel_rfl))
  f224 := Tryz.func109.trans (congrArg some (by kernel_rfl))
  f225 := Tryz.func108.trans (congrArg some (by kernel_rfl))
  f266 := Tryz.func122.trans (congrArg some (by kernel_rfl))
  f267 := Tryz.func110.trans (congrArg some (by kernel_rfl))
  f314 := Tryz.func123.trans (congrArg some (by kernel_rfl))
  t3 := Tryz.underlying3
  a3 := Tryz.isAgg3
  z3 := Tryz.sizeOf3
  v3 := Tryz.zeroValue3
  t4 := Tryz.underlying4
  a4 := Tryz.isAgg4
  z4 := Tryz.sizeOf4
  v4 := Tryz.zeroValue4
  t5 := Tryz.underlying5
  a5 := Tryz.isAgg5
  z5 := Tryz.sizeOf5
  v5 := Tryz.zeroValue5
  t9 := Tryz.underlying9
  a9 := Tryz.isAgg9
  z9 := Tryz.sizeOf9
  v9 := Tryz.zeroValue9
  t46 := Tryz.underlying133
  a46 := Tryz.isAgg133
  z46 := Tryz.sizeOf133
  v46 := Tryz.zeroValue133
  t51 := Tryz.underlying171
  a51 := Tryz.isAgg171
  z51 := Tryz.sizeOf171
  v51 := Tryz.zeroValue171
  t146 := Tryz.underlying178
  a146 := Tryz.isAgg178
  z146 := Tryz.sizeOf178
  v146 := Tryz.zeroValue178
  g1 := by kernel_rfl }
theorem Tryz.strings_Index (s sub : ByteArray) (m : Int) (w : World) (hs : s.size < 4294967281) (hm : w.cell? ⟨2, 0, none⟩ = some (.int .i64 m)) :
    Calls Tryz.prog 87 #[.string s, .string sub] w fun e w' => e = .returned (.int .i64 (Lib.index s.data.toList sub.data.toList)) ∧ w' = w := Any.strings_Index Tryz.lays143 s sub m w hs hm
def Tryz.lays145_ren : Go.Shelf.Ren := ⟨fun | 145 => 30 | 220 => 65 | 219 => 88 | 217 => 107 | 225 => 108 | 224 => 109 | 267 => 110 | 266 => 122 | 314 => 123 | n => n, fun | 9 => 9 | 4 => 4 | 59 => 70 | 3 => 3 | 5 => 5 | 46 => 133 | 146 => 178 | 51 => 171 | n => n, fun | 1 => 2 | n => n⟩
theorem Tryz.lays145 : Go.Proofs.Lays.n145 Tryz.prog Tryz.lays145_ren := {
  mixed := by kernel_rfl
  f145 := Tryz.func30.trans (congrArg some (by kernel_rfl))
  f217 := Tryz.func107.trans (congrArg some (by kernel_rfl))
  f219 := Tryz.func88.trans (congrArg some (by kernel_rfl))
  f220 := Tryz.func65.trans (congrArg some (by kernel_rfl))
  f224 := Tryz.func109.trans (congrArg some (by kernel_rfl))
  f225 := Tryz.func108.trans (congrArg some (by kernel_rfl))
  f266 := Tryz.func122.trans (congrArg some (by kernel_rfl))
  f267 := Tryz.func110.trans (congrArg some (by kernel_rfl))
  f314 := Tryz.func123.trans (congrArg some (by kernel_rfl))
  t3 := Tryz.underlying3
  a3 := Tryz.isAgg3
  z3 := Tryz.sizeOf3
  v3 := Tryz.zeroValue3
  t4 := Tryz.underlying4
  a4 := Tryz.isAgg4
  z4 := Tryz.sizeOf4
  v4 := Tryz.zeroValue4
  t5 := Tryz.underlying5
  a5 := Tryz.isAgg5
  z5 := Tryz.sizeOf5
  v5 := Tryz.zeroValue5
  t9 := Tryz.underlying9
  a9 := Tryz.isAgg9
  z9 := Tryz.sizeOf9
  v9 := Tryz.zeroValue9
  t46 := Tryz.underlying133
  a46 := Tryz.isAgg133
  z46 := Tryz.sizeOf133
  v46 := Tryz.zeroValue133
  t51 := Tryz.underlying171
  a51 := Tryz.isAgg171
  z51 := Tryz.sizeOf171
  v51 := Tryz.zeroValue171
  t59 := Tryz.underlying70
  a59 := Tryz.isAgg70
  z59 := Tryz.sizeOf70
  v59 := Tryz.zeroValue70
  t146 := Tryz.underlying178
  a146 := Tryz.isAgg178
  z146 := Tryz.sizeOf178
  v146 := Tryz.zeroValue178
  g1 := by kernel_rfl }
theorem Tryz.strings_Cut (s sep : ByteArray) (m : Int) (w : World) (hs : s.size < 4294967281) (hm : w.cell? ⟨2, 0, none⟩ = some (.int .i64 m)) :
    Calls Tryz.prog 30 #[.string s, .string sep] w fun e w' => e = .returned (.tuple #[.string ⟨(Lib.cut s.data.toList sep.data.toList).1.toArray⟩, .string ⟨(Lib.cut s.data.toList sep.data.toList).2.1.toArray⟩, .bool (Lib.cut s.data.toList sep.data.toList).2.2]) ∧ ∃ n, w' = w.drewN n := Any.strings_Cut Tryz.lays145 s sep m w hs hm
end Go.Proofs

namespace Go.Lq
open Go
open Go.Proofs

def tabRow : Array Value := (Lib.pow10Tab.map fun z => Value.int .u64 z).toArray
structure StrH (H : AHeap) : Prop where
  max : ∃ m, H[2]? = some (.cells false 1 [.int .i64 m])
  tab : H[3]? = some (.row tabRow)
  syn : ∃ t, H[6]? = some (.cells false 1 [.iface t junk])
  rng : ∃ t, H[7]? = some (.cells false 1 [.iface t junk])
theorem ext_at {H H' : AHeap} (hx : Ext H H') {i : Nat} {c : AObj} (h : H[i]? = some c) : H'[i]? = some c := by rw [hx.get (List.getElem?_eq_some_iff.1 h).1]; exact h
theorem StrH.ext {H H' : AHeap} (h : StrH H) (hx : Ext H H') : StrH H' := by
  obtain ⟨m, h1⟩ := h.max
  obtain ⟨t, h2⟩ := h.syn
  obtain ⟨u, h3⟩ := h.rng
  exact ⟨⟨m, ext_at hx h1⟩, ext_at hx h.tab, ⟨t, ext_at hx h2⟩, ⟨u, ext_at hx h3⟩⟩

section
variable {H : AHeap} {base : Nat} {β : Beta} {w : World}
theorem gTab : Go.Proofs.Tryz.prog.globalNamed "internal/strconv.uint64pow10" = some 3 := by kernel_rfl
theorem gSize : Go.Proofs.Tryz.prog.globals.size = 10 := by kernel_rfl
theorem Inj.glob_cell (hi : Inj Go.Proofs.Tryz.prog β H base w) {g : Nat} (hg : g < 10) {v : Value} (h : H[g]? = some (.cells false 1 [v])) : ∃ cv, w.cell? ⟨g, 0, none⟩ = some cv ∧ VR β v cv := by
  obtain ⟨r, hr⟩ := hi.glob g (by rw [gSize]; exact hg)
  have := cell_rel (k := 0) (v := v) hi hr (by unfold cellAt; rw [h]; rfl)
  simpa using this
theorem StrH.maxLen (hs : StrH H) (hi : Inj Go.Proofs.Tryz.prog β H base w) : ∃ m, w.cell? ⟨2, 0, none⟩ = some (.int .i64 m) := by
  obtain ⟨m, h⟩ := hs.max
  obtain ⟨cv, h1, h2⟩ := hi.glob_cell (by decide) h
  exact ⟨m, by rw [h1, h2.num]⟩
theorem StrH.errCell (hs : StrH H) (hi : Inj Go.Proofs.Tryz.prog β H base w) {g : Nat} (hg : g = 6 ∨ g = 7) : ∃ te pe, w.cell? ⟨g, 0, none⟩ = some (.iface te pe) := by
  rcases hg with rfl | rfl
  · obtain ⟨t, h⟩ := hs.syn
    obtain ⟨cv, h1, h2⟩ := hi.glob_cell (by decide) h
    obtain ⟨v', rfl⟩ := h2.iface_inv
    exact ⟨t, v', h1⟩
  · obtain ⟨t, h⟩ := hs.rng
    obtain ⟨cv, h1, h2⟩ := hi.glob_cell (by decide) h
    obtain ⟨v', rfl⟩ := h2.iface_inv
    exact ⟨t, v', h1⟩
theorem StrH.tabIs (hs : StrH H) (hi : Inj Go.Proofs.Tryz.prog β H base w) : Lib.TabIs Go.Proofs.Tryz.prog w "internal/strconv.uint64pow10" .u64 Lib.pow10Tab := by
  obtain ⟨r, hr⟩ := hi.glob 3 (by rw [gSize]; decide)
  have ho := hi.obj 3 _ hr
  rw [hs.tab] at ho
  obtain ⟨t, fz, h⟩ := ho
  unfold Lib.TabIs World.var?
  rw [gTab]
  simp only [Option.bind_some, h]
  rfl
theorem cargs1 {v : Value} {cargs : Array Value} (h : cargs.toList = [v]) : cargs = #[v] := by rw [← Array.toArray_toList (xs := cargs), h]
theorem cargs2 {v u : Value} {cargs : Array Value} (h : cargs.toList = [v, u]) : cargs = #[v, u] := by rw [← Array.toArray_toList (xs := cargs), h]
theorem bs_mk (l : List UInt8) : (⟨l.toArray⟩ : ByteArray) = bs l := rfl

theorem itoa_c (hs : StrH H) {n : Int} (h0 : -9223372036854775808 ≤ n) (h1 : n ≤ 9223372036854775807) : ACall Go.Proofs.Tryz.prog 27 [.int .i64 n] H fun v H' => v = .string (bs (Lib.itoa n)) ∧ H' = H := by
  refine ACall.of_calls ⟨_, Go.Proofs.Tryz.func27, by kernel_rfl, by kernel_rfl⟩ fun base β w cargs hi hv => ?_
  obtain ⟨y, e, h⟩ := VRs.one hv
  obtain rfl := h.num
  rw [cargs1 e]
  refine (Go.Proofs.Tryz.strconv_Itoa n h0 h1 w (hs.tabIs hi)).mono fun e' w' ⟨he, k, os, hw⟩ => ?_
  subst hw
  exact ⟨_, _, he, .string _, ⟨rfl, rfl⟩, Lib.below_grow _ _ (Nat.le_refl _) _ _⟩

theorem VR.pair {β : Beta} {a b c d : Value} (h1 : VR β a c) (h2 : VR β b d) : VR β (.tuple #[a, b]) (.tuple #[c, d]) := .tuple rfl fun i v v' e1 e2 => by
  match i with
  | 0 => simp at e1 e2; subst e1; subst e2; exact h1
  | 1 => simp at e1 e2; subst e1; subst e2; exact h2
  | i + 2 => simp at e1
theorem VR.trip {β : Beta} {a b c d e f : Value} (h1 : VR β a d) (h2 : VR β b e) (h3 : VR β c f) : VR β (.tuple #[a, b, c]) (.tuple #[d, e, f]) := .tuple rfl fun i v v' e1 e2 => by
  match i with
  | 0 => simp at e1 e2; subst e1; subst e2; exact h1
  | 1 => simp at e1 e2; subst e1; subst e2; exact h2
  | 2 => simp at e1 e2; subst e1; subst e2; exact h3
  | i + 3 => simp at e1
def AtoiRes (l : List UInt8) (v : Value) : Prop := (∃ n, Lib.atoiAll l = .ok n ∧ v = .tuple #[.int .i64 n, .nilIface]) ∨ ((∀ n, Lib.atoiAll l ≠ .ok n) ∧ ∃ n t, v = .tuple #[.int .i64 n, .iface t junk])
theorem atoi_c (hs : StrH H) {l : List UInt8} (hl : l.length ≤ 281474976710656) : ACall Go.Proofs.Tryz.prog 66 [.string (bs l)] H fun v H' => AtoiRes l v ∧ H' = H := by
  refine ACall.of_calls ⟨_, Go.Proofs.Tryz.func66, by kernel_rfl, by kernel_rfl⟩ fun base β w cargs hi hv => ?_
  obtain ⟨y, e, h⟩ := VRs.one hv
  obtain rfl := h.str
  rw [cargs1 e]
  have hsz : (bs l).size ≤ 281474976710656 := by rw [bs_size]; exact hl
  cases hr : Lib.atoiAll l
  · rename_i n
    refine (Go.Proofs.Tryz.strconv_Atoi_ok (bs l) (by omega) n (by rw [bs_data]; exact hr) w).mono fun e' w' ⟨he, hw⟩ => ?_
    refine ⟨_, .tuple #[.int .i64 n, .nilIface], he, VR.pair (.int _ _) .nilIface, ⟨.inl ⟨n, hr, rfl⟩, rfl⟩, ?_⟩
    rcases hw with rfl | ⟨t, rfl⟩
    · exact RowKit.Below.refl _ _
    · exact Lib.bytesWorld_below _ _ _
  · obtain ⟨te, pe, hc⟩ := hs.errCell hi (.inl rfl)
    refine (Go.Proofs.Tryz.strconv_Atoi_syntax (bs l) hsz (by rw [bs_data]; exact hr) _ w hc (.inr ⟨te, pe, rfl⟩)).mono fun e' w' ⟨N, he, _, _, hb⟩ => ?_
    exact ⟨_, .tuple #[.int .i64 0, .iface _ junk], he, VR.pair (.int _ _) (.iface _ (.junk _)), ⟨.inr ⟨fun n h => (by rw [hr] at h; cases h), _, _, rfl⟩, rfl⟩, hb⟩
  · obtain ⟨te, pe, hc⟩ := hs.errCell hi (.inr rfl)
    refine (Go.Proofs.Tryz.strconv_Atoi_range (bs l) hsz (by rw [bs_data]; exact hr) _ w hc (.inr ⟨te, pe, rfl⟩)).mono fun e' w' ⟨N, he, _, _, hb⟩ => ?_
    exact ⟨_, .tuple #[.int .i64 _, .iface _ junk], he, VR.pair (.int _ _) (.iface _ (.junk _)), ⟨.inr ⟨fun n h => (by rw [hr] at h; cases h), _, _, rfl⟩, rfl⟩, hb⟩

theorem cut_c (hs : StrH H) {l m : List UInt8} (hl : l.length ≤ 281474976) : ACall Go.Proofs.Tryz.prog 30 [.string (bs l), .string (bs m)] H fun v H' =>
    v = .tuple #[.string (bs (Lib.cut l m).1), .string (bs (Lib.cut l m).2.1), .bool (Lib.cut l m).2.2] ∧ H' = H := by
  refine ACall.of_calls ⟨_, Go.Proofs.Tryz.func30, by kernel_rfl, by kernel_rfl⟩ fun base β w cargs hi hv => ?_
  obtain ⟨y, y', e, h, h'⟩ := VRs.two hv
  obtain rfl := h.str
  obtain rfl := h'.str
  rw [cargs2 e]
  obtain ⟨k, hm⟩ := hs.maxLen hi
  refine (Go.Proofs.Tryz.strings_Cut (bs l) (bs m) k w (by rw [bs_size]; omega) hm).mono fun e' w' ⟨he, n, hw⟩ => ?_
  subst hw
  simp only [bs_data, bs_mk] at he
  exact ⟨_, _, he, VR.trip (.string _) (.string _) (.bool _), ⟨rfl, rfl⟩, ⟨rfl, rfl, rfl, Nat.le_refl _, fun _ _ => rfl⟩⟩
theorem index_c (hs : StrH H) {l m : List UInt8} (hl : l.length ≤ 281474976) : ACall Go.Proofs.Tryz.prog 87 [.string (bs l), .string (bs m)] H fun v H' => v = .int .i64 (Lib.index l m) ∧ H' = H := by
  refine ACall.of_calls ⟨_, Go.Proofs.Tryz.func87, by kernel_rfl, by kernel_rfl⟩ fun base β w cargs hi hv => ?_
  obtain ⟨y, y', e, h, h'⟩ := VRs.two hv
  obtain rfl := h.str
  obtain rfl := h'.str
  rw [cargs2 e]
  obtain ⟨k, hm⟩ := hs.maxLen hi
  refine (Go.Proofs.Tryz.strings_Index (bs l) (bs m) k w (by rw [bs_size]; omega) hm).mono fun e' w' ⟨he, hw⟩ => ?_
  subst hw
  simp only [bs_data] at he
  exact ⟨_, _, he, .int _ _, ⟨rfl, rfl⟩, RowKit.Below.refl _ _⟩

theorem join_c {ll : List (List UInt8)} {m : List UInt8} {v : Value} (ht : Txts H ll v) (hn : ll.length ≤ 1000000) (hl : (Lib.join ll m).length ≤ 140737488355328) : ACall Go.Proofs.Tryz.prog 28 [v, .string (bs m)] H fun v' H' =>
    v' = .string (bs (Lib.join ll m)) ∧ H' = H := by
  refine ACall.of_calls ⟨_, Go.Proofs.Tryz.func28, by kernel_rfl, by kernel_rfl⟩ fun base β w cargs hi hv => ?_
  obtain ⟨y, y', e, h, h'⟩ := VRs.two hv
  obtain rfl := h'.str
  rw [cargs2 e]
  by_cases h0 : ll.length = 0
  · obtain rfl := List.length_eq_zero_iff.1 h0
    have : ∃ a c, y = .slice a 0 c := by
      rcases ht.2 with ⟨rfl, _⟩ | ⟨id, off, c, rfl, _⟩
      · exact ⟨_, _, h.nilS⟩
      · cases h with | slice hc h0 ha => exact ⟨_, _, rfl⟩
    obtain ⟨a, c, rfl⟩ := this
    refine (Go.Proofs.Tryz.strings_Join_none a c (bs m) w).mono fun e' w' ⟨he, hw⟩ => ?_
    subst hw
    exact ⟨_, _, he, .string _, ⟨rfl, rfl⟩, RowKit.Below.refl _ _⟩
  obtain ⟨id, off, c, rfl, _⟩ := ht.cell (k := 0) (by omega)
  obtain ⟨a, cap, rfl, hcap, hcc, ha⟩ := h.slice_inv
  obtain ⟨p, hp, rfl, _⟩ := ha (.inl (by omega))
  have hcells : ∀ (j : Nat) x, (ll.map bs)[j]? = some x → w.cell? ⟨p.b, p.o + off + j, none⟩ = some (.string x) := fun j x hx => by
    have hj : j < ll.length := by simpa using (List.getElem?_eq_some_iff.1 hx).1
    obtain ⟨id', off', c', e', hc⟩ := ht.cell hj
    cases e'
    obtain ⟨cv, h1, h2⟩ := cell_rel hi hp hc
    obtain rfl := h2.str
    rw [Nat.add_assoc, h1]
    simp [hj] at hx
    rw [← hx]
    simp [hj]
  have hmap : (ll.map bs).map (fun b => b.data.toList) = ll := by
    rw [List.map_map]
    exact (List.map_congr_left fun l _ => bs_data l).trans (List.map_id ll)
  have := Go.Proofs.Tryz.strings_Join p.b (p.o + off) cap (ll.map bs) (bs m) w hcells (hi.lt _ _ hp) (by simp; omega) (by simpa using hcap) (by rw [hmap, bs_data]; exact hl)
  rw [hmap, bs_data, List.length_map] at this
  refine this.mono fun e' w' ⟨he, hb⟩ => ?_
  exact ⟨_, _, he, .string _, ⟨rfl, rfl⟩, hb⟩
end
end Go.Lq

namespace Go.Lq
open Go Go.ChangeShapes Go.WideShapes Go.ChangeAt Go.RowKit
open Go.Proofs

theorem own_knob : ownKnob Tryz.prog.godebug = none := by kernel_rfl
theorem laid_out : laidOutB Tryz.prog = true := by kernel_rfl
def laidAll : List (String × DataW Unit) := [("math/bits.deBruijn32tab", YtejkpmemicpheaaGreatDoor.Rows.laid_math_bits_deBruijn32tab), ("math/bits.deBruijn64tab", YtejkpmemicpheaaGreatDoor.Rows.laid_math_bits_deBruijn64tab), ("internal/strconv.uint64pow10", YtejkpmemicpheaaGreatDoor.Rows.laid_internal_strconv_uint64pow10), ("unicode/utf8.acceptRanges", YtejkpmemicpheaaGreatDoor.Rows.laid_unicode_utf8_acceptRanges), ("strconv.ErrRange", YtejkpmemicpheaaGreatDoor.Rows.laid_strconv_ErrRange), ("strconv.ErrSyntax", YtejkpmemicpheaaGreatDoor.Rows.laid_strconv_ErrSyntax), ("unicode/utf8.first", YtejkpmemicpheaaGreatDoor.Rows.laid_unicode_utf8_first)]

theorem met_plain {W : World} : laidMetH Tryz.prog laidAll W = laidMet Tryz.prog laidAll W := MakeChecks.laidMetH_plain _ _ _ (by kernel_rfl)
theorem door_met (os : Os) (args : Array Value) : laidMetH Tryz.prog laidAll ((World.laidAll Tryz.prog os laidAll).forCall (fun _ _ => 0) ⟨#[], args, []⟩).memory := by
  rw [met_plain]; exact laidMet_laidAll _ (by kernel_rfl) (by kernel_rfl)
theorem door_shaped (os : Os) (args : Array Value) : ((World.laidAll Tryz.prog os laidAll).forCall (fun _ _ => 0) ⟨#[], args, []⟩).Shaped Tryz.prog := World.shaped_of_ZipB (by kernel_rfl) (by kernel_rfl)
theorem looks0 : true = Tryz.prog.looks [] := by kernel_rfl
theorem may_enter : Tryz.prog.mayEnter = true := by kernel_rfl
theorem stops_heard : Tryz.prog.stopsHeard = true := by kernel_rfl
theorem maps_rowed : mapsRowed Tryz.prog = true := by kernel_rfl

theorem glob_block {W : World} (hsh : W.ShapedOpen Tryz.prog) {g : Nat} (hg : g < 10) (h0 : (((begin Tryz.prog (fun _ _ => 0) default).world.heap[g]?).bind Obj.row?).isSome = true) : ∃ cs t, W.heap[g]? = some (.cells cs t) := by
  obtain ⟨⟨zero, t⟩, e⟩ := Option.isSome_iff_exists.1 h0
  obtain ⟨cs, h, _⟩ := hsh.1 g zero t (by rw [gSize]; exact hg) e
  exact ⟨cs, t, h⟩
theorem iface_cell {P : Program} {w : World} {held : Bool} {fuel : Nat} {t : TypeId} {ms} {cs : List Value} {n : String} {d : DataW Unit} {p : List MemPlace} (ht : P.underlying t = some (.interface ms))
    (h : DataW.trod (fun _ => ()) P w 0 (fun _ => true) held fuel t cs = some (.iface n d, p)) : ∃ u v, cs = [.iface u v] := by
  cases fuel with
  | zero => simp [DataW.trod] at h
  | succ fuel =>
    unfold DataW.trod at h
    rw [ht] at h
    split at h <;> first | (cases h; done) | (rename_i e; cases e; exact ⟨_, _, rfl⟩) | (rename_i e _; cases e; done) | (rename_i e; cases e; done) | skip
theorem gRange : Tryz.prog.globalNamed "strconv.ErrRange" = some 7 := by kernel_rfl
theorem gSyntax : Tryz.prog.globalNamed "strconv.ErrSyntax" = some 6 := by kernel_rfl
theorem tTab : (Tryz.prog.globals[3]?).map (·.type) = some 170 := by kernel_rfl
theorem tErr6 : (Tryz.prog.globals[6]?).map (·.type) = some 121 := by kernel_rfl
theorem tErr7 : (Tryz.prog.globals[7]?).map (·.type) = some 121 := by kernel_rfl
def S0 (m : Int) (t u : TypeId) : AHeap := [.cells false 1 [], .cells false 1 [], .cells false 1 [.int .i64 m], .row tabRow, .cells false 1 [], .cells false 1 [], .cells false 1 [.iface t junk], .cells false 1 [.iface u junk], .cells false 1 [], .cells false 1 []]
theorem strH {m : Int} {t u : TypeId} {H : AHeap} (hx : Ext (S0 m t u) H) : StrH H :=
  ⟨⟨m, ext_at hx rfl⟩, ext_at hx rfl, ⟨t, ext_at hx rfl⟩, ⟨u, ext_at hx rfl⟩⟩
theorem var_cells {P : Program} {W : World} {n : String} {g : Nat} {cs : Array Value} (hg : P.globalNamed n = some g) (h : W.var? P n = some cs) : ∃ t fz, W.heap[g]? = some (.cells cs t fz) := by
  unfold World.var? at h
  rw [hg] at h
  simp only [Option.bind_some] at h
  split at h
  · cases h; exact ⟨_, _, by assumption⟩
  · cases h

theorem of_laid {W : World} (h : laidMetH Tryz.prog laidAll W) (hsh : W.ShapedOpen Tryz.prog) : ∃ m t u, Laid W [⟨0, 0, 0⟩, ⟨1, 0, 0⟩, ⟨2, 0, 0⟩, ⟨3, 0, 0⟩, ⟨4, 0, 0⟩, ⟨5, 0, 0⟩, ⟨6, 0, 0⟩, ⟨7, 0, 0⟩, ⟨8, 0, 0⟩, ⟨9, 0, 0⟩] (S0 m t u) := by
  rw [met_plain] at h
  obtain ⟨ps, hv, _⟩ := h
  obtain ⟨_, _, _, _, _, _, _, _, _, _, hv, _⟩ := hv
  obtain ⟨_, _, _, _, _, _, _, _, _, _, hv, _⟩ := hv
  obtain ⟨g3, t3, c3, f3, p3, _, a3, b3, v3, d3, hv, _⟩ := hv
  obtain ⟨_, _, _, _, _, _, _, _, _, _, hv, _⟩ := hv
  obtain ⟨g7, t7, c7, f7, p7, _, a7, b7, v7, d7, hv, _⟩ := hv
  obtain ⟨g6, t6, c6, f6, p6, _, a6, b6, v6, d6, hv, _⟩ := hv
  obtain rfl := Option.some.inj (gTab.symm.trans a3)
  obtain rfl := Option.some.inj (gRange.symm.trans a7)
  obtain rfl := Option.some.inj (gSyntax.symm.trans a6)
  obtain rfl := Option.some.inj (tTab.symm.trans b3)
  obtain rfl := Option.some.inj (tErr7.symm.trans b7)
  obtain rfl := Option.some.inj (tErr6.symm.trans b6)
  obtain ⟨m, hm⟩ := cell_of_shapedOpen_int (P := Tryz.prog) (g := 2) (zero := #[.int .i64 0]) (t := 3) hsh (of_decide_eq_true (by kernel_rfl)) (by kernel_rfl) rfl (by kernel_rfl) (by kernel_rfl) Tryz.underlying3
  have e3 : c3.toList = Lib.pow10Tab.map fun z => Value.int .u64 z := Lib.cells_of_tab (t := 170) (e := 90) (n := 20) (k := .u64) (zs := Lib.pow10Tab) (by kernel_rfl) (by kernel_rfl) (by kernel_rfl) (by kernel_rfl) d3
  have e3 : c3 = tabRow := by
    unfold tabRow
    rw [← e3]
  subst e3
  obtain ⟨u, x7, e7⟩ := iface_cell Tryz.underlying121 d7
  obtain ⟨t, x6, e6⟩ := iface_cell Tryz.underlying121 d6
  obtain ⟨k0, s0, h0⟩ := glob_block (g := 0) hsh (by decide) (by kernel_rfl)
  obtain ⟨k1, s1, h1⟩ := glob_block (g := 1) hsh (by decide) (by kernel_rfl)
  obtain ⟨k2, s2, h2⟩ := glob_block (g := 2) hsh (by decide) (by kernel_rfl)
  obtain ⟨s3, z3, h3⟩ := var_cells gTab v3
  obtain ⟨k4, s4, h4⟩ := glob_block (g := 4) hsh (by decide) (by kernel_rfl)
  obtain ⟨k5, s5, h5⟩ := glob_block (g := 5) hsh (by decide) (by kernel_rfl)
  obtain ⟨s6, z6, h6⟩ := var_cells gSyntax v6
  obtain ⟨s7, z7, h7⟩ := var_cells gRange v7
  obtain ⟨k8, s8, h8⟩ := glob_block (g := 8) hsh (by decide) (by kernel_rfl)
  obtain ⟨k9, s9, h9⟩ := glob_block (g := 9) hsh (by decide) (by kernel_rfl)
  refine ⟨m, t, u, ?_⟩
  have L2 := (((Laid.none W).blank h0 1 0).blank h1 1 0).push (p := ⟨2, 0, 0⟩) (esz := 1) (vs := [.int .i64 m]) h2 fun k v hk => by
    cases k with
    | zero =>
      simp at hk
      subst hk
      refine ⟨_, ?_, .int _ _⟩
      unfold World.cell? at hm
      rw [h2] at hm
      simpa using hm
    | succ k => simp at hk
  have one : ∀ {cs : Array Value} {t : TypeId} {x : Value}, cs.toList = [.iface t x] → ∀ (B : List ALoc) (k : Nat) (v : Value), [Value.iface t junk][k]? = some v → ∃ cv, cs[0 + k]? = some cv ∧ VR (betaOf B) v cv := fun {cs t x} e B k v hk => by
    cases k with
    | zero =>
      simp at hk
      subst hk
      exact ⟨.iface t x, by rw [← Array.getElem?_toList, e]; rfl, .iface _ (.junk _)⟩
    | succ k => simp at hk
  have L5 := ((L2.row (p := ⟨3, 0, 0⟩) h3).blank h4 1 0).blank h5 1 0
  have L6 := L5.push (p := ⟨6, 0, 0⟩) (esz := 1) (vs := [.iface t junk]) h6 (one e6 _)
  have L7 := L6.push (p := ⟨7, 0, 0⟩) (esz := 1) (vs := [.iface u junk]) h7 (one e7 _)
  exact (L7.blank h8 1 0).blank h9 1 0
theorem globs {m : Int} {t u : TypeId} : Tryz.prog.globals.size ≤ (S0 m t u).length := by rw [gSize]; exact Nat.le_refl _
theorem glob_at : ∀ g, g < Tryz.prog.globals.size → ∃ r, ([⟨0, 0, 0⟩, ⟨1, 0, 0⟩, ⟨2, 0, 0⟩, ⟨3, 0, 0⟩, ⟨4, 0, 0⟩, ⟨5, 0, 0⟩, ⟨6, 0, 0⟩, ⟨7, 0, 0⟩, ⟨8, 0, 0⟩, ⟨9, 0, 0⟩] : List ALoc)[g]? = some ⟨g, 0, r⟩ := fun g hg => by
  rw [gSize] at hg
  match g, hg with
  | 0, _ => exact ⟨0, rfl⟩
  | 1, _ => exact ⟨0, rfl⟩
  | 2, _ => exact ⟨0, rfl⟩
  | 3, _ => exact ⟨0, rfl⟩
  | 4, _ => exact ⟨0, rfl⟩
  | 5, _ => exact ⟨0, rfl⟩
  | 6, _ => exact ⟨0, rfl⟩
  | 7, _ => exact ⟨0, rfl⟩
  | 8, _ => exact ⟨0, rfl⟩
  | 9, _ => exact ⟨0, rfl⟩
end Go.Lq

namespace Go.Lq
open Go Go.ChangeShapes Go.WideShapes Go.ChangeAt Go.RowKit
open Go.Proofs
theorem lifts_final : Tryz.prog.liftsFinal = YtejkpmemicpheaaGreatDoor.Rows.speedStringsRow.lifted := by kernel_rfl
theorem make_is : Tryz.prog.make = some YtejkpmemicpheaaGreatDoor.Rows.speedStringsRow.make := by kernel_rfl
theorem main_is : Tryz.prog.mainIs = some (true, "0f45edf933d94b2041ee32defa7f59a21703d276aed9c21567102dc55ab8e729".toList) := by kernel_rfl
end Go.Lq

namespace Go.Lq
open Go
open Go.Proofs

def numP (d : Int) (l : List UInt8) : Option Int := match Lib.atoiAll l with | .ok n => if 0 ≤ n ∧ Lib.itoa n = l ∧ (l.length : Int) ≤ d then some n else none | _ => none
def NumRes (d : Int) (l : List UInt8) (v : Value) : Prop := ∃ n, v = .tuple #[.int .i64 n, .bool (numP d l).isSome] ∧ ∀ m, numP d l = some m → n = m
section
variable {H : AHeap}
theorem number_c (hs : StrH H) {l : List UInt8} {d : Int} (hl : l.length ≤ 281474976710656) : ACall Go.Proofs.Tryz.prog 31 [.string (bs l), .int .i64 d] H fun v H' => NumRes d l v ∧ H' = H := by
  (refine a31 ?_; simp only [n31, List.replicate, yq, yr, yt, yu]; first | refine q1 ?_ | refine q2 ?_ | refine q6 ?_ | refine q7 ?_ | refine qh rfl ?_ | skip)
  (refine yg ?_)
  refine aops_call ((atoi_c hs hl).mono fun v H1 ⟨hr, e⟩ => ?_)
  subst e
  rcases hr with ⟨n, hn, rfl⟩ | ⟨hn, n, t, rfl⟩
  · obtain ⟨b0, b1⟩ := Lib.atoiAll_bounds hn
    by_cases h0 : 0 ≤ n
    · (repeat (first | refine yw ?_ | ((first | apply yd | apply ye); simp (disch := first|exact zz|fail) only [go_sem, dec_t h0]; with_reducible rfl)))
      refine aops_call_to (itoa_c hs b0 b1) ?_
      by_cases h1 : Lib.itoa n = l
      · (repeat (first | refine yw ?_ | ((first | apply yd | apply ye); simp (disch := first|exact zz|fail) only [go_sem, dec_t h1]; with_reducible rfl)))
        refine fin_2 ⟨⟨n, ?_, ?_⟩, rfl⟩
        · unfold numP
          rw [hn]
          by_cases h2 : (l.length : Int) ≤ d <;> simp [h0, h1, h2]
        · intro m hm
          unfold numP at hm
          rw [hn] at hm
          by_cases h2 : (l.length : Int) ≤ d
          · simpa [h0, h1, h2] using hm
          · simp [h0, h1, h2] at hm
      · (repeat (first | refine yw ?_ | ((first | apply yd | apply ye); simp (disch := first|exact zz|fail) only [go_sem, dec_f h1]; with_reducible rfl)))
        refine fin_2 ⟨⟨n, ?_, ?_⟩, rfl⟩
        · unfold numP; rw [hn]; simp [h1]
        · intro m hm
          unfold numP at hm
          rw [hn] at hm
          simp [h1] at hm
    · (repeat (first | refine yw ?_ | ((first | apply yd | apply ye); simp (disch := first|exact zz|fail) only [go_sem, dec_f h0]; with_reducible rfl)))
      refine fin_2 ⟨⟨n, ?_, ?_⟩, rfl⟩
      · unfold numP; rw [hn]; simp [h0]
      · intro m hm
        unfold numP at hm
        rw [hn] at hm
        simp [h0] at hm
  · have e : numP d l = none := by
      unfold numP
      split
      · rename_i m hm; exact absurd hm (hn m)
      · rfl
    (refine yg ?_)
    refine fin_2 ⟨⟨n, ?_, ?_⟩, rfl⟩
    · rw [e]; rfl
    · intro m hm; rw [e] at hm; cases hm
end
end Go.Lq

namespace Go.Lq
open Go
open Go.Proofs

theorem a_sub8 {H : AHeap} {a b : Int} (h0 : 0 ≤ a - b) (h1 : a - b < 256) : arithR .sub (.int .u8 a) (.int .u8 b) H = some (.int .u8 (a - b), H) := by
  have : IntKind.u8.wrap (a - b) = a - b := by
    unfold IntKind.wrap IntKind.bits
    have : (2 : Int) ^ 8 = 256 := by decide
    simp [IntKind.signed]
    omega
  simp [arithR, arithA, this]
theorem at8_bounds (l : List UInt8) (n : Int) : 0 ≤ at8 l n ∧ at8 l n < 256 := by
  unfold at8
  have := (l.getD n.toNat 0).toNat_lt
  omega
attribute [go_sem] a_sub8

def digV (acc : Int) : List UInt8 → Option Int
  | [] => some acc
  | b :: r => if ((b.toNat : Nat) : Int) < 48 ∨ 57 < ((b.toNat : Nat) : Int) then none else digV (10 * acc + (((b.toNat : Nat) : Int) - 48)) r
def signAt (l : List UInt8) : Nat := if 0 < l.length ∧ at8 l 0 = 45 then 1 else 0
def numB (d : Int) (l : List UInt8) : Option Int :=
  if (l.length : Int) = (signAt l : Nat) ∨ d < (l.length : Int) - (signAt l : Nat) ∨ (at8 l (signAt l : Nat) = 48 ∧ 1 < (l.length : Int)) then none
  else (digV 0 (l.drop (signAt l))).map fun n => if ((signAt l : Nat) : Int) = 1 then -n else n
theorem digV_step {l : List UInt8} {i : Nat} (h : i < l.length) (acc : Int) : digV acc (l.drop i) = if at8 l i < 48 ∨ 57 < at8 l i then none else digV (10 * acc + (at8 l i - 48)) (l.drop (i + 1)) := by
  rw [drop_getD (d := (0 : UInt8)) h]
  rfl
section
variable {H : AHeap}
theorem refNumber_c {l : List UInt8} {d : Int} (hd : d ≤ 18) (hl : l.length ≤ 1000000) : ACall Go.Proofs.Tryz.prog 68 [.string (bs l), .int .i64 d] H fun v H' =>
    v = .tuple #[.int .i64 ((numB d l).getD 0), .bool (numB d l).isSome] ∧ H' = H := by
  (refine a68 ?_; simp only [n68, List.replicate, yq, yr, yt, yu]; first | refine q1 ?_ | refine q2 ?_ | refine q6 ?_ | refine q7 ?_ | refine qh rfl ?_ | skip)
  (refine yx ?_; (first | apply aops_all | apply adraw_all); simp (disch := first|exact zz|fail) only [go_sem]; with_reducible rfl)
  (refine yx ?_; (first | apply aops_all | apply adraw_all); simp (disch := first|exact zz|fail) only [go_sem]; with_reducible rfl)
  refine awp_seq ?_
  refine awp_mid [true, true, false, false, true, true, true, false, false, false, false, false, false, false, false, false, false, false, false, false, false, false, false, false, false, false, false, false, false, false, false, false, false, false, false, false, false, false, false, false, false, false, false, false, false, false, false, false, false, false, false, false, false, false, false, false, false, false, false, false, false, false, false, false, false, false, false, false, false, false] (fun e J => J = H ∧ e = [.string (bs l), .int .i64 d, junk, junk, .int .i64 0, .bool false, .int .i64 ((signAt l : Nat) : Int), junk, junk, junk, junk, junk, junk, junk, junk, junk, junk, junk, junk, junk, junk, junk, junk, junk, junk, junk, junk, junk, junk, junk, junk, junk, junk, junk, junk, junk, junk, junk, junk, junk, junk, junk, junk, junk, junk, junk, junk, junk, junk, junk, junk, junk, junk, junk, junk, junk, junk, junk, junk, junk, junk, junk, junk, junk, junk, junk, junk, junk, junk, junk]) ?_ ?_
  · by_cases hp : 0 < l.length
    · have hp' : (0 : Int) < (l.length : Int) := by omega
      by_cases h45 : at8 l 0 = 45
      · have hs : ((signAt l : Nat) : Int) = 1 := by unfold signAt; rw [if_pos ⟨hp, h45⟩]; rfl
        (repeat (first | refine yw ?_ | ((first | apply yd | apply ye); simp (disch := first|exact zz|fail) only [go_sem, dec_t hp', dec_t h45]; with_reducible rfl)))
        refine cond_t rfl ?_
        (refine yg ?_)
        exact ⟨rfl, rfl, by simp [forget, hs]⟩
      · have hs : ((signAt l : Nat) : Int) = 0 := by unfold signAt; rw [if_neg (fun h => h45 h.2)]; rfl
        (repeat (first | refine yw ?_ | ((first | apply yd | apply ye); simp (disch := first|exact zz|fail) only [go_sem, dec_t hp', dec_f h45]; with_reducible rfl)))
        refine cond_f rfl ?_
        (refine yg ?_)
        exact ⟨rfl, rfl, by simp [forget, hs]⟩
    · have hs : ((signAt l : Nat) : Int) = 0 := by unfold signAt; rw [if_neg (fun h => hp h.1)]; rfl
      have hp' : ¬ (0 : Int) < (l.length : Int) := by omega
      (repeat (first | refine yw ?_ | ((first | apply yd | apply ye); simp (disch := first|exact zz|fail) only [go_sem, dec_f hp']; with_reducible rfl)))
      refine cond_f rfl ?_
      (refine yg ?_)
      exact ⟨rfl, rfl, by simp [forget, hs]⟩
  rintro e J ⟨rfl, rfl⟩
  obtain ⟨a, ha⟩ : ∃ a, a = signAt l := ⟨_, rfl⟩
  have ha1 : a ≤ 1 ∧ a ≤ l.length := by rw [ha]; unfold signAt; split <;> omega
  rw [← ha]
  have hN : numB d l = if (l.length : Int) = (a : Nat) ∨ d < (l.length : Int) - (a : Nat) ∨ (at8 l (a : Nat) = 48 ∧ 1 < (l.length : Int)) then none
      else (digV 0 (l.drop a)).map fun n => if ((a : Nat) : Int) = 1 then -n else n := by rw [ha]; rfl
  by_cases h1 : (l.length : Int) = (a : Nat)
  · rw [if_pos (.inl h1)] at hN
    rw [hN]
    (repeat (first | refine yw ?_ | ((first | apply yd | apply ye); simp (disch := first|exact zz|fail) only [go_sem, dec_t h1]; with_reducible rfl)))
    refine cond_t rfl ?_
    (refine yg ?_)
    exact fin_2 ⟨rfl, rfl⟩
  by_cases h2 : d < (l.length : Int) - (a : Nat)
  · rw [if_pos (.inr (.inl h2))] at hN
    rw [hN]
    (repeat (first | refine yw ?_ | ((first | apply yd | apply ye); simp (disch := first|exact zz|fail) only [go_sem, dec_f h1, dec_t h2]; with_reducible rfl)))
    refine cond_t rfl ?_
    (refine yg ?_)
    exact fin_2 ⟨rfl, rfl⟩
  by_cases h3 : at8 l (a : Nat) = 48 ∧ 1 < (l.length : Int)
  · rw [if_pos (.inr (.inr h3))] at hN
    rw [hN]
    (repeat (first | refine yw ?_ | ((first | apply yd | apply ye); simp (disch := first|exact zz|fail) only [go_sem, dec_f h1, dec_f h2, dec_t h3.1, dec_t h3.2]; with_reducible rfl)))
    refine cond_t rfl ?_
    (refine yg ?_)
    exact fin_2 ⟨rfl, rfl⟩
  rw [if_neg (fun h => h.elim h1 fun h => h.elim h2 h3)] at hN
  refine awp_seq ?_
  refine awp_mid [true, true, false, false, true, true, true, false, false, false, false, false, false, false, false, false, false, false, false, false, false, false, false, false, false, false, false, false, false, false, false, false, false, false, false, false, false, false, false, false, false, false, false, false, false, false, false, false, false, false, false, false, false, false, false, false, false, false, false, false, false, false, false, false, false, false, false, false, false, false] (fun e K => K = J ∧ e = [.string (bs l), .int .i64 d, junk, junk, .int .i64 0, .bool false, .int .i64 (a : Nat), junk, junk, junk, junk, junk, junk, junk, junk, junk, junk, junk, junk, junk, junk, junk, junk, junk, junk, junk, junk, junk, junk, junk, junk, junk, junk, junk, junk, junk, junk, junk, junk, junk, junk, junk, junk, junk, junk, junk, junk, junk, junk, junk, junk, junk, junk, junk, junk, junk, junk, junk, junk, junk, junk, junk, junk, junk, junk, junk, junk, junk, junk, junk]) ?_ ?_
  · by_cases h4 : at8 l (a : Nat) = 48
    · have h5 : ¬ 1 < (l.length : Int) := fun h => h3 ⟨h4, h⟩
      (repeat (first | refine yw ?_ | ((first | apply yd | apply ye); simp (disch := first|exact zz|fail) only [go_sem, dec_f h1, dec_f h2, dec_t h4, dec_f h5]; with_reducible rfl)))
      refine cond_f rfl ?_
      (refine yg ?_)
      exact ⟨rfl, rfl, by simp [forget]⟩
    · (repeat (first | refine yw ?_ | ((first | apply yd | apply ye); simp (disch := first|exact zz|fail) only [go_sem, dec_f h1, dec_f h2, dec_f h4]; with_reducible rfl)))
      refine cond_f rfl ?_
      (refine yg ?_)
      exact ⟨rfl, rfl, by simp [forget]⟩
  rintro e K ⟨rfl, rfl⟩
  (refine yg ?_)
  refine awp_loop_n [true, false, false, false, true, true, true, true, true, false, false, false, false, false, false, false, false, false, false, false, false, false, false, false, false, false, false, false, false, false, false, false, false, false, false, false, false, false, false, false, false, false, false, false, false, false, false, false, false, false, false, false, false, false, false, false, false, false, false, false, false, false, false, false, false, false, false, false, false, false] (l.length - a) (fun j e K' => ∃ n, K' = K ∧ e = [.string (bs l), junk, junk, junk, .int .i64 0, .bool false, .int .i64 (a : Nat), .int .i64 n, .int .i64 ((a + j : Nat) : Int), junk, junk, junk, junk, junk, junk, junk, junk, junk, junk, junk, junk, junk, junk, junk, junk, junk, junk, junk, junk, junk, junk, junk, junk, junk, junk, junk, junk, junk, junk, junk, junk, junk, junk, junk, junk, junk, junk, junk, junk, junk, junk, junk, junk, junk, junk, junk, junk, junk, junk, junk, junk, junk, junk, junk, junk, junk, junk, junk, junk, junk] ∧ 0 ≤ n ∧ n < 10 ^ j ∧ digV 0 (l.drop a) = digV n (l.drop (a + j))) ?_ ?_
  · exact ⟨0, rfl, by simp [forget], by omega, by decide, rfl⟩
  rintro j e K' hj ⟨n, rfl, rfl, n0, n1, hn⟩
  have hp18 : (10 : Int) ^ j ≤ 10 ^ 18 := by
    have : (10 : Nat) ^ j ≤ 10 ^ 18 := Nat.pow_le_pow_right (by decide) (by omega)
    exact_mod_cast this
  have h18 : (10 : Int) ^ 18 = 1000000000000000000 := by decide
  rw [h18] at hp18
  have hps : (10 : Int) ^ (j + 1) = 10 ^ j * 10 := Int.pow_succ ..
  (refine yg ?_)
  refine cond_p rfl (fun hlt => ?_) (fun hge => ?_)
  rotate_left 1
  · have hend : a + j = l.length := by omega
    rw [hend, List.drop_length] at hn
    have hn : digV 0 (l.drop a) = some n := hn
    rw [hn] at hN
    by_cases h6 : ((a : Nat) : Int) = 1
    · have hN : numB d l = some (-n) := by rw [hN]; simp [h6]
      rw [hN]
      (repeat (first | refine yw ?_ | ((first | apply yd | apply ye); simp (disch := first|exact zz|fail) only [go_sem, dec_t h6]; with_reducible rfl)))
      refine cond_t rfl ?_
      (refine yg ?_)
      refine fin_2 ⟨?_, rfl⟩
      simp
    · have hN : numB d l = some n := by rw [hN]; simp [h6]
      rw [hN]
      (repeat (first | refine yw ?_ | ((first | apply yd | apply ye); simp (disch := first|exact zz|fail) only [go_sem, dec_f h6]; with_reducible rfl)))
      refine cond_f rfl ?_
      (refine yg ?_)
      exact fin_2 ⟨rfl, rfl⟩
  have hi : a + j < l.length := by omega
  have hp17 : (10 : Int) ^ (j + 1) ≤ 1000000000000000000 := by
    have : (10 : Nat) ^ (j + 1) ≤ 10 ^ 18 := Nat.pow_le_pow_right (by decide) (by omega)
    rw [← h18]
    exact_mod_cast this
  have n2 : 10 * n < 1000000000000000000 := by omega
  rw [digV_step hi] at hn
  obtain ⟨b0, b1⟩ := at8_bounds l ((a + j : Nat) : Int)
  by_cases c1 : at8 l ((a + j : Nat) : Int) < 48
  · rw [if_pos (.inl c1)] at hn
    have hN : numB d l = none := by rw [hN, hn]; rfl
    rw [hN]
    (repeat (first | refine yw ?_ | ((first | apply yd | apply ye); simp (disch := first|exact zz|fail) only [go_sem, dec_t c1]; with_reducible rfl)))
    refine cond_t rfl ?_
    (refine yg ?_)
    exact fin_2 ⟨rfl, rfl⟩
  by_cases c2 : 57 < at8 l ((a + j : Nat) : Int)
  · rw [if_pos (.inr c2)] at hn
    have hN : numB d l = none := by rw [hN, hn]; rfl
    rw [hN]
    (repeat (first | refine yw ?_ | ((first | apply yd | apply ye); simp (disch := first|exact zz|fail) only [go_sem, dec_f c1, dec_t c2]; with_reducible rfl)))
    refine cond_t rfl ?_
    (refine yg ?_)
    exact fin_2 ⟨rfl, rfl⟩
  rw [if_neg (fun h => h.elim c1 c2)] at hn
  have e1 : ((a + j : Nat) : Int) + 1 = ((a + (j + 1) : Nat) : Int) := by omega
  (repeat (first | refine yw ?_ | ((first | apply yd | apply ye); simp (disch := first|exact zz|fail) only [go_sem, dec_f c1, dec_f c2]; with_reducible rfl)))
  refine cond_f rfl ?_
  (repeat (first | refine yw ?_ | ((first | apply yd | apply ye); simp (disch := first|exact zz|fail) only [go_sem, e1]; with_reducible rfl)))
  exact ⟨by omega, 10 * n + (at8 l ((a + j : Nat) : Int) - 48), rfl, by simp [forget], by omega, by omega, by rw [hn, show a + (j + 1) = a + j + 1 by omega]⟩
end
end Go.Lq

namespace Go.Lq
open Go
open Go.Proofs

def numR (d : Int) (l : List UInt8) : Option Int := match numB d l with | some n => if at8 l 0 ≠ 45 then some n else none | none => none
theorem numB_pos {d : Int} {l : List UInt8} {n : Int} (h : numB d l = some n) : 0 < l.length := by
  match l with
  | [] =>
    unfold numB at h
    rw [if_pos (.inl (by rfl))] at h
    cases h
  | _ :: _ => simp
section
variable {H : AHeap}
theorem refNum_c {l : List UInt8} {d : Int} (hd : d ≤ 18) (hl : l.length ≤ 1000000) : ACall Go.Proofs.Tryz.prog 34 [.string (bs l), .int .i64 d] H fun v H' =>
    v = .tuple #[.int .i64 ((numB d l).getD 0), .bool (numR d l).isSome] ∧ H' = H := by
  (refine a34 ?_; simp only [n34, List.replicate, yq, yr, yt, yu]; first | refine q1 ?_ | refine q2 ?_ | refine q6 ?_ | refine q7 ?_ | refine qh rfl ?_ | skip)
  (refine yg ?_)
  refine aops_call_to (refNumber_c hd hl) ?_
  cases hb : numB d l with
  | none =>
    have hr : numR d l = none := by unfold numR; rw [hb]
    rw [hr]
    (repeat (first | refine yw ?_ | ((first | apply yd | apply ye); simp (disch := first|exact zz|fail) only [go_sem, Option.isSome_none]; with_reducible rfl)))
    exact fin_2 ⟨rfl, rfl⟩
  | some n =>
    have hp : (0 : Int) < l.length := by have := numB_pos hb; omega
    by_cases h45 : at8 l 0 = 45
    · have hr : numR d l = none := by unfold numR; rw [hb]; simp [h45]
      rw [hr]
      (repeat (first | refine yw ?_ | ((first | apply yd | apply ye); simp (disch := first|exact zz|fail) only [go_sem, Option.isSome_some, dec_f (fun h : at8 l 0 ≠ 45 => h h45)]; with_reducible rfl)))
      exact fin_2 ⟨rfl, rfl⟩
    · have hr : numR d l = some n := by unfold numR; rw [hb]; simp [h45]
      rw [hr]
      (repeat (first | refine yw ?_ | ((first | apply yd | apply ye); simp (disch := first|exact zz|fail) only [go_sem, Option.isSome_some, dec_t (show at8 l 0 ≠ 45 from h45)]; with_reducible rfl)))
      exact fin_2 ⟨rfl, rfl⟩

theorem dec_step {u : Nat} (h : ¬ u < 10) : Lib.decDigits u = Lib.decDigits (u / 10) ++ [UInt8.ofNat (48 + u % 10)] := by
  rw [Lib.decDigits, dif_neg h]
theorem size_c (n : Int) (hn : -9223372036854775807 ≤ n ∧ n ≤ 9223372036854775807) : ACall Go.Proofs.Tryz.prog 69 [.int .i64 n] H fun v H' => v = .int .i64 (max n (-n)) ∧ H' = H := by
  (refine a69 ?_; simp only [n69, List.replicate, yq, yr, yt, yu]; first | refine q1 ?_ | refine q2 ?_ | refine q6 ?_ | refine q7 ?_ | refine qh rfl ?_ | skip)
  (refine yg ?_)
  refine fin_1 ⟨?_, rfl⟩
  simp
theorem tmod_abs (m : Int) : max (m.tmod 10) (-(m.tmod 10)) = ((m.natAbs % 10 : Nat) : Int) := by
  rcases Int.lt_or_le m 0 with h | h
  · obtain ⟨k, rfl⟩ : ∃ k : Nat, m = -(k : Int) := ⟨m.natAbs, by omega⟩
    have h2 : (k : Int).tmod 10 = ((k % 10 : Nat) : Int) := rfl
    rw [Int.neg_tmod, h2, Int.natAbs_neg, Int.natAbs_natCast]
    omega
  · obtain ⟨k, rfl⟩ : ∃ k : Nat, m = (k : Int) := ⟨m.natAbs, by omega⟩
    have h2 : (k : Int).tmod 10 = ((k % 10 : Nat) : Int) := rfl
    rw [h2, Int.natAbs_natCast]
    omega
theorem tdiv_abs (m : Int) : (m.tdiv 10).natAbs = m.natAbs / 10 := by
  rw [Int.natAbs_tdiv]; rfl
theorem tdiv_small (m : Int) (h0 : -9223372036854775808 ≤ m) (h1 : m ≤ 9223372036854775807) : -9223372036854775808 ≤ m.tdiv 10 ∧ m.tdiv 10 ≤ 9223372036854775807 := by
  have := tdiv_abs m
  omega
theorem conv_i8 {H : AHeap} {a : Int} (h0 : 0 ≤ a) (h : a < 256) : convR .u8 (.int .i64 a) H = some (.int .u8 a, H) := by
  simp only [convR, IntKind.wrap, IntKind.bits]
  have : (2 : Int) ^ 8 = 256 := by decide
  simp [IntKind.signed]
  omega

theorem decimal_c {n : Int} (h0 : -9223372036854775808 ≤ n) (h1 : n ≤ 9223372036854775807) : ACall Go.Proofs.Tryz.prog 35 [.int .i64 n] H fun v H' => v = .string (bs (Lib.itoa n)) ∧ H' = H := by
  refine ACall.drop (.string _) ?_
  (refine a35 ?_; simp only [n35, List.replicate, yq, yr, yt, yu]; first | refine q1 ?_ | refine q2 ?_ | refine q6 ?_ | refine q7 ?_ | refine qh rfl ?_ | skip)
  by_cases hz : n = 0
  · subst hz
    (refine yg ?_)
    refine cond_t rfl ?_
    (refine yg ?_)
    refine fin_1 ⟨?_, Ext.refl _⟩
    have : Lib.itoa 0 = [48] := by unfold Lib.itoa; rw [if_neg (by decide), show (0 : Int).toNat = 0 from rfl, Lib.decDigits]; rfl
    rw [this]; rfl
  (repeat (first | refine yw ?_ | ((first | apply yd | apply ye); simp (disch := first|exact zz|fail) only [go_sem, dec_f hz]; with_reducible rfl)))
  refine cond_f rfl ?_
  (refine yx ?_; (first | apply aops_all | apply adraw_all); simp (disch := first|exact zz|fail) only [go_sem]; with_reducible rfl)
  refine awp_seq ?_
  refine awp_mid [true, false, true, true, true, false, false, false, false, false, false, false, false, false, false, false, false, false, false, false, false, false, false, false, false, false, false] (fun e J => J = H ∧ e = [.int .i64 n, junk, .string (bs []), .string (bs []), .string (bs (if n < 0 then [45] else [])), junk, junk, junk, junk, junk, junk, junk, junk, junk, junk, junk, junk, junk, junk, junk, junk, junk, junk, junk, junk, junk, junk]) ?_ ?_
  · by_cases hneg : n < 0
    · (repeat (first | refine yw ?_ | ((first | apply yd | apply ye); simp (disch := first|exact zz|fail) only [go_sem, dec_t hneg]; with_reducible rfl)))
      refine cond_t rfl ?_
      (refine yg ?_)
      exact ⟨rfl, rfl, by simp [forget, hneg]⟩
    · (repeat (first | refine yw ?_ | ((first | apply yd | apply ye); simp (disch := first|exact zz|fail) only [go_sem, dec_f hneg]; with_reducible rfl)))
      refine cond_f rfl ?_
      (refine yg ?_)
      exact ⟨rfl, rfl, by simp [forget, hneg]⟩
  rintro e J ⟨rfl, rfl⟩
  obtain ⟨sg, hsg⟩ : ∃ sg : List UInt8, sg = if n < 0 then [45] else [] := ⟨_, rfl⟩
  have hsl : sg.length ≤ 1 := by rw [hsg]; split <;> simp
  have hit : Lib.itoa n = sg ++ Lib.decDigits n.natAbs := by
    rw [hsg]; unfold Lib.itoa
    split
    · rfl
    · rw [show n.toNat = n.natAbs by omega]; rfl
  rw [← hsg]
  have hdl : (Lib.decDigits n.natAbs).length ≤ 21 := by
    have := Lib.itoa_length_le n h0 h1
    rw [hit, List.length_append] at this
    omega
  refine yx ?_
  refine awp_loop [true, false, true, true, true, false, false, false, false, false, false, false, false, false, false, false, false, false, false, false, false, false, false, false, false, false, false] (fun k e J' => Ext J J' ∧ ∃ (m : Int) (s : List UInt8), k = m.natAbs ∧ (-9223372036854775808 ≤ m ∧ m ≤ 9223372036854775807) ∧ (if m = 0 then s else Lib.decDigits m.natAbs ++ s) = Lib.decDigits n.natAbs ∧
      e = [.int .i64 m, junk, .string (bs []), .string (bs s), .string (bs sg), junk, junk, junk, junk, junk, junk, junk, junk, junk, junk, junk, junk, junk, junk, junk, junk, junk, junk, junk, junk, junk, junk]) n.natAbs ?_ ?_
  · exact ⟨Ext.refl _, n, [], rfl, ⟨h0, h1⟩, by rw [if_neg hz, List.append_nil], by simp [forget]⟩
  rintro k e J' ⟨x1, m, s, rfl, ⟨m0, m1⟩, hs, rfl⟩
  by_cases hm : m = 0
  · rw [if_pos hm] at hs
    subst hs
    (repeat (first | refine yw ?_ | ((first | apply yd | apply ye); simp (disch := first|exact zz|fail) only [go_sem, dec_f (fun h : m ≠ 0 => h hm)]; with_reducible rfl)))
    refine cond_f rfl ?_
    (refine yg ?_)
    refine fin_1 ⟨?_, x1⟩
    rw [hit]; rfl
  have hm' : m ≠ 0 := hm
  rw [if_neg hm] at hs
  have hsl : s.length ≤ 21 := by
    have := congrArg List.length hs
    rw [List.length_append] at this
    omega
  obtain ⟨t0, t1⟩ := tdiv_small m m0 m1
  have tm := tmod_abs m
  have tl := Nat.mod_lt m.natAbs (show 0 < 10 by decide)
  (repeat (first | refine yw ?_ | ((first | apply yd | apply ye); simp (disch := first|exact zz|fail) only [go_sem, dec_t hm']; with_reducible rfl)))
  refine cond_t rfl ?_
  (refine yg ?_)
  refine aops_call_to (size_c (m.tmod 10) (by omega)) ?_
  rw [tm]
  (repeat (first | refine yw ?_ | ((first | apply yd | apply ye); simp (disch := first|exact zz|fail) only [go_sem, conv_i8, w64_id (n := m.tdiv 10) t0 t1]; with_reducible rfl)))
  have e1 : (48 + ((m.natAbs % 10 : Nat) : Int)).toNat = 48 + m.natAbs % 10 := by omega
  refine ⟨_, ?_, (x1.app _), m.tdiv 10, UInt8.ofNat (48 + m.natAbs % 10) :: s, rfl, ⟨t0, t1⟩, ?_, ?_⟩
  · rw [tdiv_abs]; omega
  · rw [tdiv_abs, ← hs]
    by_cases hq : m.tdiv 10 = 0
    · have : m.natAbs < 10 := by
        have := tdiv_abs m
        rw [hq] at this
        have : m.natAbs / 10 = 0 := this.symm
        omega
      rw [if_pos hq, Lib.decDigits_one this, Nat.mod_eq_of_lt this]; rfl
    · have : ¬ m.natAbs < 10 := fun h => hq (by have := tdiv_abs m; omega)
      rw [if_neg hq, dec_step this, List.append_assoc]; rfl
  · rw [← e1]; simp [forget]
end
end Go.Lq

namespace Go.Lq
open Go
open Go.Proofs

def cutL (c : UInt8) : List UInt8 → List (List UInt8)
  | [] => [[]]
  | b :: r => if b = c then [] :: cutL c r else match cutL c r with | x :: xs => (b :: x) :: xs | [] => [[b]]
def cutFrom (c : UInt8) (pre r : List UInt8) : List (List UInt8) := match cutL c r with | x :: xs => (pre ++ x) :: xs | [] => [pre]
theorem cutL_ne (c : UInt8) (l : List UInt8) : ∃ x xs, cutL c l = x :: xs := by
  cases l with
  | nil => exact ⟨_, _, rfl⟩
  | cons b r =>
    unfold cutL
    split
    · exact ⟨_, _, rfl⟩
    · split <;> exact ⟨_, _, rfl⟩
theorem cutFrom_nil (c : UInt8) (l : List UInt8) : cutFrom c [] l = cutL c l := by
  obtain ⟨x, xs, e⟩ := cutL_ne c l
  unfold cutFrom; rw [e]; rfl
theorem cutFrom_end (c : UInt8) (pre : List UInt8) : cutFrom c pre [] = [pre] := by simp [cutFrom, cutL]
theorem cutFrom_hit (c : UInt8) (pre r : List UInt8) : cutFrom c pre (c :: r) = pre :: cutFrom c [] r := by
  rw [cutFrom_nil]
  simp [cutFrom, cutL]
theorem cutFrom_miss {c b : UInt8} (h : b ≠ c) (pre r : List UInt8) : cutFrom c pre (b :: r) = cutFrom c (pre ++ [b]) r := by
  obtain ⟨x, xs, e⟩ := cutL_ne c r
  unfold cutFrom
  rw [cutL, if_neg h, e]
  simp
theorem cutL_length (c : UInt8) (l : List UInt8) : (cutL c l).length ≤ l.length + 1 := by
  induction l with
  | nil => simp [cutL]
  | cons b r ih =>
    unfold cutL
    split
    · simp; omega
    · obtain ⟨x, xs, e⟩ := cutL_ne c r
      rw [e] at ih ⊢
      simp at ih ⊢; omega
theorem cutL_piece (c : UInt8) (l : List UInt8) : ∀ x ∈ cutL c l, x.length ≤ l.length := by
  induction l with
  | nil => simp [cutL]
  | cons b r ih =>
    unfold cutL
    split
    · intro x hx
      rcases List.mem_cons.1 hx with rfl | hx
      · simp
      · have := ih x hx; simp; omega
    · obtain ⟨y, ys, e⟩ := cutL_ne c r
      rw [e] at ih ⊢
      intro x hx
      rcases List.mem_cons.1 hx with rfl | hx
      · have := ih y (List.mem_cons_self ..); simp; omega
      · have := ih x (List.mem_cons_of_mem _ hx); simp; omega
section
variable {H : AHeap}
theorem cutR_c {l : List UInt8} {c : UInt8} (hl : l.length ≤ 1000000) : ACall Go.Proofs.Tryz.prog 33 [.string (bs l), .int .u8 (c.toNat : Nat)] H (TxtsRet H (cutL c l)) := by
  refine ACall.txts ?_
  (refine a33 ?_; simp only [n33, List.replicate, yq, yr, yt, yu]; first | refine q1 ?_ | refine q2 ?_ | refine q6 ?_ | refine q7 ?_ | refine qh rfl ?_ | skip)
  (refine yg ?_)
  refine awp_loop_n [true, true, false, false, false, true, true, true, false, false, false, false, false, false, false, false, false, false, false, false, false, false, false, false, false, false, false, false, false, false, false, false, false, false] l.length (fun i e H' => Ext H H' ∧ ∃ (out : List (List UInt8)) (f : Nat) (v : Value), OwnS H H' out v ∧ out.length ≤ i ∧ f ≤ i ∧ cutL c l = out ++ cutFrom c ((l.take i).drop f) (l.drop i) ∧
      e = [.string (bs l), .int .u8 (c.toNat : Nat), junk, junk, junk, v, .int .i64 (f : Nat), .int .i64 (i : Nat), junk, junk, junk, junk, junk, junk, junk, junk, junk, junk, junk, junk, junk, junk, junk, junk, junk, junk, junk, junk, junk, junk, junk, junk, junk, junk]) ?_ ?_
  · exact ⟨Ext.refl _, [], 0, .slice none 0 0, OwnS.nil _ _, by simp, by simp, by simp [cutFrom_nil], by simp [forget]⟩
  rintro i e H' hi ⟨x1, out, f, v, ho, hol, hf, hc, rfl⟩
  (refine yg ?_)
  refine cond_p rfl (fun hlt => ?_) (fun hge => ?_)
  rotate_left 1
  · obtain rfl : i = l.length := by omega
    rw [List.take_length, List.drop_length, cutFrom_end] at hc
    (repeat (first | refine yw ?_ | ((first | apply yd | apply ye); simp (disch := first|exact zz|fail) only [go_sem, ho.push]; with_reducible rfl)))
    refine fin_1 ⟨ho.ext x1 _, ?_⟩
    have := ho.pushed x1 (l.drop f)
    rw [hc]
    exact this
  have hi' : i < l.length := by omega
  have e1 : (i : Int) + 1 = ((i + 1 : Nat) : Int) := by omega
  have hat : at8 l (i : Nat) = ((l.getD i 0).toNat : Nat) := rfl
  rw [drop_getD (d := (0 : UInt8)) hi'] at hc
  by_cases hb : l.getD i 0 = c
  · have hb' : at8 l (i : Nat) = ((c.toNat : Nat) : Int) := by rw [hat, hb]
    rw [hb, cutFrom_hit] at hc
    (repeat (first | refine yw ?_ | ((first | apply yd | apply ye); simp (disch := first|exact zz|fail) only [go_sem, dec_t hb']; with_reducible rfl)))
    refine cond_t rfl ?_
    (repeat (first | refine yw ?_ | ((first | apply yd | apply ye); simp (disch := first|exact zz|fail) only [go_sem, ho.push, e1]; with_reducible rfl)))
    refine ⟨by omega, ho.ext x1 _, out ++ [(l.take i).drop f], i + 1, pushV H' out.length, ho.pushed x1 _, by simp; omega, by omega, ?_, by simp [forget]⟩
    rw [hc, show ((l.take (i + 1)).drop (i + 1)) = [] from List.drop_eq_nil_of_le (by simp; omega), List.append_assoc]
    rfl
  · have hb' : ¬ at8 l (i : Nat) = ((c.toNat : Nat) : Int) := by
      rw [hat]
      intro h
      exact hb (UInt8.toNat_inj.1 (by exact_mod_cast h))
    rw [cutFrom_miss hb] at hc
    (repeat (first | refine yw ?_ | ((first | apply yd | apply ye); simp (disch := first|exact zz|fail) only [go_sem, dec_f hb']; with_reducible rfl)))
    refine cond_f rfl ?_
    (repeat (first | refine yw ?_ | ((first | apply yd | apply ye); simp (disch := first|exact zz|fail) only [go_sem, e1]; with_reducible rfl)))
    refine ⟨by omega, x1, out, f, v, ho, by omega, by omega, ?_, by simp [forget]⟩
    rw [hc]
    congr 1
    rw [List.take_succ_eq_append_getElem hi', List.drop_append_of_le_length (by simp; omega)]
    simp [List.getD, hi']
end
end Go.Lq

namespace Go.Lq
open Go

def allD (l : List UInt8) : Prop := ∀ b ∈ l, 48 ≤ b.toNat ∧ b.toNat ≤ 57
def valF (acc : Nat) (l : List UInt8) : Nat := l.foldl (fun a b => 10 * a + (b.toNat - 48)) acc
theorem valF_cons (acc : Nat) (b : UInt8) (r : List UInt8) : valF acc (b :: r) = valF (10 * acc + (b.toNat - 48)) r := by unfold valF; rw [List.foldl_cons]
theorem valF_snoc (acc : Nat) (l : List UInt8) (b : UInt8) : valF acc (l ++ [b]) = 10 * valF acc l + (b.toNat - 48) := by simp [valF, List.foldl_append]
theorem valF_ge : ∀ (l : List UInt8) (acc : Nat), acc ≤ valF acc l
  | [], acc => Nat.le_refl _
  | b :: r, acc => by rw [valF_cons]; have := valF_ge r (10 * acc + (b.toNat - 48)); omega
theorem digV_all : ∀ (l : List UInt8) (acc : Nat), allD l → digV acc l = some (valF acc l : Nat)
  | [], acc, _ => rfl
  | b :: r, acc, h => by
    have hb := h b (List.mem_cons_self ..)
    rw [digV, if_neg (by omega), valF_cons, ← digV_all r _ fun x hx => h x (List.mem_cons_of_mem _ hx)]
    congr 1
    omega
theorem digV_some : ∀ (l : List UInt8) (acc n : Int), digV acc l = some n → allD l
  | [], _, _, _ => fun b h => by cases h
  | b :: r, acc, n, h => by
    rw [digV] at h
    split at h
    · cases h
    · rename_i hb
      intro x hx
      rcases List.mem_cons.1 hx with rfl | hx
      · omega
      · exact digV_some r _ n h x hx
theorem parse_all : ∀ (l : List UInt8) (acc : Nat), allD l → valF acc l < 9223372036854775808 → Lib.parseUint10 acc l = .ok (valF acc l)
  | [], acc, _, _ => rfl
  | b :: r, acc, h, hv => by
    have hb := h b (List.mem_cons_self ..)
    rw [valF_cons] at hv ⊢
    have hge := valF_ge r (10 * acc + (b.toNat - 48))
    rw [Lib.parseUint10, if_pos hb, if_neg (by omega), if_neg (by omega), Nat.mul_comm acc 10]
    exact parse_all r _ (fun x hx => h x (List.mem_cons_of_mem _ hx)) hv
theorem ofNat_toNat {k : Nat} (h : k < 256) : (UInt8.ofNat k).toNat = k := by
  rw [UInt8.toNat_ofNat']; omega
theorem dec_all (u : Nat) : allD (Lib.decDigits u) ∧ valF 0 (Lib.decDigits u) = u ∧ ∃ b r, Lib.decDigits u = b :: r ∧ (b.toNat = 48 → u = 0) := by
  induction u using Nat.strongRecOn with
  | ind u ih =>
    by_cases h : u < 10
    · rw [Lib.decDigits_one h]
      have e := ofNat_toNat (k := 48 + u) (by omega)
      refine ⟨fun b hb => ?_, ?_, _, _, rfl, ?_⟩
      · rw [List.mem_singleton.1 hb, e]; omega
      · show 10 * 0 + ((UInt8.ofNat (48 + u)).toNat - 48) = u
        rw [e]; omega
      · rw [e]; omega
    · rw [dec_step h]
      obtain ⟨h1, h2, b, r, h3, h4⟩ := ih (u / 10) (by omega)
      have hm := Nat.mod_lt u (show 0 < 10 by decide)
      have e := ofNat_toNat (k := 48 + u % 10) (by omega)
      refine ⟨fun x hx => ?_, ?_, b, r ++ [_], by rw [h3]; rfl, fun hb => by have := h4 hb; omega⟩
      · rcases List.mem_append.1 hx with hx | hx
        · exact h1 x hx
        · rw [List.mem_singleton.1 hx, e]; omega
      · rw [valF_snoc, h2, e]; omega
theorem snoc_ind {p : List UInt8 → Prop} (h0 : p []) (h1 : ∀ l b, p l → p (l ++ [b])) (l : List UInt8) : p l := by
  have : ∀ m : List UInt8, p m.reverse := fun m => by
    induction m with
    | nil => exact h0
    | cons b r ih => rw [List.reverse_cons]; exact h1 _ _ ih
  have := this l.reverse
  rwa [List.reverse_reverse] at this
theorem dec_val (l : List UInt8) : allD l → l ≠ [] → (at8 l 0 = 48 → l.length = 1) → Lib.decDigits (valF 0 l) = l := by
  induction l using snoc_ind with
  | h0 => intro _ h; exact absurd rfl h
  | h1 l b ih =>
    intro hall _ hz
    have hb := hall b (by simp)
    have hl : allD l := fun x hx => hall x (by simp [hx])
    have eb : UInt8.ofNat (48 + (b.toNat - 48)) = b := by
      apply UInt8.toNat_inj.1
      rw [ofNat_toNat (by omega)]; omega
    rw [valF_snoc]
    by_cases hn : l = []
    · subst hn
      show Lib.decDigits (10 * 0 + _) = _
      rw [Nat.mul_zero, Nat.zero_add, Lib.decDigits_one (by omega), eb]
      rfl
    · have hpos : 0 < l.length := List.length_pos_iff.2 hn
      have h0 : at8 (l ++ [b]) 0 = at8 l 0 := by
        unfold at8
        rw [show (0 : Int).toNat = 0 from rfl, getD_append_lt hpos]
      have hnz : at8 l 0 ≠ 48 := fun h => by
        have := hz (by rw [h0]; exact h)
        simp at this
        exact hn this
      have ihl := ih hl hn fun h => absurd h hnz
      have hv : valF 0 l ≠ 0 := fun h => by
        rw [h, Lib.decDigits_one (by decide)] at ihl
        apply hnz
        rw [← ihl]; rfl
      rw [dec_step (by omega), show (10 * valF 0 l + (b.toNat - 48)) / 10 = valF 0 l by omega, show (10 * valF 0 l + (b.toNat - 48)) % 10 = b.toNat - 48 by omega, ihl, eb]

theorem itoa_nat (u : Nat) : Lib.itoa (u : Int) = Lib.decDigits u := by unfold Lib.itoa; rw [if_neg (by omega), Int.toNat_natCast]
theorem atoi_dec {u : Nat} (h : u < 9223372036854775808) : Lib.atoiAll (Lib.decDigits u) = .ok (u : Int) := by
  obtain ⟨h1, h2, b, r, h3, _⟩ := dec_all u
  have hb := h1 b (by rw [h3]; simp)
  rw [h3, Lib.atoiAll_plain b r (by omega) (by omega), ← h3]
  unfold Lib.parseMag
  rw [if_neg (by rw [h3]; simp), parse_all _ _ h1 (by rw [h2]; exact h), h2]
  simp only [Lib.signless]
  rw [if_neg (by omega)]
theorem numP_iff {d n : Int} {l : List UInt8} : numP d l = some n ↔ (0 ≤ n ∧ n ≤ 9223372036854775807 ∧ Lib.itoa n = l ∧ (l.length : Int) ≤ d) := by
  constructor
  · intro h
    unfold numP at h
    split at h
    · rename_i m hm
      split at h
      · rename_i hc
        cases h
        exact ⟨hc.1, (Lib.atoiAll_bounds hm).2, hc.2⟩
      · cases h
    · cases h
  · rintro ⟨h0, h1, h2, h3⟩
    obtain ⟨u, rfl⟩ : ∃ u : Nat, n = u := ⟨n.toNat, by omega⟩
    have e : Lib.atoiAll l = .ok (u : Int) := by rw [← h2, itoa_nat]; exact atoi_dec (by omega)
    unfold numP
    rw [e]
    simp [h2, h3]
theorem numR_iff {d n : Int} {l : List UInt8} (hd : d ≤ 18) : numR d l = some n ↔ (0 ≤ n ∧ Lib.itoa n = l ∧ (l.length : Int) ≤ d) := by
  constructor
  · intro h
    unfold numR at h
    split at h
    · rename_i m hm
      split at h
      · rename_i h45
        cases h
        have hs : signAt l = 0 := by unfold signAt; rw [if_neg (fun h => h45 h.2)]
        unfold numB at hm
        rw [hs] at hm
        split at hm
        · cases hm
        · rename_i hc
          have c1 : ¬ (l.length : Int) = 0 := fun h => hc (.inl h)
          have c2 : ¬ d < (l.length : Int) := fun h => hc (.inr (.inl (by simpa using h)))
          have c3 : ¬ (at8 l 0 = 48 ∧ 1 < (l.length : Int)) := fun h => hc (.inr (.inr h))
          have hm : digV 0 l = some n := by
            cases hv : digV 0 (l.drop 0) with
            | none => rw [hv] at hm; cases hm
            | some k =>
              rw [hv] at hm
              have : k = n := by simpa using hm
              rw [← this]; exact hv
          have hall := digV_some l 0 n hm
          have hv := digV_all l 0 hall
          have e : n = (valF 0 l : Nat) := by
            have : some n = some ((valF 0 l : Nat) : Int) := hm.symm.trans hv
            exact Option.some.inj this
          subst e
          refine ⟨by omega, ?_, by omega⟩
          rw [itoa_nat]
          exact dec_val l hall (fun h => c1 (by rw [h]; rfl)) fun h => by
            have : ¬ 1 < (l.length : Int) := fun h' => c3 ⟨h, h'⟩
            omega
      · cases h
    · cases h
  · rintro ⟨h0, h2, h3⟩
    obtain ⟨u, rfl⟩ : ∃ u : Nat, n = u := ⟨n.toNat, by omega⟩
    rw [itoa_nat] at h2
    obtain ⟨h4, h5, b, r, h6, h7⟩ := dec_all u
    rw [h2] at h4 h5 h6
    have hb := h4 b (by rw [h6]; simp)
    have a0 : at8 l 0 = ((b.toNat : Nat) : Int) := by rw [h6]; rfl
    have hs : signAt l = 0 := by unfold signAt; rw [if_neg (fun h => by have := h.2; omega)]
    have hB : numB d l = some (u : Int) := by
      unfold numB
      rw [hs]
      have hv := digV_all l 0 h4
      rw [h5] at hv
      have hv : digV 0 (l.drop 0) = some (u : Int) := hv
      rw [hv, if_neg]
      · rfl
      · rintro (h | h | ⟨h, h'⟩)
        · rw [h6] at h; simp at h; omega
        · have : d < (l.length : Int) := by simpa using h
          omega
        · have hb48 : b.toNat = 48 := by have : at8 l 0 = 48 := h; omega
          have := h7 hb48
          subst this
          rw [Lib.decDigits_one (by decide)] at h2
          rw [← h2] at h'
          simp at h'
    unfold numR
    rw [hB]
    simp only
    rw [if_pos (by omega)]
theorem numPR {d : Int} {l : List UInt8} (hd : d ≤ 18) : numP d l = numR d l := by
  apply Option.ext
  intro n
  rw [numP_iff, numR_iff hd]
  constructor
  · rintro ⟨h0, _, h2, h3⟩; exact ⟨h0, h2, h3⟩
  · rintro ⟨h0, h2, h3⟩
    refine ⟨h0, ?_, h2, h3⟩
    obtain ⟨u, rfl⟩ : ∃ u : Nat, n = u := ⟨n.toNat, by omega⟩
    rw [itoa_nat] at h2
    have hlt := Lib.lt_pow_nDigits u
    rw [← Lib.decDigits_length, h2] at hlt
    have : (10 : Nat) ^ l.length ≤ 10 ^ 18 := Nat.pow_le_pow_right (by decide) (by omega)
    have h18 : (10 : Nat) ^ 18 = 1000000000000000000 := by decide
    omega
theorem numP_fst {d : Int} {l : List UInt8} {n : Int} (hd : d ≤ 18) (h : numP d l = some n) : (numB d l).getD 0 = n := by
  rw [numPR hd] at h
  unfold numR at h
  split at h
  · rename_i m hm
    split at h
    · cases h; rw [hm]; rfl
    · cases h
  · cases h

/-! ### A text cut -/
theorem index_eq (c : UInt8) (r : List UInt8) : Lib.index (c :: r) [c] = 0 := by simp [Lib.index, List.isPrefixOf]
theorem index_ne {b c : UInt8} (h : b ≠ c) (r : List UInt8) : Lib.index (b :: r) [c] = if Lib.index r [c] = -1 then -1 else Lib.index r [c] + 1 := by
  have : ([c].isPrefixOf (b :: r)) = false := by simp [List.isPrefixOf, h.symm]
  rw [Lib.index, this]
  simp
theorem cut_cutL (c : UInt8) (l : List UInt8) : cutL c l = if (Lib.cut l [c]).2.2 = true then (Lib.cut l [c]).1 :: cutL c (Lib.cut l [c]).2.1 else [l] := by
  induction l with
  | nil => simp [cutL, Lib.cut, Lib.index]
  | cons b r ih =>
    by_cases h : b = c
    · subst h
      rw [cutL, if_pos rfl]
      simp [Lib.cut, index_eq]
    · have hg := Lib.index_ge r [c]
      rw [cutL, if_neg h, ih]
      unfold Lib.cut
      rw [index_ne h]
      by_cases hm : Lib.index r [c] = -1
      · simp [hm]
      · have e1 : 0 ≤ Lib.index r [c] := by omega
        have e2 : 0 ≤ Lib.index r [c] + 1 := by omega
        have e3 : (Lib.index r [c] + 1).toNat = (Lib.index r [c]).toNat + 1 := by omega
        simp only [if_neg hm, if_pos e1, if_pos e2, if_true, e3]
        simp [Nat.add_right_comm]
def i64 (n : Int) : Prop := -9223372036854775808 ≤ n ∧ n ≤ 9223372036854775807
end Go.Lq

namespace Go.Lq
open Go
open Go.Proofs

theorem index_lt {c : UInt8} (r : List UInt8) (h : 0 ≤ Lib.index r [c]) : Lib.index r [c] < r.length := by
  induction r with
  | nil => simp [Lib.index] at h
  | cons b s ih =>
    by_cases hb : b = c
    · subst hb; rw [index_eq]; simp
    · rw [index_ne hb] at h ⊢
      by_cases hm : Lib.index s [c] = -1
      · rw [if_pos hm] at h; omega
      · rw [if_neg hm] at h ⊢
        have hg := Lib.index_ge s [c]
        have := ih (by omega)
        simp; omega
def pieces (r : List UInt8) : List (List Value) := (cutL 32 r).map fun w => [.string (bs w)]
theorem pieces_no {r : List UInt8} (h : Lib.index r [32] < 0) : pieces r = [[.string (bs r)]] := by
  unfold pieces
  rw [cut_cutL, if_neg (by unfold Lib.cut; rw [if_neg (by omega)]; simp)]
  rfl
theorem pieces_yes {r : List UInt8} (h : 0 ≤ Lib.index r [32]) : pieces r = [.string (bs (r.take (Lib.index r [32]).toNat))] :: pieces (r.drop ((Lib.index r [32]).toNat + 1)) := by
  unfold pieces
  rw [cut_cutL, if_pos (by unfold Lib.cut; rw [if_pos h])]
  unfold Lib.cut
  rw [if_pos h]
  rfl
theorem store_s1 {J : AHeap} {b : Nat} {x : Value} {s : ByteArray} (h : J[b]? = some (.cells true 0 [x])) : storeR 1 (.pointer (some ⟨b, 0, none⟩)) (.string s) J = some (undef, J.set b (.cells true 0 [.string s])) := by
  have ec : (Value.string s).cells.toList = [.string s] := rfl
  have ec2 : (Value.string s).cells.size = 1 := rfl
  have ec4 : ([Value.string s].all isAtom) = true := rfl
  have ec5 : setCells [x] 0 [.string s] = [.string s] := rfl
  simp only [storeR, ec, ec2, if_true, storeAt, h, List.length_cons, List.length_nil, Nat.zero_add, Nat.le_refl, ec4, and_self, Option.map_some, ec5]
def SeqFact (a c : Nat) (H : AHeap) : Prop := StrH H ∧ H[a]? = some (.cells true 0 [.string (bs [32])]) ∧ H[c]? = some (.cells true 0 [.int .i64 0])
section
variable {H : AHeap}
set_option maxHeartbeats 1000000 in
theorem splitSeq1_c {a b c : Nat} {l : List UInt8} (hl : l.length ≤ 100000) :
    GenC Go.Proofs.Tryz.prog 85 [] [.pointer (some ⟨a, 0, none⟩), .pointer (some ⟨b, 0, none⟩), .pointer (some ⟨c, 0, none⟩)] b (.cells true 0 [.string (bs l)]) (SeqFact a c) (pieces l) := by
  intro y I S H0 hF hset hround hk hI0
  show ACall _ _ [.func (.yield y) #[] #[], .pointer (some ⟨a, 0, none⟩), .pointer (some ⟨b, 0, none⟩), .pointer (some ⟨c, 0, none⟩)] _ _
  obtain ⟨fs, fa, fc⟩ := hF _ _ hI0
  have ha0 : loadR (.pointer (some ⟨a, 0, none⟩)) H0 = some (.string (bs [32]), H0) := by rw [load_at fa]; rfl
  (refine a85 ?_; simp only [n85, List.replicate, yq, yr, yt, yu]; first | refine q1 ?_ | refine q2 ?_ | refine q6 ?_ | refine q7 ?_ | refine qh rfl ?_ | skip)
  (repeat (first | refine yw ?_ | ((first | apply yd | apply ye); simp (disch := first|exact zz|fail) only [go_sem, ha0, List.length_cons, List.length_nil]; with_reducible rfl)))
  refine cond_f rfl ?_
  (refine yg ?_)
  refine awp_loop [true, true, true, true, false, false, false, false, false, false, false, false, false, false, false, false, false, false, false, false, false, false, false, false, false, false, false, false, false, false, false, false, false, false, false, false, false, false, false, false, false, false, false, false, false, false, false, false, false, false, false, false] (fun k e H' => e = [.func (.yield y) #[] #[], .pointer (some ⟨a, 0, none⟩), .pointer (some ⟨b, 0, none⟩), .pointer (some ⟨c, 0, none⟩), junk, junk, junk, junk, junk, junk, junk, junk, junk, junk, junk, junk, junk, junk, junk, junk, junk, junk, junk, junk, junk, junk, junk, junk, junk, junk, junk, junk, junk, junk, junk, junk, junk, junk, junk, junk, junk, junk, junk, junk, junk, junk, junk, junk, junk, junk, junk, junk] ∧ ∃ r, k = r.length ∧ r.length ≤ l.length ∧
      H'[b]? = some (.cells true 0 [.string (bs r)]) ∧ I (pieces r) H') l.length ?_ ?_
  · exact ⟨by simp [forget], l, rfl, Nat.le_refl _, hk, hI0⟩
  rintro k e H1 ⟨rfl, r, rfl, hrl, hb, hI⟩
  obtain ⟨fs, fa, fc⟩ := hF _ _ hI
  have ha : loadR (.pointer (some ⟨a, 0, none⟩)) H1 = some (.string (bs [32]), H1) := by rw [load_at fa]; rfl
  have hb0 : loadR (.pointer (some ⟨b, 0, none⟩)) H1 = some (.string (bs r), H1) := by rw [load_at hb]; rfl
  have hc0 : loadR (.pointer (some ⟨c, 0, none⟩)) H1 = some (.int .i64 0, H1) := by rw [load_at fc]; rfl
  (repeat (first | refine yw ?_ | ((first | apply yd | apply ye); simp (disch := first|exact zz|fail) only [go_sem, ha, hb0]; with_reducible rfl)))
  (refine aops_call_to (index_c fs (l := r) (m := [32]) (by omega)) ?_)
  have hge := Lib.index_ge r [32]
  by_cases hneg : Lib.index r [32] < 0
  · rw [pieces_no hneg] at hI
    (repeat (first | refine yw ?_ | ((first | apply yd | apply ye); simp (disch := first|exact zz|fail) only [go_sem, dec_t hneg]; with_reducible rfl)))
    refine cond_t rfl ?_
    (repeat (first | refine yw ?_ | ((first | apply yd | apply ye); simp (disch := first|exact zz|fail) only [go_sem, hb0]; with_reducible rfl)))
    refine aops_call ((hround _ _ _ hI).mono fun v1 H3 h => ?_)
    rcases h with ⟨rfl, hI3, _⟩ | ⟨rfl, hS⟩
    · (refine yg ?_)
      exact ⟨.inl rfl, undef, rfl, .inl hI3⟩
    · (refine yg ?_)
      exact ⟨.inl rfl, undef, rfl, .inr hS⟩
  have h0 : 0 ≤ Lib.index r [32] := by omega
  have hlt := index_lt r h0
  rw [pieces_yes h0] at hI
  obtain ⟨n, hn⟩ : ∃ n, n = (Lib.index r [32]).toNat := ⟨_, rfl⟩
  have hn' : Lib.index r [32] = (n : Int) := by omega
  rw [hn', Int.toNat_natCast] at hI
  rw [hn'] at hneg hlt ⊢
  have hnl : n < r.length := by omega
  (repeat (first | refine yw ?_ | ((first | apply yd | apply ye); simp (disch := first|exact zz|fail) only [go_sem, dec_f hneg, hb0, hc0]; with_reducible rfl)))
  refine cond_f rfl ?_
  (repeat (first | refine yw ?_ | ((first | apply yd | apply ye); simp (disch := first|exact zz|fail) only [go_sem, hb0, hc0]; with_reducible rfl)))
  have e0 : (n : Int) + 0 = (n : Int) := by omega
  refine aops_call ((hround _ _ _ hI).mono fun v1 H3 h => ?_)
  rcases h with ⟨rfl, hI3, hb3⟩ | ⟨rfl, hS⟩
  · obtain ⟨fs3, fa3, fc3⟩ := hF _ _ hI3
    have hb3' : H3[b]? = some (.cells true 0 [.string (bs r)]) := hb3.trans hb
    have ha3 : loadR (.pointer (some ⟨a, 0, none⟩)) H3 = some (.string (bs [32]), H3) := by rw [load_at fa3]; rfl
    have hb30 : loadR (.pointer (some ⟨b, 0, none⟩)) H3 = some (.string (bs r), H3) := by rw [load_at hb3']; rfl
    have e1 : ((n : Int) + ((0 + 1 : Nat) : Int)) = ((n + 1 : Nat) : Int) := by omega
    (refine yg ?_)
    refine cond_f rfl ?_
    (repeat (first | refine yw ?_ | ((first | apply yd | apply ye); simp (disch := first|exact zz|fail) only [go_sem, hb30, ha3, List.length_cons, List.length_nil, e1, store_s1 hb3']; with_reducible rfl)))
    refine ⟨_, ?_, rfl, r.drop (n + 1), rfl, by rw [List.length_drop]; omega, get_set_self hb3', hset _ _ _ hI3⟩
    rw [List.length_drop]; omega
  · (refine yg ?_)
    refine cond_t rfl ?_
    (refine yg ?_)
    exact ⟨.inr rfl, undef, rfl, .inr hS⟩
end
end Go.Lq

namespace Go.Lq
open Go
open Go.Proofs

theorem Own.set_lt {H0 H : AHeap} {sz n : Nat} {vs : List Value} {v : Value} (h : Own H0 H sz n vs v) {j : Nat} (hj : j < H0.length) (c : AObj) : Own H0 (H.set j c) sz n vs v :=
  ⟨h.1, h.2.imp_right fun ⟨id, e, h1, h2, hc⟩ => ⟨id, e, h1, h2, by rw [List.getElem?_set_ne (by omega)]; exact hc⟩⟩
section
variable {H : AHeap}
theorem box_str {s : ByteArray} {H : AHeap} : boxR (.string s) H = some (.pointer (some ⟨H.length, 0, none⟩), H ++ [.cells true 0 [.string s]]) := rfl
theorem box_i0 {n : Int} {H : AHeap} : boxR (.int .i64 n) H = some (.pointer (some ⟨H.length, 0, none⟩), H ++ [.cells true 0 [.int .i64 n]]) := rfl
theorem splitSeq_c {l : List UInt8} : ACall Go.Proofs.Tryz.prog 29 [.string (bs l), .string (bs [32])] H fun v H' =>
    v = .func (.func 85) ⟨[]⟩ ⟨[.pointer (some ⟨H.length + 1, 0, none⟩), .pointer (some ⟨H.length, 0, none⟩), .pointer (some ⟨H.length + 2, 0, none⟩)]⟩ ∧
      H' = H ++ [.cells true 0 [.string (bs l)], .cells true 0 [.string (bs [32])], .cells true 0 [.int .i64 0]] := by
  have inner : ACall Go.Proofs.Tryz.prog 64 [.string (bs l), .string (bs [32]), .int .i64 0] H fun v H' =>
    v = .func (.func 85) ⟨[]⟩ ⟨[.pointer (some ⟨H.length + 1, 0, none⟩), .pointer (some ⟨H.length, 0, none⟩), .pointer (some ⟨H.length + 2, 0, none⟩)]⟩ ∧
      H' = H ++ [.cells true 0 [.string (bs l)], .cells true 0 [.string (bs [32])], .cells true 0 [.int .i64 0]] := by
    (refine a64 ?_; simp only [n64, List.replicate, yq, yr, yt, yu]; first | refine q1 ?_ | refine q2 ?_ | refine q6 ?_ | refine q7 ?_ | refine qh rfl ?_ | skip)
    (repeat (first | refine yw ?_ | ((first | apply yd | apply ye); simp (disch := first|exact zz|fail) only [go_sem, box_str, box_i0]; with_reducible rfl)))
    refine fin_1 ⟨?_, by simp⟩
    simp
  (refine a29 ?_; simp only [n29, List.replicate, yq, yr, yt, yu]; first | refine q1 ?_ | refine q2 ?_ | refine q6 ?_ | refine q7 ?_ | refine qh rfl ?_ | skip)
  (refine yg ?_)
  refine aops_call_to inner ?_
  (refine yg ?_)
  exact fin_1 ⟨rfl, rfl⟩
end
end Go.Lq


namespace Go.Lq
open Go
open Go.Proofs

def nilCR (x : Value) (H : AHeap) : Option (Value × AHeap) := match x with | .pointer (some a) => some (.pointer (some a), H) | .func (.func f) xs ys => some (.func (.func f) xs ys, H) | _ => none
theorem r_nilCR {x : Operand} {ρ : Operand → Value} {H : AHeap} : ropRun (.nilCheck x) ρ H = nilCR (ρ x) H := rfl
theorem nilC_p {a : Addr} {H : AHeap} : nilCR (.pointer (some a)) H = some (.pointer (some a), H) := rfl
def idxAgg (len : Nat) (x i : Value) (H : AHeap) : Option (Value × AHeap) := match x, i with | .agg cs, .int _ n => if 0 ≤ n ∧ n < len then (cs[n.toNat]?).map fun v => (v, H) else none | _, _ => none
theorem r_idxAgg {len : Nat} {x y : Operand} {ρ : Operand → Value} {H : AHeap} : ropRun (.idxA len x y) ρ H = idxAgg len (ρ x) (ρ y) H := rfl
attribute [go_sem] r_nilCR nilC_p r_idxAgg

theorem Txts.of_cells {J : AHeap} {id c : Nat} {o : Bool} {e : Nat} {pl : List (List UInt8)} (h : J[id]? = some (.cells o e (strs pl))) : Txts J pl (.slice (some ⟨id, 0, none⟩) pl.length c) := by
  refine ⟨by simp [strs], .inr ⟨id, 0, c, rfl, fun _ => ?_⟩⟩
  unfold cellsAt
  rw [h]
  simp only [List.drop_zero, Nat.zero_add, Nat.mul_one, strs_length, Nat.le_refl, if_true]
  rw [List.take_of_length_le (by rw [strs_length]; exact Nat.le_refl _)]
section
variable {H : AHeap}
end
end Go.Lq

namespace Go.Lq
open Go
open Go.Proofs

section
variable {H : AHeap}
theorem cut32_c {l : List UInt8} (hl : l.length ≤ 1000000) : ACall Go.Proofs.Tryz.prog 33 [.string (bs l), .int .u8 32] H fun v H' =>
    v = .slice (some ⟨H.length, 0, none⟩) (cutL 32 l).length (cutL 32 l).length ∧ H' = H ++ [.cells true 1 (strs (cutL 32 l))] :=
  (cutR_c (c := 32) hl).mono fun v H' ⟨h1, h2⟩ => by
    obtain ⟨x, xs, e⟩ := cutL_ne 32 l
    have : (cutL 32 l).length ≠ 0 := by rw [e]; simp
    rw [h1, h2]
    unfold retV retN
    rw [if_neg this, if_neg this]
    exact ⟨rfl, rfl⟩
theorem cut64_c {l : List UInt8} (hl : l.length ≤ 1000000) : ACall Go.Proofs.Tryz.prog 33 [.string (bs l), .int .u8 64] H fun v H' =>
    v = .slice (some ⟨H.length, 0, none⟩) (cutL 64 l).length (cutL 64 l).length ∧ H' = H ++ [.cells true 1 (strs (cutL 64 l))] :=
  (cutR_c (c := 64) hl).mono fun v H' ⟨h1, h2⟩ => by
    obtain ⟨x, xs, e⟩ := cutL_ne 64 l
    have : (cutL 64 l).length ≠ 0 := by rw [e]; simp
    rw [h1, h2]
    unfold retV retN
    rw [if_neg this, if_neg this]
    exact ⟨rfl, rfl⟩
theorem refNum2_c {l : List UInt8} {d : Int} (hd : d ≤ 18) (hl : l.length ≤ 1000000) : ACall Go.Proofs.Tryz.prog 34 [.string (bs l), .int .i64 d] H fun v H' => NumRes d l v ∧ H' = H :=
  (refNum_c hd hl).mono fun v H' ⟨h1, h2⟩ => ⟨⟨_, by rw [h1, numPR hd], fun m hm => numP_fst hd hm⟩, h2⟩
end
end Go.Lq

namespace Go.Lq
open Go
open Go.Proofs

def nodeT (p : Int × Int) : List UInt8 := Lib.itoa p.1 ++ [64] ++ Lib.itoa p.2
def nodesT (l : List (Int × Int)) : List (List UInt8) := l.map nodeT
def mapT (l : List (Int × Int)) : List UInt8 := Lib.join (nodesT l) [32]
def InB (l : List (Int × Int)) : Prop := ∀ p ∈ l, i64 p.1 ∧ i64 p.2
theorem nodeT_length {p : Int × Int} (h1 : i64 p.1) (h2 : i64 p.2) : (nodeT p).length ≤ 43 := by
  have b1 := Lib.itoa_length_le p.1 h1.1 h1.2
  have b2 := Lib.itoa_length_le p.2 h2.1 h2.2
  unfold nodeT
  simp only [List.length_append, List.length_cons, List.length_nil]
  omega
theorem joinTail_length {l : List (Int × Int)} (h : InB l) : (Lib.joinTail [32] (nodesT l)).length ≤ 44 * l.length := by
  induction l with
  | nil => simp [nodesT, Lib.joinTail]
  | cons p r ih =>
    have hp := h p (List.mem_cons_self ..)
    have hr := ih fun q hq => h q (List.mem_cons_of_mem _ hq)
    have hl := nodeT_length hp.1 hp.2
    have e : Lib.joinTail [32] (nodesT (p :: r)) = [32] ++ nodeT p ++ Lib.joinTail [32] (nodesT r) := by simp [Lib.joinTail, nodesT]
    rw [e]
    simp only [List.length_append, List.length_cons, List.length_nil]
    omega
theorem mapT_length {l : List (Int × Int)} (h : InB l) : (mapT l).length ≤ 44 * l.length := by
  cases l with
  | nil => simp [mapT, nodesT, Lib.join_nil]
  | cons p r =>
    have hp := h p (List.mem_cons_self ..)
    have hr := joinTail_length (l := r) fun q hq => h q (List.mem_cons_of_mem _ hq)
    have hl := nodeT_length hp.1 hp.2
    have e : mapT (p :: r) = nodeT p ++ Lib.joinTail [32] (nodesT r) := by
      unfold mapT
      show Lib.join (nodeT p :: nodesT r) [32] = _
      rw [Lib.join_cons]
    rw [e]
    simp only [List.length_append, List.length_cons]
    omega
theorem InB.take {l : List (Int × Int)} (h : InB l) (i : Nat) : InB (l.take i) := fun p hp => h p (List.mem_of_mem_take hp)
theorem InB.get {l : List (Int × Int)} (h : InB l) {i : Nat} (hi : i < l.length) : i64 (l.getD i (0, 0)).1 ∧ i64 (l.getD i (0, 0)).2 := by
  have : l.getD i (0, 0) ∈ l := by rw [List.getD_eq_getElem?_getD, List.getElem?_eq_getElem hi]; exact List.getElem_mem _
  exact h _ this
theorem nodesT_take {l : List (Int × Int)} {i : Nat} (hi : i < l.length) : nodesT (l.take (i + 1)) = nodesT (l.take i) ++ [nodeT (l.getD i (0, 0))] := by
  unfold nodesT
  rw [List.take_succ_eq_append_getElem hi, List.map_append]
  simp [List.getD, hi]
theorem mapT_snoc {l : List (Int × Int)} {i : Nat} (hi : i < l.length) : mapT (l.take (i + 1)) = mapT (l.take i) ++ (if 0 < i then [32] else []) ++ nodeT (l.getD i (0, 0)) := by
  unfold mapT
  rw [nodesT_take hi]
  cases i with
  | zero => simp [nodesT, Lib.join_nil, Lib.join_one]
  | succ k =>
    have hne : ∃ p r, l.take (k + 1) = p :: r := by
      match l, hi with
      | p :: r, _ => exact ⟨p, r.take k, rfl⟩
    obtain ⟨p, r, e⟩ := hne
    rw [e]
    show Lib.join (nodeT p :: (nodesT r ++ [_])) [32] = Lib.join (nodeT p :: nodesT r) [32] ++ _ ++ _
    rw [Lib.join_cons, Lib.join_cons]
    simp [Lib.joinTail, List.append_assoc]
section
variable {H : AHeap} {l : List (Int × Int)} {v : Value}
set_option maxHeartbeats 1000000 in
theorem formatMap_c (hs : StrH H) (hl : Pairs H l v) (hn : l.length ≤ 100000) (hb : InB l) : ACall Go.Proofs.Tryz.prog 7 [.agg ⟨[v]⟩] H fun w H' => w = .string (bs (mapT l)) ∧ H' = H := by
  refine ACall.drop (.string _) ?_
  (refine a7 ?_; simp only [n7, List.replicate, yq, yr, yt, yu]; first | refine Go.Lq.q1 ?_ | refine Go.Lq.q2 ?_ | refine Go.Lq.q6 ?_ | refine Go.Lq.q7 ?_ | refine Go.Lq.qh rfl ?_ | skip)
  have g0 : (H ++ [AObj.cells true 0 [v]])[H.length]? = some (.cells true 0 [v]) := at_new
  have xG : Ext H (H ++ [AObj.cells true 0 [v]]) := (Ext.refl H).app _
  (repeat (first | refine yv ?_ | (apply yd; simp (disch := first|exact zz|fail) only [go_sem, hl.box1]; with_reducible rfl)))
  generalize (H ++ [AObj.cells true 0 [v]] : AHeap) = G at g0 xG
  have hlG := hl.ext xG
  (repeat (first | refine yw ?_ | ((first | apply yd | apply ye); simp (disch := first|exact zz|fail) only [go_sem, hlG.len, hlG.idx, hlG.load, load_at g0]; with_reducible rfl)))
  refine awp_loop_n [false, false, false, true, false, false, false, true, true, true, false, false, false, false, false, false, false, false, false, false, false, false, false, false, false, false, false] l.length (fun i e H' => ∃ w, e = [junk, junk, junk, w, junk, junk, junk, v, .int .i64 (l.length : Nat), .int .i64 (i : Nat), junk, junk, junk, junk, junk, junk, junk, junk, junk, junk, junk, junk, junk, junk, junk, junk, junk] ∧ Ext H H' ∧ OwnS H H' (nodesT (l.take i)) w) ?_ ?_
  · exact ⟨.slice none 0 0, by simp [forget], xG, by simp only [List.take_zero]; exact OwnS.nil _ _⟩
  rintro i e H' hi ⟨w, rfl, x1, ho⟩
  have hli := hl.ext x1
  (refine yg ?_)
  refine cond_p rfl (fun hlt => ?_) (fun hge => ?_)
  rotate_left 1
  · obtain rfl : i = l.length := by omega
    rw [List.take_length] at ho
    (refine yg ?_)
    have hml := mapT_length hb
    (refine aops_call_to (join_c (ll := nodesT l) (m := [32]) ho.txts (by simp [nodesT]; omega) (by show (mapT l).length ≤ _; omega)) ?_)
    (refine yg ?_)
    exact fin_1 ⟨rfl, x1⟩
  have hi' : i < l.length := by omega
  have e1 : (i : Int) + 1 = ((i + 1 : Nat) : Int) := by omega
  obtain ⟨b1, b2⟩ := hb.get hi'
  obtain ⟨l1, l2, l3, l4, l5⟩ := hli.load (Ext.refl _) hi'
  have q1' := Lib.itoa_length_le _ b1.1 b1.2
  have q2' := Lib.itoa_length_le _ b2.1 b2.2
  obtain ⟨p, hp⟩ : ∃ p, p = l.getD i (0, 0) := ⟨_, rfl⟩
  rw [← hp] at b1 b2 l1 q1' q2'
  (repeat (first | refine yw ?_ | ((first | apply yd | apply ye); simp (disch := first|exact zz|fail) only [go_sem, hli.idx, l1, store_newF]; with_reducible rfl)))
  have hsn : StrH (H' ++ [AObj.cells true 0 [.int .i64 p.1, .int .i64 p.2]]) := hs.ext (x1.app _)
  have kn : (H' ++ [AObj.cells true 0 [.int .i64 p.1, .int .i64 p.2]])[H'.length]? = some (.cells true 0 [.int .i64 p.1, .int .i64 p.2]) := at_new
  have ho2 := ho.app [AObj.cells true 0 [.int .i64 p.1, .int .i64 p.2]]
  have x2 := x1.app [AObj.cells true 0 [.int .i64 p.1, .int .i64 p.2]]
  generalize (H' ++ [AObj.cells true 0 [.int .i64 p.1, .int .i64 p.2]] : AHeap) = K at hsn kn ho2 x2
  have hl0 : loadR (.pointer (some ⟨H'.length, 0, none⟩)) K = some (.int .i64 p.1, K) := by rw [load_at kn]; rfl
  have hl1 : loadR (.pointer (some ⟨H'.length, 1, none⟩)) K = some (.int .i64 p.2, K) := by rw [load_at kn]; rfl
  (repeat (first | refine yw ?_ | ((first | apply yd | apply ye); simp (disch := first|exact zz|fail) only [go_sem, hl0]; with_reducible rfl)))
  (refine adraw_call (N := []) (firstD (itoa_c hsn b1.1 b1.2)) ?_; rw [List.append_nil])
  (repeat (first | refine yw ?_ | ((first | apply yd | apply ye); simp (disch := first|exact zz|fail) only [go_sem, hl1]; with_reducible rfl)))
  (refine adraw_call (N := []) (firstD (itoa_c hsn b2.1 b2.2)) ?_; rw [List.append_nil])
  have hlen : (nodesT (l.take i)).length = i := by simp [nodesT]; omega
  (repeat (first | refine yw ?_ | ((first | apply yd | apply ye); simp (disch := first|exact zz|fail) only [go_sem, List.length_append, ho2.push, e1]; with_reducible rfl)))
  refine ⟨by omega, pushV K (nodesT (l.take i)).length, by simp [forget], ho2.ext x2 _, ?_⟩
  rw [nodesT_take hi', ← hp]
  exact ho2.pushed x2 (nodeT p)
set_option maxHeartbeats 1000000 in
theorem rFormatMap_c (hl : Pairs H l v) (hn : l.length ≤ 100000) (hb : InB l) : ACall Go.Proofs.Tryz.prog 11 [.agg ⟨[v]⟩] H fun w H' => w = .string (bs (mapT l)) ∧ H' = H := by
  refine ACall.drop (.string _) ?_
  (refine a11 ?_; simp only [n11, List.replicate, yq, yr, yt, yu]; first | refine Go.Lq.q1 ?_ | refine Go.Lq.q2 ?_ | refine Go.Lq.q6 ?_ | refine Go.Lq.q7 ?_ | refine Go.Lq.qh rfl ?_ | skip)
  have g0 : (H ++ [AObj.cells true 0 [v]])[H.length]? = some (.cells true 0 [v]) := at_new
  have xG : Ext H (H ++ [AObj.cells true 0 [v]]) := (Ext.refl H).app _
  (repeat (first | refine yv ?_ | (apply yd; simp (disch := first|exact zz|fail) only [go_sem, hl.box1]; with_reducible rfl)))
  generalize (H ++ [AObj.cells true 0 [v]] : AHeap) = G at g0 xG
  have hlG := hl.ext xG
  (refine yg ?_)
  refine awp_loop_n [false, true, false, true, true, false, false, false, false, false, false, false, false, false, false, false, false, false, false, false, false, false, false, false, false, false, false, false, false, false, false, false, false, false, false] l.length (fun i e H' => H' = G ∧ e = [junk, .pointer (some ⟨H.length, 0, none⟩), junk, .string (bs (mapT (l.take i))), .int .i64 (i : Nat), junk, junk, junk, junk, junk, junk, junk, junk, junk, junk, junk, junk, junk, junk, junk, junk, junk, junk, junk, junk, junk, junk, junk, junk, junk, junk, junk, junk, junk, junk]) ?_ ?_
  · exact ⟨rfl, by simp [forget, mapT, nodesT, Lib.join_nil]⟩
  rintro i e H' hi ⟨rfl, rfl⟩
  (repeat (first | refine yw ?_ | ((first | apply yd | apply ye); simp (disch := first|exact zz|fail) only [go_sem, hlG.len, load_at g0]; with_reducible rfl)))
  refine cond_p rfl (fun hlt => ?_) (fun hge => ?_)
  rotate_left 1
  · obtain rfl : i = l.length := by omega
    rw [List.take_length]
    (refine yg ?_)
    exact fin_1 ⟨rfl, xG⟩
  have hi' : i < l.length := by omega
  have e1 : (i : Int) + 1 = ((i + 1 : Nat) : Int) := by omega
  obtain ⟨b1, b2⟩ := hb.get hi'
  obtain ⟨l1, l2, l3, l4, l5⟩ := hlG.load (Ext.refl _) hi'
  have hml := mapT_length (hb.take i)
  rw [List.length_take] at hml
  have hml : (mapT (l.take i)).length ≤ 4400000 := by omega
  have hsn := mapT_snoc hi'
  obtain ⟨p, hp⟩ : ∃ p, p = l.getD i (0, 0) := ⟨_, rfl⟩
  rw [← hp] at b1 b2 l4 l5 hsn
  have q1' := Lib.itoa_length_le _ b1.1 b1.2
  have q2' := Lib.itoa_length_le _ b2.1 b2.2
  (refine yx ?_; (first | apply aops_all | apply adraw_all); simp (disch := first|exact zz|fail) only [go_sem]; with_reducible rfl)
  refine awp_mid [false, true, false, true, true, false, false, false, false, false, false, false, false, false, false, false, false, false, false, false, false, false, false, false, false, false, false, false, false, false, false, false, false, false, false] (fun e J => J = H' ∧ e = [junk, .pointer (some ⟨H.length, 0, none⟩), junk, .string (bs (mapT (l.take i) ++ (if 0 < i then [32] else []))), .int .i64 (i : Nat), junk, junk, junk, junk, junk, junk, junk, junk, junk, junk, junk, junk, junk, junk, junk, junk, junk, junk, junk, junk, junk, junk, junk, junk, junk, junk, junk, junk, junk, junk]) ?_ ?_
  · refine cond_p rfl (fun h0 => ?_) (fun h0 => ?_)
    · have h0' : 0 < i := by omega
      (refine yg ?_)
      exact ⟨rfl, rfl, by simp [forget, h0']⟩
    · have h0' : ¬ 0 < i := by omega
      (refine yg ?_)
      exact ⟨rfl, rfl, by simp [forget, h0']⟩
  rintro e J ⟨rfl, rfl⟩
  obtain ⟨pre, hpre⟩ : ∃ pre : List UInt8, pre = mapT (l.take i) ++ (if 0 < i then [32] else []) := ⟨_, rfl⟩
  have hpl : pre.length ≤ 4400001 := by
    rw [hpre, List.length_append]
    split <;> simp <;> omega
  rw [← hpre] at hsn ⊢
  (repeat (first | refine yw ?_ | ((first | apply yd | apply ye); simp (disch := first|exact zz|fail) only [go_sem, load_at g0, hlG.idx, l2, l4]; with_reducible rfl)))
  (refine adraw_call (N := []) (firstD (decimal_c b1.1 b1.2)) ?_; rw [List.append_nil])
  (repeat (first | refine yw ?_ | ((first | apply yd | apply ye); simp (disch := first|exact zz|fail) only [go_sem, load_at g0, hlG.idx, l3, l5, List.length_append]; with_reducible rfl)))
  (refine adraw_call (N := []) (firstD (decimal_c b2.1 b2.2)) ?_; rw [List.append_nil])
  (repeat (first | refine yw ?_ | ((first | apply yd | apply ye); simp (disch := first|exact zz|fail) only [go_sem, List.length_append, e1]; with_reducible rfl)))
  refine ⟨by omega, rfl, ?_⟩
  rw [hsn]
  simp [forget, nodeT, List.append_assoc]
end
end Go.Lq

namespace Go.Lq
open Go
open Go.Proofs

def nodeP (w : List UInt8) : Option (Int × Int) := match numP 7 (Lib.cut w [64]).1, numP 13 (Lib.cut w [64]).2.1 with | some p, some t => some (p, t) | _, _ => none
def nodesP : List (List UInt8) → Option (List (Int × Int))
  | [] => some []
  | w :: ws => match nodeP w with | some n => (nodesP ws).map (n :: ·) | none => none
def parseMapL (l : List UInt8) : List (Int × Int) × Int :=
  match nodesP (cutL 32 l) with
  | none => ([], 7)
  | some ns => if mapErrL ns = 0 then (ns, 0) else ([], mapErrL ns)
theorem nodesP_cons {w : List UInt8} {ws : List (List UInt8)} {n : Int × Int} (h : nodeP w = some n) : nodesP (w :: ws) = (nodesP ws).map (n :: ·) := by
  rw [nodesP, h]
  first | done | rfl
theorem nodesP_none {w : List UInt8} {ws : List (List UInt8)} (h : nodeP w = none) : nodesP (w :: ws) = none := by
  rw [nodesP, h]
  first | done | rfl
theorem OwnP.set_lt {H0 H : AHeap} {l : List (Int × Int)} {v : Value} (h : OwnP H0 H l v) {j : Nat} (hj : j < H0.length) (c : AObj) : OwnP H0 (H.set j c) l v := Own.set_lt h hj c
def Keep2 (a b : Nat) (G H : AHeap) : Prop := G.length ≤ H.length ∧ ∀ i, i < G.length → i ≠ a → i ≠ b → H[i]? = G[i]?
end Go.Lq

namespace Go.Lq
open Go
open Go.Proofs

theorem store_i1 {J : AHeap} {b : Nat} {x : Value} {n : Int} (h : J[b]? = some (.cells true 0 [x])) : storeR 1 (.pointer (some ⟨b, 0, none⟩)) (.int .i64 n) J = some (undef, J.set b (.cells true 0 [.int .i64 n])) := by
  have ec : (Value.int .i64 n).cells.toList = [.int .i64 n] := rfl
  have ec2 : (Value.int .i64 n).cells.size = 1 := rfl
  have ec4 : ([Value.int .i64 n].all isAtom) = true := rfl
  have ec5 : setCells [x] 0 [.int .i64 n] = [.int .i64 n] := rfl
  simp only [storeR, ec, ec2, if_true, storeAt, h, List.length_cons, List.length_nil, Nat.zero_add, Nat.le_refl, ec4, and_self, Option.map_some, ec5]
theorem store_ag1 {J : AHeap} {b : Nat} {x y : Value} (h : J[b]? = some (.cells true 0 [x])) (hy : isAtom y = true) : storeR 1 (.pointer (some ⟨b, 0, none⟩)) (.agg ⟨[y]⟩) J = some (undef, J.set b (.cells true 0 [y])) :=
  store_all (us := [y]) h rfl (by simp [hy]) rfl
theorem Keep2.get {a b : Nat} {G H : AHeap} (h : Keep2 a b G H) {i : Nat} {c : AObj} (hi : G[i]? = some c) (ha : i ≠ a) (hb : i ≠ b) : H[i]? = some c := by
  rw [h.2 i (List.getElem?_eq_some_iff.1 hi).1 ha hb]; exact hi
theorem Keep2.set {a b j : Nat} {G H : AHeap} (h : Keep2 a b G H) (hj : j = a ∨ j = b ∨ G.length ≤ j) (c : AObj) : Keep2 a b G (H.set j c) :=
  ⟨by simpa using h.1, fun i hi h1 h2 => by rw [List.getElem?_set_ne (by omega)]; exact h.2 i hi h1 h2⟩
theorem Keep2.ext {a b : Nat} {H0 G H : AHeap} (h : Keep2 a b G H) (hx : Ext H0 G) (ha : H0.length ≤ a) (hb : H0.length ≤ b) : Ext H0 H :=
  ext_of_get (by have := hx.len; have := h.1; omega) fun i hi => by rw [h.2 i (by have := hx.len; omega) (by omega) (by omega)]; exact hx.get hi
theorem Keep2.push {a b : Nat} {G H : AHeap} (h : Keep2 a b G H) {B : AHeap} {ns : List (Int × Int)} {v : Value} (ho : OwnP B H ns v) (hB : G.length ≤ B.length) (x : Int × Int) : Keep2 a b G (pushPH H v ns x) := by
  unfold pushPH appH
  rcases ho.2 with ⟨rfl, _⟩ | ⟨id, rfl, h1, _, _⟩
  · exact ⟨by have := h.1; simp; omega, fun i hi e1 e2 => by
      have := h.1
      rw [List.getElem?_append_left (by simp; omega), List.getElem?_append_left (by omega)]
      exact h.2 i hi e1 e2⟩
  · exact ⟨by have := h.1; simp; omega, fun i hi e1 e2 => by
      have := h.1
      rw [List.getElem?_append_left (by simp; omega), List.getElem?_set_ne (by show id ≠ i; omega), List.getElem?_append_left (by omega)]
      exact h.2 i hi e1 e2⟩
theorem push_get {H : AHeap} {B : AHeap} {ns : List (Int × Int)} {v : Value} (ho : OwnP B H ns v) {i : Nat} (hi : i < B.length) (hl : i < H.length) (x : Int × Int) : (pushPH H v ns x)[i]? = H[i]? := by
  unfold pushPH appH
  rcases ho.2 with ⟨rfl, _⟩ | ⟨id, rfl, h1, _, _⟩
  · rw [List.getElem?_append_left (by simp; omega), List.getElem?_append_left hl]
  · rw [List.getElem?_append_left (by simp; omega), List.getElem?_set_ne (by show id ≠ i; omega), List.getElem?_append_left hl]
theorem OwnP.pushed2 {H0 H : AHeap} {l : List (Int × Int)} {v : Value} (h : OwnP H0 H l v) (hx : H0.length ≤ H.length) (x : Int × Int) : OwnP H0 (pushPH H v l x) (l ++ [x]) (pushV H l.length) := by
  have := Own.appended (h.app [.cells true 2 [.int .i64 x.1, .int .i64 x.2]]) (m := 1) (cs := [.int .i64 x.1, .int .i64 x.2]) rfl (by omega) (by simp; omega)
  unfold OwnP
  simpa [pushV, pushPH, flatP] using this
theorem cut_lens (w : List UInt8) : (Lib.cut w [64]).1.length ≤ w.length ∧ (Lib.cut w [64]).2.1.length ≤ w.length := by
  unfold Lib.cut
  split
  · simp; omega
  · simp
theorem nodeP_a {w : List UInt8} (h : numP 7 (Lib.cut w [64]).1 = none) : nodeP w = none := by
  unfold nodeP; rw [h]
theorem nodeP_b {w : List UInt8} (h : numP 13 (Lib.cut w [64]).2.1 = none) : nodeP w = none := by
  unfold nodeP; rw [h]; cases numP 7 (Lib.cut w [64]).1 <;> rfl
theorem nodeP_c {w : List UInt8} {a b : Int} (h1 : numP 7 (Lib.cut w [64]).1 = some a) (h2 : numP 13 (Lib.cut w [64]).2.1 = some b) : nodeP w = some (a, b) := by
  unfold nodeP; rw [h1, h2]
def Left (l : List UInt8) (i4 k : Nat) (G : AHeap) (rest : List (List Value)) (H : AHeap) : Prop :=
  ∃ (ws : List (List UInt8)) (ns : List (Int × Int)) (v : Value), rest = ws.map (fun w => [Value.string (bs w)]) ∧ nodesP (cutL 32 l) = (nodesP ws).map (ns ++ ·) ∧ (∀ w ∈ ws, w.length ≤ 100000) ∧ ns.length + ws.length ≤ 100001 ∧
    Keep2 i4 k G H ∧ H[i4]? = some (.cells true 0 [v]) ∧ OwnP (G ++ [.dead]) H ns v
def Stop (l : List UInt8) (H0 : AHeap) (x : AExit) (H : AHeap) : Prop :=
  x = .ret ∧ nodesP (cutL 32 l) = none ∧ Ext H0 H ∧ H[H0.length]? = some (.cells true 0 [.slice none 0 0]) ∧ H[H0.length + 1]? = some (.cells true 0 [.int .i64 7])
def junkE : Env := []
theorem wraps_aggT (e : Int) : Wraps fun s => .tuple #[.agg ⟨[s]⟩, .int .i64 e] := fun s n a b h =>
  .tuple rfl fun i u u' h1 h2 => by
    match i with
    | 0 =>
      simp at h1 h2; subst h1; subst h2
      refine .agg rfl fun j v v' g1 g2 => ?_
      match j with
      | 0 => simp at g1 g2; subst g1; subst g2; exact h
      | j + 1 => simp at g1
    | 1 => simp at h1 h2; subst h1; subst h2; exact (Closed.int _ _).ren _ _
    | i + 2 => simp at h1
section
variable {H : AHeap}
set_option maxHeartbeats 4000000 in
theorem parseMap_c (hs : StrH H) {l : List UInt8} (hl : l.length ≤ 60000) : ACall Go.Proofs.Tryz.prog 9 [.string (bs l)] H fun w H' =>
    w = .tuple #[.agg ⟨[retV H (parseMapL l).1.length]⟩, .int .i64 (parseMapL l).2] ∧ H' = H ++ retN 2 (parseMapL l).1.length (flatP (parseMapL l).1) := by
  refine ACall.tidy (f := fun s => .tuple #[.agg ⟨[s]⟩, .int .i64 (parseMapL l).2]) (wraps_aggT _) (closed_flatP _) ?_
  (refine a9 ?_; simp only [n9, List.replicate, yq, yr, yt, yu]; first | refine q1 ?_ | refine q2 ?_ | refine q6 ?_ | refine q7 ?_ | refine qh rfl ?_ | skip)
  (repeat (first | refine yw ?_ | ((first | apply yd | apply ye); simp (disch := first|exact zz|fail) only [go_sem, dec_f (show ¬ (60000 : Int) < (l.length : Int) by omega)]; with_reducible rfl)))
  refine cond_f rfl ?_
  (refine yg ?_)
  refine aops_call_to splitSeq_c ?_
  (simp only [List.length_append, List.length_cons, List.length_nil, Nat.zero_add, Nat.add_assoc, Nat.reduceAdd])
  obtain ⟨G, hG⟩ : ∃ G, G = H ++ [AObj.cells true 0 [.slice none 0 0]] ++ [AObj.cells true 0 [.int .i64 0]] ++ [AObj.cells true 0 [.slice none 0 0]] ++ [AObj.cells true 0 [.string (bs l)], AObj.cells true 0 [.string (bs [32])], AObj.cells true 0 [.int .i64 0]] := ⟨_, rfl⟩
  have k2 : G[H.length]? = some (.cells true 0 [.slice none 0 0]) := by rw [hG]; simp
  have k3 : G[H.length + 1]? = some (.cells true 0 [.int .i64 0]) := by rw [hG]; simp
  have k4 : G[H.length + 2]? = some (.cells true 0 [.slice none 0 0]) := by rw [hG]; simp
  have kb : G[H.length + 3]? = some (.cells true 0 [.string (bs l)]) := by rw [hG]; simp
  have ka : G[H.length + 4]? = some (.cells true 0 [.string (bs [32])]) := by rw [hG]; simp
  have kc : G[H.length + 5]? = some (.cells true 0 [.int .i64 0]) := by rw [hG]; simp
  have lG : G.length = H.length + 6 := by rw [hG]; simp
  have xG : Ext H G := by rw [hG]; exact ((((Ext.refl H).app _).app _).app _).app _
  rw [← hG]
  clear hG
  (refine yg ?_)
  refine awp_rangeC mo rfl (fun l h => by cases h) (splitSeq1_c (a := H.length + 4) (b := H.length + 3) (c := H.length + 5) (l := l) (by omega)) kb (Left l (H.length + 2) (H.length + 3) G) (Stop l H) ?_ ?_ ?_ ?_ ?_ ?_ ?_ ?_
  · rintro rest H' c' ⟨ws, ns, v, h1, h2, h3, h4, h5, h7, h8⟩
    exact ⟨ws, ns, v, h1, h2, h3, h4, h5.set (.inr (.inr (Nat.le_refl _))) _, by rw [List.getElem?_set_ne (by omega)]; exact h7, h8.set_lt (by simp) _⟩
  · rintro rest H' c' ⟨ws, ns, v, h1, h2, h3, h4, h5, h7, h8⟩
    exact ⟨ws, ns, v, h1, h2, h3, h4, h5.set (.inr (.inl rfl)) _, by rw [List.getElem?_set_ne (by omega)]; exact h7, h8.set_lt (by simp; omega) _⟩
  · rintro x H' c' ⟨h1, h2, h3, h4, h5⟩
    exact ⟨h1, h2, h3.set (by omega) _, by rw [List.getElem?_set_ne (by omega)]; exact h4, by rw [List.getElem?_set_ne (by omega)]; exact h5⟩
  · rintro rest H' ⟨ws, ns, v, h1, h2, h3, h4, h5, h7, h8⟩
    exact ⟨hs.ext (h5.ext xG (by omega) (by omega)), h5.get ka (by omega) (by omega), h5.get kc (by omega) (by omega)⟩
  · intro N
    refine ⟨cutL 32 l, [], .slice none 0 0, rfl, ?_, fun w hw => by have := cutL_piece 32 l w hw; omega, by have := cutL_length 32 l; simp; omega, ⟨by simp, fun i hi _ _ => List.getElem?_append_left hi⟩, by rw [List.getElem?_append_left (by omega)]; exact k4, OwnP.nil _ _⟩
    cases nodesP (cutL 32 l) <;> simp
  · rintro a rest H1 ⟨ws, ns, v, h1, h2, h3, h4, h5, h7, h8⟩ hlt
    match ws, h1 with
    | w :: ws, h1 =>
    obtain ⟨rfl, rfl⟩ := List.cons.inj h1
    have hwl := h3 w (List.mem_cons_self ..)
    obtain ⟨c1, c2⟩ := cut_lens w
    refine ⟨rfl, fun R Rb _ hR => ?_⟩
    simp only [assignParams, List.zip_cons_cons, List.zip_nil_left, List.foldl_cons, List.foldl_nil]
    (refine yg ?_)
    refine ⟨rfl, hR, ?_⟩
    have h5' := h5.set (.inr (.inr (Nat.le_refl _))) Rb
    have h7' : (H1.set G.length Rb)[H.length + 2]? = some (.cells true 0 [v]) := by rw [List.getElem?_set_ne (by omega)]; exact h7
    have h8' : OwnP (G ++ [.dead]) (H1.set G.length Rb) ns v := h8.set_lt (by simp) _
    have hRb : (H1.set G.length Rb)[G.length]? = some Rb := get_set_self hR
    have hkk : (H1.set G.length Rb)[H.length + 3]? = H1[H.length + 3]? := List.getElem?_set_ne (by omega)
    have hll : G.length < (H1.set G.length Rb).length := by simpa using hlt
    generalize (H1.set G.length Rb : AHeap) = K at h5' h7' h8' hRb hkk hll
    have xK := h5'.ext xG (by omega) (by omega)
    have hsK := hs.ext xK
    have m2 := h5'.get k2 (by omega) (by omega)
    have m3 := h5'.get k3 (by omega) (by omega)
    (refine yg ?_)
    (refine aops_call_to (cut_c hsK (l := w) (m := [64]) (by omega)) ?_)
    (refine yg ?_)
    refine aops_call ((number_c hsK (l := (Lib.cut w [64]).1) (d := 7) (by omega)).mono fun v1 K1 ⟨⟨n1, e1, f1⟩, e⟩ => ?_)
    subst e
    subst e1
    (refine yg ?_)
    refine aops_call ((number_c hsK (l := (Lib.cut w [64]).2.1) (d := 13) (by omega)).mono fun v2 K2 ⟨⟨n2, e2, f2⟩, e⟩ => ?_)
    subst e
    subst e2
    have m3' : ∀ c, (K2.set H.length c)[H.length + 1]? = some (.cells true 0 [.int .i64 0]) := fun c => by rw [List.getElem?_set_ne (by omega)]; exact m3
    have hstop : nodeP w = none → Rounded G.length Rb (fun H' => Left l (H.length + 2) (H.length + 3) G (List.map (fun w => [Value.string (bs w)]) ws) H' ∧ H'[H.length + 3]? = H1[H.length + 3]?) (Stop l H) .ret junkE
        ((K2.set H.length (.cells true 0 [.slice none 0 0])).set (H.length + 1) (.cells true 0 [.int .i64 7])) := fun hn => by
      refine rounded_r ?_ ⟨rfl, by rw [h2, nodesP_none hn]; rfl, (xK.set (Nat.le_refl _) _).set (by omega) _, ?_, get_set_self (m3' _)⟩
      · rw [List.getElem?_set_ne (by omega), List.getElem?_set_ne (by omega)]; exact hRb
      · rw [List.getElem?_set_ne (by omega)]; exact get_set_self m2
    cases hp1 : numP 7 (Lib.cut w [64]).1 with
    | none =>
      (repeat (first | refine yw ?_ | ((first | apply yd | apply ye); simp (disch := first|exact zz|fail) only [go_sem, Option.isSome_none]; with_reducible rfl)))
      refine cond_t rfl ?_
      (repeat (first | refine yw ?_ | ((first | apply yd | apply ye); simp (disch := first|exact zz|fail) only [go_sem, store_ag1 m2, store_i1 (m3' _)]; with_reducible rfl)))
      exact hstop (nodeP_a hp1)
    | some a1 =>
      obtain rfl := f1 a1 hp1
      cases hp2 : numP 13 (Lib.cut w [64]).2.1 with
      | none =>
        (repeat (first | refine yw ?_ | ((first | apply yd | apply ye); simp (disch := first|exact zz|fail) only [go_sem, Option.isSome_none, Option.isSome_some]; with_reducible rfl)))
        refine cond_t rfl ?_
        (repeat (first | refine yw ?_ | ((first | apply yd | apply ye); simp (disch := first|exact zz|fail) only [go_sem, store_ag1 m2, store_i1 (m3' _)]; with_reducible rfl)))
        exact hstop (nodeP_b hp2)
      | some a2 =>
        obtain rfl := f2 a2 hp2
        have hnp := nodeP_c hp1 hp2
        rw [nodesP_cons hnp] at h2
        (repeat (first | refine yw ?_ | ((first | apply yd | apply ye); simp (disch := first|exact zz|fail) only [go_sem, Option.isSome_some]; with_reducible rfl)))
        refine cond_f rfl ?_
        have hlv : loadR (.pointer (some ⟨H.length + 2, 0, none⟩)) K2 = some (v, K2) := by rw [load_at h7']; rfl
        have hbl : (G ++ [AObj.dead]).length = G.length + 1 := by simp
        have hpg : ∀ i, i ≤ G.length → (pushPH K2 v ns (n1, n2))[i]? = K2[i]? := fun i hi => push_get h8' (by omega) (by omega) _
        have hp4 : (pushPH K2 v ns (n1, n2))[H.length + 2]? = some (.cells true 0 [v]) := by rw [hpg _ (by omega)]; exact h7'
        have hst : storeR 1 (.pointer (some ⟨H.length + 2, 0, none⟩)) (pushV K2 ns.length) (pushPH K2 v ns (n1, n2)) = some (undef, (pushPH K2 v ns (n1, n2)).set (H.length + 2) (.cells true 0 [pushV K2 ns.length])) := store_b1 hp4 rfl rfl
        have hnl : ns.length < 1000000000 := by omega
        (repeat (first | refine yw ?_ | ((first | apply yd | apply ye); simp (disch := first|exact zz|fail) only [go_sem, hlv, h8'.push, hst]; with_reducible rfl)))
        refine rounded_n ?_ ⟨⟨ws, ns ++ [(n1, n2)], pushV K2 ns.length, rfl, ?_, fun x hx => h3 x (List.mem_cons_of_mem _ hx), ?_, (h5'.push h8' (by omega) _).set (.inl rfl) _, get_set_self hp4, (h8'.pushed2 (by omega) _).set_lt (by omega) _⟩, ?_⟩
        · rw [List.getElem?_set_ne (by omega), hpg _ (Nat.le_refl _)]; exact hRb
        · rw [h2]; cases nodesP ws <;> simp
        · simp at h4 ⊢; omega
        · rw [List.getElem?_set_ne (by omega), hpg _ (by omega)]; exact hkk
  · rintro H' ⟨ws, ns, v, h1, h2, h3, h4, h5, h7, h8⟩
    match ws, h1 with
    | [], _ =>
    have hns : nodesP (cutL 32 l) = some ns := by rw [h2]; show some (ns ++ []) = _; rw [List.append_nil]
    have hp : parseMapL l = if mapErrL ns = 0 then (ns, 0) else ([], mapErrL ns) := by
      unfold parseMapL; rw [hns]
    have xK := h5.ext xG (by omega) (by omega)
    have m2 := h5.get k2 (by omega) (by omega)
    have m3 := h5.get k3 (by omega) (by omega)
    have hbl : (G ++ [AObj.dead]).length = G.length + 1 := by simp
    have h9 : OwnP H H' ns v := h8.weaken (by omega)
    obtain ⟨va, vn, vc, rfl⟩ : ∃ a n c, v = .slice a n c := by
      rcases h8.2 with ⟨rfl, _⟩ | ⟨id, rfl, _⟩ <;> exact ⟨_, _, _, rfl⟩
    have hfl : fillA [.slice none 0 0] [(0, 1, .agg ⟨[.slice va vn vc]⟩)] = some [.slice va vn vc] := rfl
    have hms : mkSliceL 1 1 (some [.slice va vn vc]) H' = some (.slice (some ⟨H'.length, 0, none⟩) 1 1, H' ++ [.cells true 1 [.slice va vn vc]]) := rfl
    (repeat (first | refine yw ?_ | ((first | apply yd | apply ye); simp (disch := first|exact zz|fail) only [go_sem, n1_at h7, hfl, hms]; with_reducible rfl)))
    have x2 := xK.app [AObj.cells true 1 [.slice va vn vc]]
    have h10 := h9.app [AObj.cells true 1 [.slice va vn vc]]
    have h11 := h8.app [AObj.cells true 1 [.slice va vn vc]]
    have p4 := at_app (N := [AObj.cells true 1 [.slice va vn vc]]) h7
    have p2 := at_app (N := [AObj.cells true 1 [.slice va vn vc]]) m2
    have p3 := at_app (N := [AObj.cells true 1 [.slice va vn vc]]) m3
    have hsl : Sl (H' ++ [AObj.cells true 1 [.slice va vn vc]]) 1 1 [.slice va vn vc] (.slice (some ⟨H'.length, 0, none⟩) 1 1) := Sl.last rfl 1
    generalize (H' ++ [AObj.cells true 1 [.slice va vn vc]] : AHeap) = K at x2 h10 h11 p4 p2 p3 hsl
    (refine aops_call_to (spMapErr_c hsl h10.pairs (by omega)) ?_)
    have p3' : ∀ c, (K.set H.length c)[H.length + 1]? = some (.cells true 0 [.int .i64 0]) := fun c => by rw [List.getElem?_set_ne (by omega)]; exact p3
    by_cases he : mapErrL ns = 0
    · rw [if_pos he] at hp
      rw [hp, he]
      (refine yg ?_)
      refine cond_f rfl ?_
      (repeat (first | refine yw ?_ | ((first | apply yd | apply ye); simp (disch := first|exact zz|fail) only [go_sem, n1_at p4, store_ag1 (y := .slice va vn vc) p2 rfl, store_i1 (p3' _)]; with_reducible rfl)))
      refine fin_ll (n1_at (a := .slice va vn vc) (by rw [List.getElem?_set_ne (by omega)]; exact get_set_self p2)) (load1 (get_set_self (p3' _))) ⟨.slice va vn vc, rfl, (x2.set (Nat.le_refl _) _).set (by omega) _, OwnP.weaken ((h11.set_lt (by omega) _).set_lt (by omega) _) (by omega)⟩
    · rw [if_neg he] at hp
      rw [hp]
      (repeat (first | refine yw ?_ | ((first | apply yd | apply ye); simp (disch := first|exact zz|fail) only [go_sem, dec_t (show mapErrL ns ≠ 0 from he)]; with_reducible rfl)))
      refine cond_t rfl ?_
      (repeat (first | refine yw ?_ | ((first | apply yd | apply ye); simp (disch := first|exact zz|fail) only [go_sem, store_ag1 (y := .slice none 0 0) p2 rfl, store_i1 (p3' _)]; with_reducible rfl)))
      exact fin_ll (n1_at (a := .slice none 0 0) (by rw [List.getElem?_set_ne (by omega)]; exact get_set_self p2)) (load1 (get_set_self (p3' _))) ⟨.slice none 0 0, rfl, (x2.set (Nat.le_refl _) _).set (by omega) _, OwnP.nil _ _⟩
  · rintro x H' hx ⟨rfl, h2, h3, h4, h5⟩
    have hp : parseMapL l = ([], 7) := by unfold parseMapL; rw [h2]
    rw [hp]
    exact blk_r (seq_r (fin_ll (n1_at h4) (load1 h5) ⟨.slice none 0 0, rfl, h3, OwnP.nil _ _⟩))
end
end Go.Lq

namespace Go.Lq
open Go
open Go.Proofs

theorem cutL_itoa {n : Int} (h : 0 ≤ n) {c : UInt8} (hc : c.toNat < 48 ∨ 57 < c.toNat) : c ∉ Lib.itoa n := fun hm => by
  obtain ⟨u, rfl⟩ : ∃ u : Nat, n = u := ⟨n.toNat, by omega⟩
  rw [itoa_nat] at hm
  have := (dec_all u).1 c hm
  omega
theorem cutL_no {c : UInt8} {a : List UInt8} (h : c ∉ a) : cutL c a = [a] := by
  induction a with
  | nil => rfl
  | cons b r ih =>
    have hb : b ≠ c := fun e => h (by rw [e]; exact List.mem_cons_self ..)
    have hr : c ∉ r := fun e => h (List.mem_cons_of_mem _ e)
    rw [cutL, if_neg hb, ih hr]
theorem num_cut {d n : Int} {t : List UInt8} (h : numP d t = some n) : cutL 64 t = [t] := by
  obtain ⟨h0, _, h2, _⟩ := numP_iff.1 h
  rw [← h2]
  exact cutL_no (cutL_itoa h0 (.inr (by decide)))
theorem cutL_one {c : UInt8} {t x : List UInt8} (h : cutL c t = [x]) : t = x := by
  rw [cut_cutL] at h
  by_cases hf : (Lib.cut t [c]).2.2 = true
  · rw [if_pos hf] at h
    obtain ⟨y, ys, e⟩ := cutL_ne c (Lib.cut t [c]).2.1
    rw [e] at h; cases h
  · rw [if_neg hf] at h; exact (List.cons.inj h).1
theorem node_two {w a b : List UInt8} (h : cutL 64 w = [a, b]) : (Lib.cut w [64]).1 = a ∧ (Lib.cut w [64]).2.1 = b := by
  rw [cut_cutL] at h
  by_cases hf : (Lib.cut w [64]).2.2 = true
  · rw [if_pos hf] at h
    obtain ⟨h1, h2⟩ := List.cons.inj h
    exact ⟨h1, cutL_one h2⟩
  · rw [if_neg hf] at h; cases h
theorem node_not {w : List UInt8} (h : (cutL 64 w).length ≠ 2) : nodeP w = none := by
  rw [cut_cutL] at h
  by_cases hf : (Lib.cut w [64]).2.2 = true
  · rw [if_pos hf] at h
    cases hn : numP 13 (Lib.cut w [64]).2.1 with
    | none => exact nodeP_b hn
    | some n =>
      rw [num_cut hn] at h
      exact absurd rfl h
  · refine nodeP_b ?_
    have : (Lib.cut w [64]).2.1 = [] := by
      unfold Lib.cut at hf ⊢
      split
      · rename_i h0; rw [if_pos h0] at hf; exact absurd rfl hf
      · rfl
    rw [this]; rfl
theorem two {α : Type} {l : List α} (h : l.length = 2) : ∃ a b, l = [a, b] := by
  match l, h with
  | [a, b], _ => exact ⟨a, b, rfl⟩
section
variable {H : AHeap}
set_option maxHeartbeats 4000000 in
theorem rParseMap_c {l : List UInt8} (hl : l.length ≤ 60000) : ACall Go.Proofs.Tryz.prog 10 [.string (bs l)] H fun w H' =>
    w = .tuple #[.agg ⟨[retV H (parseMapL l).1.length]⟩, .int .i64 (parseMapL l).2] ∧ H' = H ++ retN 2 (parseMapL l).1.length (flatP (parseMapL l).1) := by
  refine ACall.tidy (f := fun s => .tuple #[.agg ⟨[s]⟩, .int .i64 (parseMapL l).2]) (wraps_aggT _) (closed_flatP _) ?_
  (refine a10 ?_; simp only [n10, List.replicate, yq, yr, yt, yu]; first | refine q1 ?_ | refine q2 ?_ | refine q6 ?_ | refine q7 ?_ | refine qh rfl ?_ | skip)
  (repeat (first | refine yw ?_ | ((first | apply yd | apply ye); simp (disch := first|exact zz|fail) only [go_sem, dec_f (show ¬ (60000 : Int) < (l.length : Int) by omega)]; with_reducible rfl)))
  refine cond_f rfl ?_
  (refine yg ?_)
  refine aops_call_to (cut32_c (by omega)) ?_
  obtain ⟨pl, hpl⟩ : ∃ pl, pl = cutL 32 l := ⟨_, rfl⟩
  rw [← hpl]
  have hpm : ∀ x ∈ pl, x.length ≤ 60000 := fun x hx => by have := cutL_piece 32 l x (by rw [← hpl]; exact hx); omega
  have hpn : pl.length ≤ 60001 := by have := cutL_length 32 l; rw [← hpl] at this; omega
  (simp only [List.length_append, List.length_cons, List.length_nil, Nat.zero_add, Nat.add_assoc, Nat.reduceAdd])
  obtain ⟨G, hG⟩ : ∃ G, G = H ++ [AObj.cells true 0 [.slice none 0 0]] ++ [AObj.cells true 0 [.slice none 0 0]] ++ [AObj.cells true 1 (strs pl)] := ⟨_, rfl⟩
  have k2 : G[H.length]? = some (.cells true 0 [.slice none 0 0]) := by rw [hG]; simp
  have k4 : G[H.length + 1]? = some (.cells true 0 [.slice none 0 0]) := by rw [hG]; simp
  have k5 : G[H.length + 2]? = some (.cells true 1 (strs pl)) := by rw [hG]; simp
  have lG : G.length = H.length + 3 := by rw [hG]; simp
  have xG : Ext H G := by rw [hG]; exact (((Ext.refl H).app _).app _).app _
  rw [← hG]
  clear hG
  have tJs : ∀ {J' : AHeap}, J'[H.length + 2]? = some (.cells true 1 (strs pl)) → Txts J' pl (.slice (some ⟨H.length + 2, 0, none⟩) pl.length pl.length) := fun h => Txts.of_cells h
  generalize (Value.slice (some ⟨H.length + 2, 0, none⟩) pl.length pl.length) = sv at tJs
  (refine yg ?_)
  refine awp_loop_n [true, false, true, true, true, true, true, false, false, false, false, false, false, false, false, false, false, false, false, false, false, false, false, false, false, false, false, false, false, false, false, false, false, false, false, false, false, false, false, false, false, false, false, false, false, false, false, false, false, false, false, false, false, false, false, false, false, false, false, false, false, false, false, false, false, false, false, false, false, false] pl.length (fun i e H' => ∃ ns v, e = [.string (bs l), junk, .pointer (some ⟨H.length, 0, none⟩), .int .i64 0, .pointer (some ⟨H.length + 1, 0, none⟩), sv, .int .i64 (i : Nat), junk, junk, junk, junk, junk, junk, junk, junk, junk, junk, junk, junk, junk, junk, junk, junk, junk, junk, junk, junk, junk, junk, junk, junk, junk, junk, junk, junk, junk, junk, junk, junk, junk, junk, junk, junk, junk, junk, junk, junk, junk, junk, junk, junk, junk, junk, junk, junk, junk, junk, junk, junk, junk, junk, junk, junk, junk, junk, junk, junk, junk, junk, junk] ∧ nodesP pl = (nodesP (pl.drop i)).map (ns ++ ·) ∧ ns.length ≤ i ∧
      Ext H H' ∧ G.length ≤ H'.length ∧ H'[H.length]? = some (.cells true 0 [.slice none 0 0]) ∧ H'[H.length + 1]? = some (.cells true 0 [v]) ∧ H'[H.length + 2]? = some (.cells true 1 (strs pl)) ∧ OwnP G H' ns v) ?_ ?_
  · refine ⟨[], .slice none 0 0, by simp [forget], ?_, Nat.le_refl _, xG, Nat.le_refl _, k2, k4, k5, OwnP.nil _ _⟩
    rw [List.drop_zero]; cases nodesP pl <;> simp
  rintro i e H' hi ⟨ns, v, rfl, h2, h4, x1, hg, j2, j4, j5, ho⟩
  have t1 := tJs j5
  (repeat (first | refine yw ?_ | ((first | apply yd | apply ye); simp (disch := first|exact zz|fail) only [go_sem, t1.len, t1.idx, t1.load]; with_reducible rfl)))
  refine cond_p rfl (fun hlt => ?_) (fun hge => ?_)
  rotate_left 1
  · obtain rfl : i = pl.length := by omega
    rw [List.drop_length] at h2
    have hns : nodesP (cutL 32 l) = some ns := by rw [← hpl, h2]; show some (ns ++ []) = _; rw [List.append_nil]
    have hp : parseMapL l = if mapErrL ns = 0 then (ns, 0) else ([], mapErrL ns) := by
      unfold parseMapL; rw [hns]
    have h9 : OwnP H H' ns v := ho.weaken (by omega)
    (repeat (first | refine yw ?_ | ((first | apply yd | apply ye); simp (disch := first|exact zz|fail) only [go_sem, n1_at j4]; with_reducible rfl)))
    (refine aops_call_to (rMapErr_c h9.pairs (by omega)) ?_)
    by_cases he : mapErrL ns = 0
    · rw [if_pos he] at hp
      rw [hp, he]
      (refine yg ?_)
      refine cond_f rfl ?_
      obtain ⟨va, vn, vc, rfl⟩ : ∃ a n c, v = .slice a n c := by
        rcases ho.2 with ⟨rfl, _⟩ | ⟨id, rfl, _⟩ <;> exact ⟨_, _, _, rfl⟩
      (repeat (first | refine yw ?_ | ((first | apply yd | apply ye); simp (disch := first|exact zz|fail) only [go_sem, n1_at j4, store_ag1 (y := .slice va vn vc) j2 rfl]; with_reducible rfl)))
      exact fin_l2 (n1_at (get_set_self j2)) ⟨.slice va vn vc, rfl, x1.set (Nat.le_refl _) _, OwnP.weaken (ho.set_lt (by omega) _) (by omega)⟩
    · rw [if_neg he] at hp
      rw [hp]
      (repeat (first | refine yw ?_ | ((first | apply yd | apply ye); simp (disch := first|exact zz|fail) only [go_sem, dec_t (show mapErrL ns ≠ 0 from he)]; with_reducible rfl)))
      refine cond_t rfl ?_
      (repeat (first | refine yw ?_ | ((first | apply yd | apply ye); simp (disch := first|exact zz|fail) only [go_sem, store_ag1 (y := .slice none 0 0) j2 rfl]; with_reducible rfl)))
      exact fin_l2 (n1_at (get_set_self j2)) ⟨.slice none 0 0, rfl, x1.set (Nat.le_refl _) _, OwnP.nil _ _⟩
  have hi' : i < pl.length := by omega
  have e1 : (i : Int) + 1 = ((i + 1 : Nat) : Int) := by omega
  have hwm : pl.getD i [] ∈ pl := by rw [List.getD_eq_getElem?_getD, List.getElem?_eq_getElem hi']; exact List.getElem_mem _
  have hwl := hpm _ hwm
  rw [drop_getD (d := ([] : List UInt8)) hi'] at h2
  have hldw := t1.load (Ext.refl _) hi'
  generalize hw : pl.getD i [] = w at hwm hwl h2 hldw
  (repeat (first | refine yw ?_ | ((first | apply yd | apply ye); simp (disch := first|exact zz|fail) only [go_sem, t1.idx, hldw]; with_reducible rfl)))
  refine aops_call_to (cut64_c (by omega)) ?_
  obtain ⟨ql, hql⟩ : ∃ ql, ql = cutL 64 w := ⟨_, rfl⟩
  rw [← hql]
  have hqm : ∀ x ∈ ql, x.length ≤ 60000 := fun x hx => by have := cutL_piece 64 w x (by rw [← hql]; exact hx); omega
  have tq : Txts (H' ++ [AObj.cells true 1 (strs ql)]) ql (.slice (some ⟨H'.length, 0, none⟩) ql.length ql.length) := Sl.last (by simp [strs]) _
  have x2 := x1.app [AObj.cells true 1 (strs ql)]
  have j2 := at_app (N := [AObj.cells true 1 (strs ql)]) j2
  have j4 := at_app (N := [AObj.cells true 1 (strs ql)]) j4
  have j5 := at_app (N := [AObj.cells true 1 (strs ql)]) j5
  have ho := ho.app [AObj.cells true 1 (strs ql)]
  have hg' : G.length ≤ (H' ++ [AObj.cells true 1 (strs ql)]).length := by simp; omega
  generalize (H' ++ [AObj.cells true 1 (strs ql)] : AHeap) = K at tq x2 j2 j4 j5 ho hg'
  generalize (Value.slice (some ⟨H'.length, 0, none⟩) ql.length ql.length) = qv at tq
  have hbad : nodeP w = none → parseMapL l = ([], 7) := fun hn => by
    unfold parseMapL; rw [← hpl, h2, nodesP_none hn]; rfl
  by_cases hq2 : ql.length = 2
  rotate_left 1
  · rw [hbad (node_not (by rw [← hql]; exact hq2))]
    (repeat (first | refine yw ?_ | ((first | apply yd | apply ye); simp (disch := first|exact zz|fail) only [go_sem, tq.len, tq.idx, tq.load, dec_t (show ((ql.length : Nat) : Int) ≠ 2 by omega)]; with_reducible rfl)))
    refine cond_t rfl ?_
    (repeat (first | refine yw ?_ | ((first | apply yd | apply ye); simp (disch := first|exact zz|fail) only [go_sem, store_ag1 (y := .slice none 0 0) j2 rfl]; with_reducible rfl)))
    exact fin_l2 (n1_at (get_set_self j2)) ⟨.slice none 0 0, rfl, x2.set (Nat.le_refl _) _, OwnP.nil _ _⟩
  obtain ⟨pa, ta, hqe⟩ := two hq2
  obtain ⟨ca, cb⟩ := node_two (w := w) (a := pa) (b := ta) (by rw [← hql]; exact hqe)
  have hpa : pa.length ≤ 60000 := hqm _ (by rw [hqe]; simp)
  have hta : ta.length ≤ 60000 := hqm _ (by rw [hqe]; simp)
  have hi0 : idxR 1 qv (.int .i64 0) K = some (addrOf qv 0, K) := tq.idx (i := 0) (by omega) (by omega)
  have hi1 : idxR 1 qv (.int .i64 1) K = some (addrOf qv 1, K) := tq.idx (i := 1) (by omega) (by omega)
  have hl0 : loadR (addrOf qv 0) K = some (.string (bs pa), K) := by rw [tq.load (Ext.refl _) (by omega), hqe]; rfl
  have hl1 : loadR (addrOf qv 1) K = some (.string (bs ta), K) := by rw [tq.load (Ext.refl _) (by omega), hqe]; rfl
  (repeat (first | refine yw ?_ | ((first | apply yd | apply ye); simp (disch := first|exact zz|fail) only [go_sem, tq.len, dec_f (show ¬ ((ql.length : Nat) : Int) ≠ 2 by omega)]; with_reducible rfl)))
  refine cond_f rfl ?_
  (repeat (first | refine yw ?_ | ((first | apply yd | apply ye); simp (disch := first|exact zz|fail) only [go_sem, hi0, hl0]; with_reducible rfl)))
  refine aops_call ((refNum2_c (l := pa) (d := 7) (by decide) (by omega)).mono fun v1 K1 ⟨⟨n1, e2, f1⟩, e⟩ => ?_)
  subst e
  subst e2
  (repeat (first | refine yw ?_ | ((first | apply yd | apply ye); simp (disch := first|exact zz|fail) only [go_sem, hi1, hl1]; with_reducible rfl)))
  refine aops_call ((refNum2_c (l := ta) (d := 13) (by decide) (by omega)).mono fun v2 K2 ⟨⟨n2, e2, f2⟩, e⟩ => ?_)
  subst e
  subst e2
  cases hp1 : numP 7 pa with
  | none =>
    rw [hbad (nodeP_a (by rw [ca]; exact hp1))]
    (repeat (first | refine yw ?_ | ((first | apply yd | apply ye); simp (disch := first|exact zz|fail) only [go_sem, Option.isSome_none]; with_reducible rfl)))
    refine cond_t rfl ?_
    (repeat (first | refine yw ?_ | ((first | apply yd | apply ye); simp (disch := first|exact zz|fail) only [go_sem, store_ag1 (y := .slice none 0 0) j2 rfl]; with_reducible rfl)))
    exact fin_l2 (n1_at (get_set_self j2)) ⟨.slice none 0 0, rfl, x2.set (Nat.le_refl _) _, OwnP.nil _ _⟩
  | some a1 =>
    obtain rfl := f1 a1 hp1
    cases hp2 : numP 13 ta with
    | none =>
      rw [hbad (nodeP_b (by rw [cb]; exact hp2))]
      (repeat (first | refine yw ?_ | ((first | apply yd | apply ye); simp (disch := first|exact zz|fail) only [go_sem, Option.isSome_none, Option.isSome_some]; with_reducible rfl)))
      refine cond_t rfl ?_
      (repeat (first | refine yw ?_ | ((first | apply yd | apply ye); simp (disch := first|exact zz|fail) only [go_sem, store_ag1 (y := .slice none 0 0) j2 rfl]; with_reducible rfl)))
      exact fin_l2 (n1_at (get_set_self j2)) ⟨.slice none 0 0, rfl, x2.set (Nat.le_refl _) _, OwnP.nil _ _⟩
    | some a2 =>
      obtain rfl := f2 a2 hp2
      have hnp := nodeP_c (w := w) (by rw [ca]; exact hp1) (by rw [cb]; exact hp2)
      rw [nodesP_cons hnp] at h2
      (repeat (first | refine yw ?_ | ((first | apply yd | apply ye); simp (disch := first|exact zz|fail) only [go_sem, Option.isSome_some]; with_reducible rfl)))
      refine cond_f rfl ?_
      have hlv : loadR (.pointer (some ⟨H.length + 1, 0, none⟩)) K2 = some (v, K2) := load1 j4
      have hpg : ∀ i, i < G.length → (pushPH K2 v ns (n1, n2))[i]? = K2[i]? := fun i hi => push_get ho hi (by omega) _
      have hp4 : (pushPH K2 v ns (n1, n2))[H.length + 1]? = some (.cells true 0 [v]) := by rw [hpg _ (by omega)]; exact j4
      have hst : storeR 1 (.pointer (some ⟨H.length + 1, 0, none⟩)) (pushV K2 ns.length) (pushPH K2 v ns (n1, n2)) = some (undef, (pushPH K2 v ns (n1, n2)).set (H.length + 1) (.cells true 0 [pushV K2 ns.length])) := store_b1 hp4 rfl rfl
      have hnl : ns.length < 1000000000 := by omega
      have hox : OwnP H K2 ns v := ho.weaken (by omega)
      (repeat (first | refine yw ?_ | ((first | apply yd | apply ye); simp (disch := first|exact zz|fail) only [go_sem, hlv, ho.push, hst, e1]; with_reducible rfl)))
      refine ⟨by omega, ns ++ [(n1, n2)], pushV K2 ns.length, by simp [forget], ?_, by simp; omega, (hox.ext x2 _).set (by omega) _, ?_, ?_, get_set_self hp4, ?_, (ho.pushed2 hg' _).set_lt (by omega) _⟩
      · rw [h2]; cases nodesP (pl.drop (i + 1)) <;> simp
      · have := (ho.pushed2 hg' (n1, n2))
        simp [pushPH, appH_len]; omega
      · rw [List.getElem?_set_ne (by omega), hpg _ (by omega)]; exact j2
      · rw [List.getElem?_set_ne (by omega), hpg _ (by omega)]; exact j5
end
end Go.Lq

namespace Go.Lq
open Go
open Go.Proofs

theorem cutL_none {c : UInt8} {a : List UInt8} (h : c ∉ a) : cutL c a = [a] := by
  induction a with
  | nil => rfl
  | cons b r ih =>
    have hb : b ≠ c := fun e => h (by rw [e]; exact List.mem_cons_self ..)
    have hr : c ∉ r := fun e => h (List.mem_cons_of_mem _ e)
    rw [cutL, if_neg hb, ih hr]
theorem cutL_join {c : UInt8} {a : List UInt8} (h : c ∉ a) (r : List UInt8) : cutL c (a ++ c :: r) = a :: cutL c r := by
  induction a with
  | nil => show cutL c (c :: r) = _; rw [cutL, if_pos rfl]
  | cons b s ih =>
    have hb : b ≠ c := fun e => h (by rw [e]; exact List.mem_cons_self ..)
    have hs : c ∉ s := fun e => h (List.mem_cons_of_mem _ e)
    show cutL c (b :: (s ++ c :: r)) = _
    rw [cutL, if_neg hb, ih hs]
theorem itoa_digits {n : Int} (h : 0 ≤ n) {c : UInt8} (hc : c.toNat < 48) : c ∉ Lib.itoa n := fun hm => by
  obtain ⟨u, rfl⟩ : ∃ u : Nat, n = u := ⟨n.toNat, by omega⟩
  rw [itoa_nat] at hm
  have := (dec_all u).1 c hm
  omega
theorem nDigits_le : ∀ (k u : Nat), 1 ≤ k → u < 10 ^ k → Lib.nDigits u ≤ k
  | 0, u, h, _ => by omega
  | k + 1, u, _, h => by
    by_cases hu : u < 10
    · rw [Lib.nDigits_small hu]; omega
    · rw [Lib.nDigits_big hu]
      have hk : 1 ≤ k := by
        rcases Nat.eq_zero_or_pos k with rfl | hk
        · simp at h; omega
        · exact hk
      have := nDigits_le k (u / 10) hk (by rw [Nat.pow_succ] at h; omega)
      omega
theorem numP_itoa {d k : Nat} {n : Int} (hk : 1 ≤ k) (hkd : k ≤ d) (h0 : 0 ≤ n) (h1 : n < (10 ^ k : Nat)) (h2 : n ≤ 9223372036854775807) : numP d (Lib.itoa n) = some n := by
  rw [numP_iff]
  refine ⟨h0, h2, rfl, ?_⟩
  obtain ⟨u, rfl⟩ : ∃ u : Nat, n = u := ⟨n.toNat, by omega⟩
  rw [itoa_nat, Lib.decDigits_length]
  have := nDigits_le k u hk (by exact_mod_cast h1)
  omega
end Go.Lq

namespace Go.Lq
open Go
open Go.Proofs

theorem node_text {p : Int × Int} (h1 : 0 ≤ p.1 ∧ p.1 ≤ 1000000) (h2 : 0 ≤ p.2 ∧ p.2 ≤ 1000000000000) : nodeP (nodeT p) = some p ∧ 32 ∉ nodeT p := by
  have h7 : ((10 ^ 7 : Nat) : Int) = 10000000 := by decide
  have h13 : ((10 ^ 13 : Nat) : Int) = 10000000000000 := by decide
  have e : cutL 64 (nodeT p) = [Lib.itoa p.1, Lib.itoa p.2] := by
    unfold nodeT
    rw [List.append_assoc]
    show cutL 64 (Lib.itoa p.1 ++ 64 :: Lib.itoa p.2) = _
    rw [cutL_join (cutL_itoa h1.1 (.inr (by decide))), cutL_none (cutL_itoa h2.1 (.inr (by decide)))]
  obtain ⟨a, b⟩ := node_two e
  refine ⟨nodeP_c (a := p.1) (b := p.2) ?_ ?_, ?_⟩
  · rw [a, show (7 : Int) = ((7 : Nat) : Int) from rfl]
    exact numP_itoa (k := 7) (by decide) (by decide) h1.1 (by rw [h7]; omega) (by omega)
  · rw [b, show (13 : Int) = ((13 : Nat) : Int) from rfl]
    exact numP_itoa (k := 13) (by decide) (by decide) h2.1 (by rw [h13]; omega) (by omega)
  · unfold nodeT
    simp only [List.mem_append, List.mem_singleton, not_or]
    exact ⟨⟨itoa_digits h1.1 (by decide), by decide⟩, itoa_digits h2.1 (by decide)⟩
def NodeOk (p : Int × Int) : Prop := (0 ≤ p.1 ∧ p.1 ≤ 1000000) ∧ (0 ≤ p.2 ∧ p.2 ≤ 1000000000000)
theorem cut_map : ∀ (l : List (Int × Int)), l ≠ [] → (∀ p ∈ l, NodeOk p) → cutL 32 (mapT l) = nodesT l
  | [], h, _ => absurd rfl h
  | [p], _, h => by
    have hp := h p (by simp)
    show cutL 32 (Lib.join [nodeT p] [32]) = [nodeT p]
    rw [Lib.join_one, cutL_none (node_text hp.1 hp.2).2]
  | p :: q :: r, _, h => by
    have hp := h p (by simp)
    have ih := cut_map (q :: r) (by simp) fun x hx => h x (List.mem_cons_of_mem _ hx)
    have e : mapT (p :: q :: r) = nodeT p ++ 32 :: mapT (q :: r) := by
      unfold mapT
      show Lib.join (nodeT p :: nodeT q :: nodesT r) [32] = _ ++ 32 :: Lib.join (nodeT q :: nodesT r) [32]
      rw [Lib.join_cons, Lib.join_cons]
      simp [Lib.joinTail]
    rw [e, cutL_join (node_text hp.1 hp.2).2, ih]
    rfl
theorem nodes_back : ∀ (l : List (Int × Int)), (∀ p ∈ l, NodeOk p) → nodesP (nodesT l) = some l
  | [], _ => rfl
  | p :: r, h => by
    have hp := h p (by simp)
    show nodesP (nodeT p :: nodesT r) = _
    rw [nodesP_cons (node_text hp.1 hp.2).1, nodes_back r fun x hx => h x (List.mem_cons_of_mem _ hx)]
    rfl
theorem parse_map {l : List (Int × Int)} (he : mapErrL l = 0) (hn : l ≠ []) (h : ∀ p ∈ l, NodeOk p) : parseMapL (mapT l) = (l, 0) := by
  unfold parseMapL
  rw [cut_map l hn h, nodes_back l h]
  show (if mapErrL l = 0 then (l, 0) else ([], mapErrL l)) = _
  rw [if_pos he]

end Go.Lq

namespace Go.Lq
open Go
open Go.Proofs
theorem cells3 : Tryz.prog.cellsOf 3 = 1 := by kernel_rfl
theorem cellsNodes : Tryz.prog.cellsOf 22 = 1 := by kernel_rfl
theorem cellsMap : Tryz.prog.cellsOf 24 = 1 := by kernel_rfl
theorem i64_of {n : Int} (h : InI64 n) : i64 n := by unfold InI64 at h; unfold i64; omega
theorem Rep.str_inv {P : Program} {H : AHeap} {t : TypeId} {vs : List Value} (ht : P.underlying t = some .string) (h : Rep P H t vs) : ∃ s, vs = [.string s] ∧ s.size ≤ maxLen := by
  cases h with
  | string h hs => exact ⟨_, rfl, hs⟩
  | bool h => rw [ht] at h; cases h
  | int h => rw [ht] at h; cases h
  | nil h => rw [ht] at h; cases h
  | empty h => rw [ht] at h; cases h
  | slice h => rw [ht] at h; cases h
  | struct h => rw [ht] at h; cases h
  | array h => rw [ht] at h; cases h
theorem RepA.str {P : Program} {H : AHeap} {t : TypeId} {v : Value} (ht : P.underlying t = some .string) (h : RepA P H t v) : ∃ l : List UInt8, v = .string (bs l) ∧ l.length ≤ maxLen := by
  obtain ⟨s, e, hs⟩ := (h.flat (fun _ e => by rw [ht] at e; cases e) (fun _ _ e => by rw [ht] at e; cases e)).str_inv ht
  cases e
  refine ⟨s.data.toList, by rw [← bs_of], ?_⟩
  have : s.size = s.data.toList.length := by cases s; simp [ByteArray.size]
  omega
set_option maxRecDepth 100000 in
theorem repMapA {H : AHeap} {v : Value} (h : RepA Tryz.prog H 24 v) : ∃ l s, v = .agg ⟨[s]⟩ ∧ Pairs H l s ∧ l.length ≤ maxLen ∧ InP l := by
  obtain ⟨acs, rfl, hr⟩ := h.struct Tryz.underlying24
  obtain ⟨hl, hf⟩ := hr.struct_inv Tryz.underlying24
  rw [cellsMap] at hl
  match acs, hl with
  | [s], _ =>
    have h0 : Rep Tryz.prog H 22 (([s].drop 0).take (Tryz.prog.cellsOf 22)) := hf 0 _ rfl
    rw [cellsNodes] at h0
    have h1 : Rep Tryz.prog H 22 [s] := h0
    obtain ⟨l, h2, h3, h4⟩ := (RepA.of_slice Tryz.underlying22 h1).pairs Tryz.underlying22 Tryz.underlying64 (by kernel_rfl) rfl rfl rfl rfl Tryz.underlying3 Tryz.underlying3 cells3 cells3
    exact ⟨l, s, rfl, h2, h3, h4⟩
end Go.Lq


namespace Go.Lq
open Go
open Go.Proofs

theorem InB.of {l : List (Int × Int)} (h : InP l) : InB l := fun p hp => by
  obtain ⟨i, hi, e⟩ := List.getElem_of_mem hp
  have := h i
  have e2 : l.getD i (0, 0) = p := by rw [List.getD_eq_getElem?_getD, List.getElem?_eq_getElem hi, ← e]; rfl
  rw [e2] at this
  exact ⟨i64_of this.1, i64_of this.2⟩
theorem parse_len (l : List UInt8) : (parseMapL l).1.length ≤ 20 := by
  unfold parseMapL
  split
  · simp
  · split
    · rename_i h; exact (mapErr_ok h).hi
    · simp
theorem map_nodes {l : List (Int × Int)} (h : mapErrL l = 0) : l ≠ [] ∧ ∀ p ∈ l, NodeOk p := by
  have hk := mapErr_ok h
  refine ⟨fun e => by have := hk.lo; rw [e] at this; simp at this, fun p hp => ?_⟩
  obtain ⟨i, hi, e⟩ := List.getElem_of_mem hp
  have e2 : l.getD i (0, 0) = p := by rw [List.getD_eq_getElem?_getD, List.getElem?_eq_getElem hi, ← e]; rfl
  have h1 := hk.pos i hi
  have h2 := hk.time i hi
  rw [e2] at h1 h2
  exact ⟨h1, h2⟩
set_option maxRecDepth 100000 in
set_option maxHeartbeats 4000000 in
theorem law3 {H : AHeap} {avs : List Value} (hs : StrH H) (h : RepAll Tryz.prog H [24, 9] avs) : ACall Tryz.prog 3 avs H fun v _ => v = .bool true := by
  obtain ⟨a, b, rfl, h1, h2⟩ := h.two
  obtain ⟨m, s, rfl, hm, hml, hin⟩ := repMapA h1
  obtain ⟨l, rfl, hl⟩ := h2.str Tryz.underlying9
  have hb := InB.of hin
  (refine a3 ?_; simp only [n3, List.replicate, yq, yr, yt, yu]; first | refine q1 ?_ | refine q2 ?_ | refine q6 ?_ | refine q7 ?_ | refine qh rfl ?_ | skip)
  have g0 : (H ++ [AObj.cells true 0 [s]])[H.length]? = some (.cells true 0 [s]) := at_new
  have xG : Ext H (H ++ [AObj.cells true 0 [s]]) := (Ext.refl H).app _
  (repeat (first | refine yv ?_ | (apply yd; simp (disch := first|exact zz|fail) only [go_sem, hm.box1]; with_reducible rfl)))
  generalize (H ++ [AObj.cells true 0 [s]] : AHeap) = G at g0 xG
  have hmG := hm.ext xG
  (refine yg ?_)
  (refine aops_call_to (awake_c) ?_)
  (refine yg ?_)
  refine cond_f rfl ?_
  (repeat (first | refine yw ?_ | ((first | apply yd | apply ye); simp (disch := first|exact zz|fail) only [go_sem, n1_at g0]; with_reducible rfl)))
  (refine aops_call_to (few_c hmG) ?_)
  by_cases hfw : m.length ≤ 22
  rotate_left 1
  · (repeat (first | refine yw ?_ | ((first | apply yd | apply ye); simp (disch := first|exact zz|fail) only [go_sem, dec_f hfw]; with_reducible rfl)))
    refine cond_t rfl ?_
    (refine yg ?_)
    exact fin_1 rfl
  by_cases h600 : (600 : Int) < (l.length : Int)
  · (repeat (first | refine yw ?_ | ((first | apply yd | apply ye); simp (disch := first|exact zz|fail) only [go_sem, dec_t hfw, dec_t h600]; with_reducible rfl)))
    refine cond_t rfl ?_
    (refine yg ?_)
    exact fin_1 rfl
  have hmt := mapT_length hb
  (repeat (first | refine yw ?_ | ((first | apply yd | apply ye); simp (disch := first|exact zz|fail) only [go_sem, dec_t hfw, dec_f h600]; with_reducible rfl)))
  refine cond_f rfl ?_
  (repeat (first | refine yw ?_ | ((first | apply yd | apply ye); simp (disch := first|exact zz|fail) only [go_sem, n1_at g0]; with_reducible rfl)))
  (refine aops_call_to (copyMap_c hmG (by omega)) ?_)
  (refine yg ?_)
  have x1 := xG.app [AObj.cells true 2 (flatP m)]
  have g1 := at_app (N := [AObj.cells true 2 (flatP m)]) g0
  have hC : Pairs (G ++ [AObj.cells true 2 (flatP m)]) m (.slice (some ⟨G.length, 0, none⟩) m.length m.length) := Pairs.last _
  generalize (G ++ [AObj.cells true 2 (flatP m)] : AHeap) = G1 at x1 g1 hC
  (refine aops_call_to (formatMap_c (hs.ext x1) hC (by omega) hb) ?_)
  (refine yg ?_)
  (refine aops_call_to (parseMap_c (hs.ext x1) (l := l) (by omega)) ?_)
  obtain ⟨y, hy⟩ : ∃ y, y = (parseMapL l).1 := ⟨_, rfl⟩
  obtain ⟨e, he⟩ : ∃ e, e = (parseMapL l).2 := ⟨_, rfl⟩
  rw [← hy, ← he]
  have hY : Pairs (G1 ++ retN 2 y.length (flatP y)) y (retV G1 y.length) := Pairs.ret
  have x2 := x1.app (retN 2 y.length (flatP y))
  have g2 := at_app (N := retN 2 y.length (flatP y)) g1
  have ay : isAtom (retV G1 y.length) = true := hY.atom
  generalize (retV G1 y.length) = uv at hY ay
  generalize (G1 ++ retN 2 y.length (flatP y) : AHeap) = G2 at hY x2 g2
  have hst : storeR 1 (.pointer (some ⟨G2.length, 0, none⟩)) (.agg ⟨[uv]⟩) (G2 ++ [.cells true 0 [.slice none 0 0]]) = some (undef, G2 ++ [.cells true 0 [uv]]) := store_newA ay
  (repeat (first | refine yw ?_ | ((first | apply yd | apply ye); simp (disch := first|exact zz|fail) only [go_sem, hst]; with_reducible rfl)))
  have c6 : (G2 ++ [AObj.cells true 0 [uv]])[G2.length]? = some (.cells true 0 [uv]) := at_new
  have g3 := at_app (N := [AObj.cells true 0 [uv]]) g2
  have x3 := x2.app [AObj.cells true 0 [uv]]
  have hY3 := hY.ext ((Ext.refl G2).app [AObj.cells true 0 [uv]])
  obtain ⟨i6, h6⟩ : ∃ i, G2.length = i := ⟨_, rfl⟩
  rw [h6] at c6 ⊢
  generalize (G2 ++ [AObj.cells true 0 [uv]] : AHeap) = G3 at c6 g3 x3 hY3
  (refine yg ?_)
  (refine aops_call_to (rParseMap_c (l := l) (by omega)) ?_)
  rw [← hy, ← he]
  have hyl : y.length ≤ 20 := by rw [hy]; exact parse_len l
  have hZ : Pairs (G3 ++ retN 2 y.length (flatP y)) y (retV G3 y.length) := Pairs.ret
  have x4 := x3.app (retN 2 y.length (flatP y))
  have g4 := at_app (N := retN 2 y.length (flatP y)) g3
  have c6 := at_app (N := retN 2 y.length (flatP y)) c6
  have hY4 := hY3.ext ((Ext.refl G3).app (retN 2 y.length (flatP y)))
  have az : isAtom (retV G3 y.length) = true := hZ.atom
  generalize (retV G3 y.length) = zv at hZ az
  generalize (G3 ++ retN 2 y.length (flatP y) : AHeap) = G4 at hZ x4 g4 c6 hY4
  have hst2 : storeR 1 (.pointer (some ⟨G4.length, 0, none⟩)) (.agg ⟨[zv]⟩) (G4 ++ [.cells true 0 [.slice none 0 0]]) = some (undef, G4 ++ [.cells true 0 [zv]]) := store_newA az
  (repeat (first | refine yw ?_ | ((first | apply yd | apply ye); simp (disch := first|exact zz|fail) only [go_sem, hst2]; with_reducible rfl)))
  have c8 : (G4 ++ [AObj.cells true 0 [zv]])[G4.length]? = some (.cells true 0 [zv]) := at_new
  have g5 := at_app (N := [AObj.cells true 0 [zv]]) g4
  have c6 := at_app (N := [AObj.cells true 0 [zv]]) c6
  have x5 := x4.app [AObj.cells true 0 [zv]]
  have hY5 := hY4.ext ((Ext.refl G4).app [AObj.cells true 0 [zv]])
  have hZ5 := hZ.ext ((Ext.refl G4).app [AObj.cells true 0 [zv]])
  obtain ⟨i8, h8⟩ : ∃ i, G4.length = i := ⟨_, rfl⟩
  rw [h8] at c8 ⊢
  generalize (G4 ++ [AObj.cells true 0 [zv]] : AHeap) = G5 at c8 g5 c6 x5 hY5 hZ5
  have hm5 := hm.ext x5
  (repeat (first | refine yw ?_ | ((first | apply yd | apply ye); simp (disch := first|exact zz|fail) only [go_sem, n1_at g5]; with_reducible rfl)))
  (refine aops_call_to (rFormatMap_c hm5 (by omega) hb) ?_)
  (repeat (first | refine yw ?_ | ((first | apply yd | apply ye); simp (disch := first|exact zz|fail) only [go_sem, dec_f (show ¬ mapT m ≠ mapT m from fun h => h rfl), n1_at c6, n1_at c8]; with_reducible rfl)))
  (refine aops_call_to (sameMap_c hY5 hZ5 (by omega)) ?_)
  rw [dec_t (show y = y from rfl)]
  (refine yg ?_)
  refine cond_f rfl ?_
  (repeat (first | refine yw ?_ | ((first | apply yd | apply ye); simp (disch := first|exact zz|fail) only [go_sem, n1_at g5]; with_reducible rfl)))
  (refine aops_call_to (rMapErr_c hm5 (by omega)) ?_)
  by_cases he0 : mapErrL m = 0
  rotate_left 1
  · (repeat (first | refine yw ?_ | ((first | apply yd | apply ye); simp (disch := first|exact zz|fail) only [go_sem, dec_t (show mapErrL m ≠ 0 from he0)]; with_reducible rfl)))
    refine cond_t rfl ?_
    (refine yg ?_)
    exact fin_1 rfl
  rw [he0]
  obtain ⟨n0, n1⟩ := map_nodes he0
  (refine yg ?_)
  refine cond_f rfl ?_
  (refine yg ?_)
  (refine aops_call_to (parseMap_c (hs.ext x5) (l := mapT m) (by omega)) ?_)
  rw [parse_map he0 n0 n1]
  have hB : Pairs (G5 ++ retN 2 m.length (flatP m)) m (retV G5 m.length) := Pairs.ret
  have g6 := at_app (N := retN 2 m.length (flatP m)) g5
  have hm6 := hm5.ext ((Ext.refl G5).app (retN 2 m.length (flatP m)))
  have ab : isAtom (retV G5 m.length) = true := hB.atom
  generalize (retV G5 m.length) = bv at hB ab
  generalize (G5 ++ retN 2 m.length (flatP m) : AHeap) = G6 at hB g6 hm6
  have hst3 : storeR 1 (.pointer (some ⟨G6.length, 0, none⟩)) (.agg ⟨[bv]⟩) (G6 ++ [.cells true 0 [.slice none 0 0]]) = some (undef, G6 ++ [.cells true 0 [bv]]) := store_newA ab
  (repeat (first | refine yw ?_ | ((first | apply yd | apply ye); simp (disch := first|exact zz|fail) only [go_sem, hst3]; with_reducible rfl)))
  have c10 : (G6 ++ [AObj.cells true 0 [bv]])[G6.length]? = some (.cells true 0 [bv]) := at_new
  have g7 := at_app (N := [AObj.cells true 0 [bv]]) g6
  have hm7 := hm6.ext ((Ext.refl G6).app [AObj.cells true 0 [bv]])
  have hB7 := hB.ext ((Ext.refl G6).app [AObj.cells true 0 [bv]])
  obtain ⟨i10, h10⟩ : ∃ i, G6.length = i := ⟨_, rfl⟩
  rw [h10] at c10 ⊢
  generalize (G6 ++ [AObj.cells true 0 [bv]] : AHeap) = G7 at c10 g7 hm7 hB7
  (repeat (first | refine yw ?_ | ((first | apply yd | apply ye); simp (disch := first|exact zz|fail) only [go_sem, n1_at c10, n1_at g7]; with_reducible rfl)))
  (refine aops_call_to (sameMap_c hB7 hm7 (by omega)) ?_)
  rw [dec_t (show m = m from rfl)]
  (refine yg ?_)
  exact fin_1 rfl
end Go.Lq

namespace Go.Lq
open Go Go.ChangeShapes Go.WideShapes Go.ChangeAt Go.RowKit
open Go.Proofs

set_option maxRecDepth 100000 in
theorem lifted3 (os : Os) (started : os.Started) (X : Type) (enc : TypeId × Value → X) :
    ReturnsInHanded {} Tryz.checked os 3 .any (fun w args => (YtejkpmemicpheaaGreatDoor.Rows.speedStringsSpec.pre enc Tryz.prog Tryz.f3 [] false w args ∧ laidMetH Tryz.prog laidAll w) ∧ sizedMet enc Tryz.prog Tryz.f3 (OpenSpec.ofChange YtejkpmemicpheaaGreatDoor.Rows.speedStringsSpec) false w args)
      (YtejkpmemicpheaaGreatDoor.Rows.speedStringsSpec.post enc Tryz.prog Tryz.f3 false true false false) := by
  refine returnsInHanded_of_change_shaped (C := Tryz.checked) (X := fun w _ => laidMetH Tryz.prog laidAll w) (fun _ _ _ hh h => h.of_heap hh) own_knob started (by kernel_rfl) Tryz.func3
    (ChangeSpec.witness_shaped (enc := enc) (C := Tryz.checked) (os := os) (X := fun w _ => laidMetH Tryz.prog laidAll w) false (World.laidAll Tryz.prog os laidAll) #[.agg #[.slice none 0 0], .string ⟨#[]⟩] 12 (World.laidAll_os _ _ _) (door_shaped os _) (by kernel_rfl) (by kernel_rfl) (by kernel_rfl) (door_met os _)) ?_
  intro W base args ds gs before hsh hval hW hL
  have hWw := hW
  obtain ⟨p, q, hA, _⟩ := hW
  obtain ⟨m0, t0, u0, hLd⟩ := of_laid hL hsh
  refine (calls_of_law (d := 20) hLd globs glob_at hA (fun j t v h1 h2 => hval j t v (by simpa using h1) (by simpa using h2)) (by kernel_rfl) fun H avs hx h => ?_).mono fun e W' ⟨he, hB⟩ => ?_
  · exact law3 (strH hx) (by rw [show Tryz.f3.params = #[24, 9] from Tryz.params3] at h; exact h)
  · subst he
    exact ⟨_, rfl, law_post (bt := 4) laid_out rfl Tryz.underlying4 (by kernel_rfl) (by kernel_rfl) hWw (fun ds hd => by
      rw [show Tryz.f3.params = #[24, 9] from Tryz.params3] at hd
      match ds, hd with
      | [a, b], _ => rfl) hB⟩

theorem unf3 : Tryz.prog.unfollowed 3 = true := by kernel_rfl
theorem rec3 : Tryz.prog.recurses 3 = true := by kernel_rfl
theorem named3 : Tryz.prog.varsNamed 3 = YtejkpmemicpheaaGreatDoor.Rows.speedStringsRow.named := by kernel_rfl
theorem facts3 : joinedFacts Tryz.prog 3 Tryz.f3 YtejkpmemicpheaaGreatDoor.Rows.speedStringsSpec YtejkpmemicpheaaGreatDoor.Rows.speedStringsRow = true := by
  unfold joinedFacts
  rw [may_enter, stops_heard, maps_rowed, laid_out, lifts_final, make_is, unf3, rec3, named3]
  kernel_rfl
theorem holds3 : YtejkpmemicpheaaGreatDoor.Rows.SpeedStringsSaid :=
  OpenClaim.holds_of_wide 3 Tryz.f3 rfl rfl rfl rfl rfl rfl rfl ⟨rfl, rfl, rfl, rfl, rfl⟩ rfl rfl rfl rfl rfl (by kernel_rfl) Tryz.func3 facts3
    (of_decide_eq_true (by kernel_rfl)) (by unfold Func.isWrapper; first | (rw [if_pos (by decide +kernel)]; kernel_rfl) | (rw [if_neg (by decide +kernel)]; exact ⟨rfl, rfl⟩))
    (fun os started H enc _ => lifted3 os started H enc)
end Go.Lq
namespace Go.Proofs.YtejkpmemicpheaaGreatDoor
open Go Go.Lq
theorem speedStrings_proved : Rows.SpeedStringsCardSaid :=
  Claim7.holds_tied_plain_at .later [] [.data, .data, .data, .data, .sentinel, .sentinel, .pinned] true (true, "0f45edf933d94b2041ee32defa7f59a21703d276aed9c21567102dc55ab8e729") true
    holds3 (fun _ h => by cases h) (by kernel_rfl) (fun _ h => by cases h) speedStrings_row_tie rfl ⟨rfl, rfl⟩ main_is rfl
    (fun f fn hf hfn => by
      obtain rfl : f = 3 := Option.some.inj ((show Tryz.prog.funcNamed "lacquer/lacquerlaw03.SpeedStrings" = some 3 by kernel_rfl).symm.trans hf) |>.symm
      obtain rfl : fn = Tryz.f3 := (Option.some.inj (Tryz.func3.symm.trans hfn)).symm
      exact ⟨looks0, fun j t ht => by
        rw [Tryz.params3] at ht
        have hm : t ∈ [24, 9] := by simpa using Array.mem_of_getElem? ht
        have hall : ([24, 9].all fun u => !Tryz.prog.wantsStandIn u) = true := by kernel_rfl
        exact (show Tryz.prog.wantsStandIn t = false by simpa using List.all_eq_true.1 hall t hm)⟩)
    (by kernel_rfl)
end Go.Proofs.YtejkpmemicpheaaGreatDoor
